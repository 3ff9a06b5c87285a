/- Walks: each function computes its model, printed. -/
import Derived.Test.YtnfamnfdndaekaaGreatDoorW5
namespace Go.Proofs.YtnfamnfdndaekaaGreatDoor
open Go Sx M
set_option maxRecDepth 100000
set_option maxHeartbeats 40000000
set_option linter.unusedVariables false
attribute [local irreducible] wpList Code.wp Calls DR QR QS LA LS St
variable {w0 : World} {ros : List Fact} {rs : List Res} {w : World}
theorem sparseref01_GCD_ok {q : Bool} {W : LI} {i : Bool} {X : LI} {r j : Hdr} {out : Bool × LI} (A : sparseref01_GCD q W i X = some out) (F : imm (rI .u32) r.v W ∈ ros) (m : imm (rI .u32) j.v X ∈ ros) (b : St w0 ros rs w) :
  Calls Tryz.prog 42 #[.agg #[.bool q, r.v], .agg #[.bool i, j.v]] w (fun e w => ∃ (Z : Hdr), e = .returned (.agg #[.bool out.1, Z.v]) ∧ St w0 (imm (rI .u32) Z.v out.2 :: ros) rs w) := by
 refine enterQ Tryz.func42 rfl Tryz.ntmps42 rfl fun Q a4 => sR fun _ a5 => yBb (r_box (vals := [.bool q, r.v]) b e0 rfl) fun d1 w b => yBb (r_box (vals := [.bool i, j.v]) b e0 rfl) fun d2 w b => yBb (rAl b ZT_27) fun C w b => wK a5 (sQ fun _ a6 => bE A fun g G A => bE A fun h o A => ?_)
 refine joinN (n := 25) (fun f w => ∃ (B : Nat) (O : Hdr) (H : Nat) (R : Hdr), f 4 = (pB C) ∧ f 5 = (pB B) ∧ f 6 = (pB H) ∧ St w0 ros (box C 27 [.bool false, hnil.v] :: row 88 (rI .u32) O.v g.2 :: box B 27 [.bool g.1, O.v] :: row 88 (rI .u32) R.v h.2 :: box H 27 [.bool h.1, R.v] :: rs) w) (fun k => ?_) ?_
 ·refine dR [0, 1, 0, 7, 0, 0, 63, 127] [1, 3, 4, 5, 6, 7] 6 folM ?_
  replace b := b.drew
  refine Dn [0, 2] [] [1, 4, 5] (yR rfl (lbs_ [.bool q, r.v] ST_27 e0 b R2) (yR rfl (lbs_ [.bool i, j.v] ST_27 e0 b R1) (Rn QSn ?_)))
  refine Lc rfl ?_ (Lc rfl ?_ (Lc1 rfl ?_))
  ·refine Lk wn (yCall FN_92 (a1 e0)) (sparseref01_Abs_ok G F b) ?_
   rintro _ w ⟨d, rfl, b⟩
   refine ⟨_, rfl, ?_⟩
   refine Dn [] [2] [3, 4, 5] (Rn (yS rfl (lbs_ [.bool i, j.v] ST_27 e0 b R2) QSn) ?_)
   refine Lc rfl ?_ (Lc rfl ?_ (Lc1 rfl ?_))
   ·refine Lk wn (yCall FN_92 (a1 e0)) (sparseref01_Abs_ok o m b) ?_
    rintro _ w ⟨c, rfl, b⟩
    refine ⟨_, rfl, ?_⟩
    refine Dn [] [] [4, 5] (Rn QSn ?_)
    refine Lc rfl ?_ (Lc1 rfl ?_)
    ·refine LB wn (rAl b ZT_27) fun t w b => Dn [] [] [5] (Rn QSn ?_)
     refine Lc1 rfl ?_
     refine LB wn (rAl b ZT_27) fun u w b => Dn [] [] [6] (Rn QSn ?_)
     refine Lc1 rfl ?_
     replace b := b.k11
     refine LT wn (r_stbn (vals' := [.bool g.1, d.v]) (us := [.bool g.1, d.v]) b ST_27 e0 e0 rfl rfl (one_of rfl) rfl) fun w b => Dn [] [] [7] (Rn QSn ?_)
     refine Lc1 rfl ?_
     replace b := b.k11
     exact LT wn (r_stbn (vals' := [.bool h.1, c.v]) (us := [.bool h.1, c.v]) b ST_27 e0 e0 rfl rfl (one_of rfl) rfl) fun w b => Dz [] [] (Rn QSn (k _ _ ⟨_, _, _, _, rfl, rfl, rfl, (b.k29)⟩))
    ·refine LB wn (rAl b ZT_27) fun u w b => Dn [] [] [4] (Rn QSn ?_)
     refine Lc1 rfl ?_
     refine LB wn (rAl b ZT_27) fun t w b => Dn [] [] [6] (Rn QSn ?_)
     refine Lc1 rfl ?_
     refine LT wn (r_stbn (vals' := [.bool g.1, d.v]) (us := [.bool g.1, d.v]) b ST_27 e0 e0 rfl rfl (one_of rfl) rfl) fun w b => Dn [] [] [7] (Rn QSn ?_)
     refine Lc1 rfl ?_
     replace b := b.k11
     exact LT wn (r_stbn (vals' := [.bool h.1, c.v]) (us := [.bool h.1, c.v]) b ST_27 e0 e0 rfl rfl (one_of rfl) rfl) fun w b => Dz [] [] (Rn QSn (k _ _ ⟨_, _, _, _, rfl, rfl, rfl, (b.k29)⟩))
   ·refine LB wn (rAl b ZT_27) fun t w b => Dn [] [2] [3, 5] (Rn (yS rfl (lbs_ [.bool i, j.v] ST_27 e0 b R3) QSn) ?_)
    refine Lc rfl ?_ (Lc1 rfl ?_)
    ·refine Lk wn (yCall FN_92 (a1 e0)) (sparseref01_Abs_ok o m b) ?_
     rintro _ w ⟨c, rfl, b⟩
     refine ⟨_, rfl, ?_⟩
     refine Dn [] [] [5] (Rn QSn ?_)
     refine Lc1 rfl ?_
     refine LB wn (rAl b ZT_27) fun u w b => Dn [] [] [6] (Rn QSn ?_)
     refine Lc1 rfl ?_
     replace b := b.k1a
     refine LT wn (r_stbn (vals' := [.bool g.1, d.v]) (us := [.bool g.1, d.v]) b ST_27 e0 e0 rfl rfl (one_of rfl) rfl) fun w b => Dn [] [] [7] (Rn QSn ?_)
     refine Lc1 rfl ?_
     replace b := b.k11
     exact LT wn (r_stbn (vals' := [.bool h.1, c.v]) (us := [.bool h.1, c.v]) b ST_27 e0 e0 rfl rfl (one_of rfl) rfl) fun w b => Dz [] [] (Rn QSn (k _ _ ⟨_, _, _, _, rfl, rfl, rfl, (b.k29)⟩))
    ·refine LB wn (rAl b ZT_27) fun u w b => Dn [] [2] [3] (Rn (yS rfl (lbs_ [.bool i, j.v] ST_27 e0 b R4) QSn) ?_)
     refine Lc1 rfl ?_
     refine Lk wn (yCall FN_92 (a1 e0)) (sparseref01_Abs_ok o m b) ?_
     rintro _ w ⟨c, rfl, b⟩
     refine ⟨_, rfl, ?_⟩
     refine Dn [] [] [6] (Rn QSn ?_)
     refine Lc1 rfl ?_
     replace b := b.k1a
     refine LT wn (r_stbn (vals' := [.bool g.1, d.v]) (us := [.bool g.1, d.v]) b ST_27 e0 e0 rfl rfl (one_of rfl) rfl) fun w b => Dn [] [] [7] (Rn QSn ?_)
     refine Lc1 rfl ?_
     replace b := b.k1a
     exact LT wn (r_stbn (vals' := [.bool h.1, c.v]) (us := [.bool h.1, c.v]) b ST_27 e0 e0 rfl rfl (one_of rfl) rfl) fun w b => Dz [] [] (Rn QSn (k _ _ ⟨_, _, _, _, rfl, rfl, rfl, (b.k29)⟩))
   ·refine LB wn (rAl b ZT_27) fun u w b => Dn [] [2] [3, 4] (Rn (yS rfl (lbs_ [.bool i, j.v] ST_27 e0 b R3) QSn) ?_)
    refine Lc rfl ?_ (Lc1 rfl ?_)
    ·refine Lk wn (yCall FN_92 (a1 e0)) (sparseref01_Abs_ok o m b) ?_
     rintro _ w ⟨c, rfl, b⟩
     refine ⟨_, rfl, ?_⟩
     refine Dn [] [] [4] (Rn QSn ?_)
     refine Lc1 rfl ?_
     refine LB wn (rAl b ZT_27) fun t w b => Dn [] [] [6] (Rn QSn ?_)
     refine Lc1 rfl ?_
     refine LT wn (r_stbn (vals' := [.bool g.1, d.v]) (us := [.bool g.1, d.v]) b ST_27 e0 e0 rfl rfl (one_of rfl) rfl) fun w b => Dn [] [] [7] (Rn QSn ?_)
     refine Lc1 rfl ?_
     replace b := b.k1a
     exact LT wn (r_stbn (vals' := [.bool h.1, c.v]) (us := [.bool h.1, c.v]) b ST_27 e0 e0 rfl rfl (one_of rfl) rfl) fun w b => Dz [] [] (Rn QSn (k _ _ ⟨_, _, _, _, rfl, rfl, rfl, (b.k29)⟩))
    ·refine LB wn (rAl b ZT_27) fun t w b => Dn [] [2] [3] (Rn (yS rfl (lbs_ [.bool i, j.v] ST_27 e0 b R4) QSn) ?_)
     refine Lc1 rfl ?_
     refine Lk wn (yCall FN_92 (a1 e0)) (sparseref01_Abs_ok o m b) ?_
     rintro _ w ⟨c, rfl, b⟩
     refine ⟨_, rfl, ?_⟩
     refine Dn [] [] [6] (Rn QSn ?_)
     refine Lc1 rfl ?_
     replace b := b.k11
     refine LT wn (r_stbn (vals' := [.bool g.1, d.v]) (us := [.bool g.1, d.v]) b ST_27 e0 e0 rfl rfl (one_of rfl) rfl) fun w b => Dn [] [] [7] (Rn QSn ?_)
     refine Lc1 rfl ?_
     replace b := b.k1a
     exact LT wn (r_stbn (vals' := [.bool h.1, c.v]) (us := [.bool h.1, c.v]) b ST_27 e0 e0 rfl rfl (one_of rfl) rfl) fun w b => Dz [] [] (Rn QSn (k _ _ ⟨_, _, _, _, rfl, rfl, rfl, (b.k29)⟩))
  ·refine LB wn (rAl b ZT_27) fun t w b => Dn [] [0, 2] [1, 5] (Rn (yS rfl (lbs_ [.bool q, r.v] ST_27 e0 b R3) (yS rfl (lbs_ [.bool i, j.v] ST_27 e0 b R2) QSn)) ?_)
   refine Lc rfl ?_ (Lc1 rfl ?_)
   ·refine Lk wn (yCall FN_92 (a1 e0)) (sparseref01_Abs_ok G F b) ?_
    rintro _ w ⟨d, rfl, b⟩
    refine ⟨_, rfl, ?_⟩
    refine Dn [] [2] [3, 5] (Rn (yS rfl (lbs_ [.bool i, j.v] ST_27 e0 b R3) QSn) ?_)
    refine Lc rfl ?_ (Lc1 rfl ?_)
    ·refine Lk wn (yCall FN_92 (a1 e0)) (sparseref01_Abs_ok o m b) ?_
     rintro _ w ⟨c, rfl, b⟩
     refine ⟨_, rfl, ?_⟩
     refine Dn [] [] [5] (Rn QSn ?_)
     refine Lc1 rfl ?_
     refine LB wn (rAl b ZT_27) fun u w b => Dn [] [] [6] (Rn QSn ?_)
     refine Lc1 rfl ?_
     replace b := b.k15
     refine LT wn (r_stbn (vals' := [.bool g.1, d.v]) (us := [.bool g.1, d.v]) b ST_27 e0 e0 rfl rfl (one_of rfl) rfl) fun w b => Dn [] [] [7] (Rn QSn ?_)
     refine Lc1 rfl ?_
     replace b := b.k11
     exact LT wn (r_stbn (vals' := [.bool h.1, c.v]) (us := [.bool h.1, c.v]) b ST_27 e0 e0 rfl rfl (one_of rfl) rfl) fun w b => Dz [] [] (Rn QSn (k _ _ ⟨_, _, _, _, rfl, rfl, rfl, (b.k29)⟩))
    ·refine LB wn (rAl b ZT_27) fun u w b => Dn [] [2] [3] (Rn (yS rfl (lbs_ [.bool i, j.v] ST_27 e0 b R4) QSn) ?_)
     refine Lc1 rfl ?_
     refine Lk wn (yCall FN_92 (a1 e0)) (sparseref01_Abs_ok o m b) ?_
     rintro _ w ⟨c, rfl, b⟩
     refine ⟨_, rfl, ?_⟩
     refine Dn [] [] [6] (Rn QSn ?_)
     refine Lc1 rfl ?_
     replace b := b.k15
     refine LT wn (r_stbn (vals' := [.bool g.1, d.v]) (us := [.bool g.1, d.v]) b ST_27 e0 e0 rfl rfl (one_of rfl) rfl) fun w b => Dn [] [] [7] (Rn QSn ?_)
     refine Lc1 rfl ?_
     replace b := b.k1a
     exact LT wn (r_stbn (vals' := [.bool h.1, c.v]) (us := [.bool h.1, c.v]) b ST_27 e0 e0 rfl rfl (one_of rfl) rfl) fun w b => Dz [] [] (Rn QSn (k _ _ ⟨_, _, _, _, rfl, rfl, rfl, (b.k29)⟩))
   ·refine LB wn (rAl b ZT_27) fun u w b => Dn [] [0, 2] [1] (Rn (yS rfl (lbs_ [.bool q, r.v] ST_27 e0 b R4) (yS rfl (lbs_ [.bool i, j.v] ST_27 e0 b R3) QSn)) ?_)
    refine Lc1 rfl ?_
    refine Lk wn (yCall FN_92 (a1 e0)) (sparseref01_Abs_ok G F b) ?_
    rintro _ w ⟨d, rfl, b⟩
    refine ⟨_, rfl, ?_⟩
    refine Dn [] [2] [3] (Rn (yS rfl (lbs_ [.bool i, j.v] ST_27 e0 b R4) QSn) ?_)
    refine Lc1 rfl ?_
    refine Lk wn (yCall FN_92 (a1 e0)) (sparseref01_Abs_ok o m b) ?_
    rintro _ w ⟨c, rfl, b⟩
    refine ⟨_, rfl, ?_⟩
    refine Dn [] [] [6] (Rn QSn ?_)
    refine Lc1 rfl ?_
    replace b := b.k15
    refine LT wn (r_stbn (vals' := [.bool g.1, d.v]) (us := [.bool g.1, d.v]) b ST_27 e0 e0 rfl rfl (one_of rfl) rfl) fun w b => Dn [] [] [7] (Rn QSn ?_)
    refine Lc1 rfl ?_
    replace b := b.k15
    exact LT wn (r_stbn (vals' := [.bool h.1, c.v]) (us := [.bool h.1, c.v]) b ST_27 e0 e0 rfl rfl (one_of rfl) rfl) fun w b => Dz [] [] (Rn QSn (k _ _ ⟨_, _, _, _, rfl, rfl, rfl, (b.k29)⟩))
  ·refine LB wn (rAl b ZT_27) fun u w b => Dn [] [0, 2] [1, 4] (Rn (yS rfl (lbs_ [.bool q, r.v] ST_27 e0 b R3) (yS rfl (lbs_ [.bool i, j.v] ST_27 e0 b R2) QSn)) ?_)
   refine Lc rfl ?_ (Lc1 rfl ?_)
   ·refine Lk wn (yCall FN_92 (a1 e0)) (sparseref01_Abs_ok G F b) ?_
    rintro _ w ⟨d, rfl, b⟩
    refine ⟨_, rfl, ?_⟩
    refine Dn [] [2] [3, 4] (Rn (yS rfl (lbs_ [.bool i, j.v] ST_27 e0 b R3) QSn) ?_)
    refine Lc rfl ?_ (Lc1 rfl ?_)
    ·refine Lk wn (yCall FN_92 (a1 e0)) (sparseref01_Abs_ok o m b) ?_
     rintro _ w ⟨c, rfl, b⟩
     refine ⟨_, rfl, ?_⟩
     refine Dn [] [] [4] (Rn QSn ?_)
     refine Lc1 rfl ?_
     refine LB wn (rAl b ZT_27) fun t w b => Dn [] [] [6] (Rn QSn ?_)
     refine Lc1 rfl ?_
     refine LT wn (r_stbn (vals' := [.bool g.1, d.v]) (us := [.bool g.1, d.v]) b ST_27 e0 e0 rfl rfl (one_of rfl) rfl) fun w b => Dn [] [] [7] (Rn QSn ?_)
     refine Lc1 rfl ?_
     replace b := b.k15
     exact LT wn (r_stbn (vals' := [.bool h.1, c.v]) (us := [.bool h.1, c.v]) b ST_27 e0 e0 rfl rfl (one_of rfl) rfl) fun w b => Dz [] [] (Rn QSn (k _ _ ⟨_, _, _, _, rfl, rfl, rfl, (b.k29)⟩))
    ·refine LB wn (rAl b ZT_27) fun t w b => Dn [] [2] [3] (Rn (yS rfl (lbs_ [.bool i, j.v] ST_27 e0 b R4) QSn) ?_)
     refine Lc1 rfl ?_
     refine Lk wn (yCall FN_92 (a1 e0)) (sparseref01_Abs_ok o m b) ?_
     rintro _ w ⟨c, rfl, b⟩
     refine ⟨_, rfl, ?_⟩
     refine Dn [] [] [6] (Rn QSn ?_)
     refine Lc1 rfl ?_
     replace b := b.k11
     refine LT wn (r_stbn (vals' := [.bool g.1, d.v]) (us := [.bool g.1, d.v]) b ST_27 e0 e0 rfl rfl (one_of rfl) rfl) fun w b => Dn [] [] [7] (Rn QSn ?_)
     refine Lc1 rfl ?_
     replace b := b.k15
     exact LT wn (r_stbn (vals' := [.bool h.1, c.v]) (us := [.bool h.1, c.v]) b ST_27 e0 e0 rfl rfl (one_of rfl) rfl) fun w b => Dz [] [] (Rn QSn (k _ _ ⟨_, _, _, _, rfl, rfl, rfl, (b.k29)⟩))
   ·refine LB wn (rAl b ZT_27) fun t w b => Dn [] [0, 2] [1] (Rn (yS rfl (lbs_ [.bool q, r.v] ST_27 e0 b R4) (yS rfl (lbs_ [.bool i, j.v] ST_27 e0 b R3) QSn)) ?_)
    refine Lc1 rfl ?_
    refine Lk wn (yCall FN_92 (a1 e0)) (sparseref01_Abs_ok G F b) ?_
    rintro _ w ⟨d, rfl, b⟩
    refine ⟨_, rfl, ?_⟩
    refine Dn [] [2] [3] (Rn (yS rfl (lbs_ [.bool i, j.v] ST_27 e0 b R4) QSn) ?_)
    refine Lc1 rfl ?_
    refine Lk wn (yCall FN_92 (a1 e0)) (sparseref01_Abs_ok o m b) ?_
    rintro _ w ⟨c, rfl, b⟩
    refine ⟨_, rfl, ?_⟩
    refine Dn [] [] [6] (Rn QSn ?_)
    refine Lc1 rfl ?_
    replace b := b.k1a
    refine LT wn (r_stbn (vals' := [.bool g.1, d.v]) (us := [.bool g.1, d.v]) b ST_27 e0 e0 rfl rfl (one_of rfl) rfl) fun w b => Dn [] [] [7] (Rn QSn ?_)
    refine Lc1 rfl ?_
    replace b := b.k15
    exact LT wn (r_stbn (vals' := [.bool h.1, c.v]) (us := [.bool h.1, c.v]) b ST_27 e0 e0 rfl rfl (one_of rfl) rfl) fun w b => Dz [] [] (Rn QSn (k _ _ ⟨_, _, _, _, rfl, rfl, rfl, (b.k29)⟩))
 rintro f w ⟨B, O, H, R, a7, a8, a9, b⟩
 refine a6 _ _ (sQ fun _ b0 => blockQ fun b1 b2 => bE A fun b3 b4 A => ?_)
 have b5 : ∀ (D : Bool) (S : LI) (E : Hdr) (f : FV) w, f 4 = (pB C) → f 5 = (pB B) → St w0 (imm (rI .u32) E.v S :: ros) (box C 27 [.bool false, hnil.v] :: box B 27 [.bool D, E.v] :: rs) w → (D, S) = b3 → b1 (.exit 0) (fr 25 f) w := by
  intro D S E f w a0 b6 b ho
  subst ho
  refine b2 _ _ _ (b0 _ _ (sR fun _ c0 => yY (lbs_ [.bool D, E.v] ST_27 (eh b6) b R1) (yT (r_stbn (vals' := [.bool D, E.v]) (us := [.bool D, E.v]) b ST_27 (eh a0) e0 rfl rfl (one_of rfl) rfl) fun w b => wK c0 (wp_ret ?_))))
  cases A
  exact a4 _ _ _ (fin1r Tryz.results42 (rcs2 rfl a0 b R0 ST_27 rfl) ⟨_, rfl, (b.k1l)⟩)
 replace b := (((b.k11).fz).k1a).fz
 refine loopQ (fun s a w => ∃ (J : Bool) (T : LI) (x : Bool) (U : LI) (f : FV) (K y : Hdr), (J, T, x, U) = s ∧ a = fr 25 f ∧ f 4 = (pB C) ∧ f 5 = (pB B) ∧ f 6 = (pB H) ∧ St w0 (imm (rI .u32) K.v T :: imm (rI .u32) y.v U :: ros) (box C 27 [.bool false, hnil.v] :: box B 27 [.bool J, K.v] :: box H 27 [.bool x, y.v] :: rs) w) b4 ⟨_, _, _, _, _, _, _, rfl, rfl, a7, a8, a9, (b.facts (allC F1 (allC F0 (allT (allT allI)))))⟩ ?_
 rintro _ _ w d3 ⟨J, T, x, U, f, K, y, rfl, rfl, a3, L, I, b⟩ p c1 d4 c2 c3
 refine seqQ fun d5 c4 c5 => sR fun _ c6 => yY (lbs_ [.bool x, y.v] ST_27 (eh I) b R2) (bE p fun d6 c7 p => yC (yCall FN_89 (a1 e0)) (sparseref01_Sign_ok c7 F1 b) ?_)
 rintro _ w ⟨rfl, b⟩
 refine ⟨_, rfl, ?_⟩
 refine yY (yneq e0 rfl) (wK c6 ?_)
 rcases iteS p with ⟨V, p⟩ | ⟨V, p⟩
 ·refine condF e0 (nF (dT V)) (wp_exit (c5 _ _ _ rfl ?_))
  cases p
  exact c3 _ _ _ _ rfl rfl (b5 _ _ _ _ _ a3 L ((b.k2a).facts (allC F0 (allT (allT allI)))) (c1 _ rfl))
 ·refine condT e0 (nT (dF V)) (wp_skip (c4 _ _ (blockQ fun _ c8 => sR fun _ c9 => yY (lbs_ [.bool J, K.v] ST_27 (eh L) b R1) (yY (lbs_ [.bool x, y.v] ST_27 (eh I) b R2) (bE p fun l d0 p => yC (yCall FN_79 (a2 e0 e0)) (sparseref01_DivMod_ok d0 F0 F1 b) ?_)))))
  rintro _ w ⟨N, z, rfl, b⟩
  refine ⟨_, rfl, ?_⟩
  refine Ym (.tuple #[.agg #[.bool l.1, N.v], .agg #[.bool l.2.2.1, z.v]]) e0 (yY (x_ (.agg #[.bool l.1, N.v]) e0) (yY (x_ (.agg #[.bool l.2.2.1, z.v]) e0) (yBb (rAl b ZT_27) fun d7 w b => yBb (rAl b ZT_27) fun d8 w b => yT (r_stbn (vals' := [.bool l.1, N.v]) (us := [.bool l.1, N.v]) (b.k11) ST_27 e0 e0 rfl rfl (one_of rfl) rfl) fun w b => yT (r_stbn (vals' := [.bool l.2.2.1, z.v]) (us := [.bool l.2.2.1, z.v]) (b.k11) ST_27 e0 e0 rfl rfl (one_of rfl) rfl) fun w b => wK c9 (dR [0, 0, 1, 7] [2, 3] 2 folM ?_))))
  replace b := b.drew
  refine Dn [0, 1] [] [2] (yR rfl (lbs_ [.bool x, y.v] ST_27 (eh I) b R5) (yR rfl (lbs_ [.bool l.2.2.1, z.v] ST_27 e0 b R0) (Rn QSn ?_)))
  refine Lc1 rfl ?_
  replace b := b.k1t
  refine LT wn (r_stbn (vals' := [.bool x, y.v]) (us := [.bool x, y.v]) b ST_27 (eh L) e0 rfl rfl (one_of rfl) rfl) fun w b => Dn [] [1] [3] (Rn (yS rfl (lbs_ [.bool l.2.2.1, z.v] ST_27 e0 b R1) QSn) ?_)
  refine Lc1 rfl ?_
  replace b := b.k1x
  refine LT wn (r_stbn (vals' := [.bool l.2.2.1, z.v]) (us := [.bool l.2.2.1, z.v]) b ST_27 (eh I) e0 rfl rfl (one_of rfl) rfl) fun w b => Dz [] [] (Rn QSn (c8 _ _ _ ?_))
  cases p
  exact c2 _ _ _ rfl ⟨_, _, _, _, _, _, _, rfl, rfl, a3, L, I, ((b.k2b).facts (allC F2 (allC F0 (allT (allT (allT allI))))))⟩
theorem sparseref07_Rational_ok {V : Bool} {c5 : LI} {d : Bool} {b1 : LI} {W g : Hdr} {out : Bool × LI × Bool × LI × Bool} (c : sparseref07_Rational V c5 d b1 = some out) (f7 : imm (rI .u32) W.v c5 ∈ ros) (H : imm (rI .u32) g.v b1 ∈ ros) (b : St w0 ros rs w) :
  Calls Tryz.prog 40 #[.agg #[.bool V, W.v], .agg #[.bool d, g.v]] w (fun e w => ∃ (c6 c7 : Hdr), e = .returned (.tuple #[.agg #[.bool out.1, c6.v], .agg #[.bool out.2.2.1, c7.v], .bool out.2.2.2.2]) ∧ St w0 ros (row 88 (rI .u32) c6.v out.2.1 :: row 88 (rI .u32) c7.v out.2.2.2.1 :: rs) w) := by
 refine enterQ Tryz.func40 rfl Tryz.ntmps40 rfl fun Q b2 => sR fun _ f8 => yBb (r_box (vals := [.bool V, W.v]) b e0 rfl) fun n7 w b => yBb (r_box (vals := [.bool d, g.v]) b e0 rfl) fun A w b => yBb (rAl b ZT_27) fun r w b => yBb (rAl b ZT_27) fun t w b => Ya (.bool false) rfl (wK f8 ?_)
 refine seqQ fun n8 f9 g0 => sR fun _ g1 => yY (lbs_ [.bool d, g.v] ST_27 e0 b R2) (bE c fun n9 g2 c => yC (yCall FN_89 (a1 e0)) (sparseref01_Sign_ok g2 H b) ?_)
 rintro _ w ⟨rfl, b⟩
 refine ⟨_, rfl, ?_⟩
 refine yY (yleq e0 rfl) (wK g1 ?_)
 refine cIf e0 c (fun g3 c => ?_) fun g3 c => ?_
 ·refine sR fun _ g4 => yY (ybuild (us := [.bool false, hnil.v]) [] SO_27 bp0 rfl) (yY (ybuild (us := [.bool false, hnil.v]) [] SO_27 bp0 rfl) (yT (r_stbn (vals' := [.bool false, hnil.v]) (us := [.bool false, hnil.v]) (b.k11) ST_27 e0 e0 rfl rfl (one_of rfl) rfl) fun w b => yT (r_stbn (vals' := [.bool false, hnil.v]) (us := [.bool false, hnil.v]) (b.k11) ST_27 e0 e0 rfl rfl (one_of rfl) rfl) fun w b => Ya (.bool false) rfl (wK g4 (wp_ret (g0 _ _ _ rfl ?_)))))
  cases c
  replace b := (b.rowNh 88 (rI .u32)).rowNh 88 (rI .u32)
  exact b2 _ _ _ (fin3r Tryz.results40 (rcs2 rfl rfl b R3 ST_27 rfl) (rcs2 rfl rfl b R2 ST_27 rfl) ⟨rfl, rfl⟩ ⟨_, _, rfl, (b.k2c)⟩)
 ·refine wp_skip (f9 _ _ (sR fun _ g5 => yY (lbs_ [.bool V, W.v] ST_27 e0 b R3) (yY (lbs_ [.bool d, g.v] ST_27 e0 b R2) (bE c fun h g6 c => yC (yCall FN_79 (a2 e0 e0)) (sparseref01_DivMod_ok g6 f7 H b) ?_))))
  rintro _ w ⟨X, i, rfl, b⟩
  refine ⟨_, rfl, ?_⟩
  refine Ym (.tuple #[.agg #[.bool h.1, X.v], .agg #[.bool h.2.2.1, i.v]]) e0 (yY (x_ (.agg #[.bool h.1, X.v]) e0) (yY (x_ (.agg #[.bool h.2.2.1, i.v]) e0) (yBb (rAl b ZT_27) fun o0 w b => yBb (rAl b ZT_27) fun o1 w b => yT (r_stbn (vals' := [.bool h.1, X.v]) (us := [.bool h.1, X.v]) (b.k11) ST_27 e0 e0 rfl rfl (one_of rfl) rfl) fun w b => yT (r_stbn (vals' := [.bool h.2.2.1, i.v]) (us := [.bool h.2.2.1, i.v]) (b.k11) ST_27 e0 e0 rfl rfl (one_of rfl) rfl) fun w b => wK g5 (sQ fun _ g7 => ?_))))
  refine joinN (n := 79) (fun f w => ∃ (O o : Nat), f 3 = (pB A) ∧ f 4 = (pB r) ∧ f 5 = (pB t) ∧ f 9 = (pB O) ∧ f 10 = (pB o) ∧ St w0 (imm (rI .u32) i.v h.2.2.2 :: ros) (box A 27 [.bool d, g.v] :: box r 27 [.bool false, hnil.v] :: box t 27 [.bool false, hnil.v] :: box O 27 [.bool d, g.v] :: box o 27 [.bool h.2.2.1, i.v] :: rs) w) (fun c8 => ?_) ?_
  ·refine dR [0, 0, 0, 0, 13, 31] [2, 3, 4, 5] 4 folM ?_
   replace b := b.drew
   refine Dn [0, 1] [] [2, 3] (yR rfl (lbs_ [.bool d, g.v] ST_27 e0 b R5) (yR rfl (lbs_ [.bool h.2.2.1, i.v] ST_27 e0 b R0) (Rn QSn ?_)))
   refine Lc rfl ?_ (Lc1 rfl ?_)
   ·refine LB wn (rAl b ZT_27) fun g8 w b => Dn [] [0, 1] [3] (Rn (yS rfl (lbs_ [.bool d, g.v] ST_27 e0 b R6) (yS rfl (lbs_ [.bool h.2.2.1, i.v] ST_27 e0 b R1) QSn)) ?_)
    refine Lc1 rfl ?_
    refine LB wn (rAl b ZT_27) fun g9 w b => Dn [] [0, 1] [4] (Rn (yS rfl (lbs_ [.bool d, g.v] ST_27 e0 b R7) (yS rfl (lbs_ [.bool h.2.2.1, i.v] ST_27 e0 b R2) QSn)) ?_)
    refine Lc1 rfl ?_
    replace b := b.k11
    refine LT wn (r_stbn (vals' := [.bool d, g.v]) (us := [.bool d, g.v]) b ST_27 e0 e0 rfl rfl (one_of rfl) rfl) fun w b => Dn [] [1] [5] (Rn (yS rfl (lbs_ [.bool h.2.2.1, i.v] ST_27 e0 b R2) QSn) ?_)
    refine Lc1 rfl ?_
    replace b := b.k11
    exact LT wn (r_stbn (vals' := [.bool h.2.2.1, i.v]) (us := [.bool h.2.2.1, i.v]) b ST_27 e0 e0 rfl rfl (one_of rfl) rfl) fun w b => Dz [] [] (Rn QSn (c8 _ _ ⟨_, _, rfl, rfl, rfl, rfl, rfl, (b.k2d)⟩))
   ·refine LB wn (rAl b ZT_27) fun g9 w b => Dn [] [0, 1] [2] (Rn (yS rfl (lbs_ [.bool d, g.v] ST_27 e0 b R6) (yS rfl (lbs_ [.bool h.2.2.1, i.v] ST_27 e0 b R1) QSn)) ?_)
    refine Lc1 rfl ?_
    refine LB wn (rAl b ZT_27) fun g8 w b => Dn [] [0, 1] [4] (Rn (yS rfl (lbs_ [.bool d, g.v] ST_27 e0 b R7) (yS rfl (lbs_ [.bool h.2.2.1, i.v] ST_27 e0 b R2) QSn)) ?_)
    refine Lc1 rfl ?_
    refine LT wn (r_stbn (vals' := [.bool d, g.v]) (us := [.bool d, g.v]) b ST_27 e0 e0 rfl rfl (one_of rfl) rfl) fun w b => Dn [] [1] [5] (Rn (yS rfl (lbs_ [.bool h.2.2.1, i.v] ST_27 e0 b R2) QSn) ?_)
    refine Lc1 rfl ?_
    replace b := b.k11
    exact LT wn (r_stbn (vals' := [.bool h.2.2.1, i.v]) (us := [.bool h.2.2.1, i.v]) b ST_27 e0 e0 rfl rfl (one_of rfl) rfl) fun w b => Dz [] [] (Rn QSn (c8 _ _ ⟨_, _, rfl, rfl, rfl, rfl, rfl, (b.k2d)⟩))
  rintro f w ⟨O, o, h0, h1, h2, h4, h5, b⟩
  refine g7 _ _ (sR fun _ h7 => yY (ybuild (us := [.bool false, hnil.v]) [] SO_27 bp0 rfl) (bE c fun c9 h8 c => yC (yCall FN_43 (a1 rfl)) (sparseref01_FromInt_ok h8 b) ?_))
  rintro _ w ⟨d0, rfl, b⟩
  refine ⟨_, rfl, ?_⟩
  refine yBb (rAl b ZT_27) fun d1 w b => yBb (rAl b ZT_27) fun B w b => yT (r_stbn (vals' := [.bool false, hnil.v]) (us := [.bool false, hnil.v]) (b.k11) ST_27 e0 e0 rfl rfl (one_of rfl) rfl) fun w b => yT (r_stbn (vals' := [.bool c9.1, d0.v]) (us := [.bool c9.1, d0.v]) (b.k11) ST_27 e0 e0 rfl rfl (one_of rfl) rfl) fun w b => wK h7 (sQ fun _ h9 => blockQ fun i0 i1 => bE c fun i2 i3 c => ?_)
  have i4 : ∀ (Z : Bool) (b3 : LI) (I : Bool) (b4 : LI) (a0 J : Hdr) (f : FV) w, f 3 = (pB A) → f 4 = (pB r) → f 5 = (pB t) → f 10 = (pB o) → f 12 = (pB B) → St w0 (imm (rI .u32) a0.v b3 :: ros) (box A 27 [.bool d, g.v] :: box r 27 [.bool false, hnil.v] :: box t 27 [.bool false, hnil.v] :: box o 27 [.bool Z, a0.v] :: row 88 (rI .u32) J.v b4 :: box B 27 [.bool I, J.v] :: rs) w → (Z, b3, I, b4) = i2 → i0 (.exit 0) (fr 79 f) w := by
   intro Z b3 I b4 a0 J f w d2 d3 d4 a3 K b ho
   subst ho
   refine i1 _ _ _ (h9 _ _ (sQ fun i5 i6 => sR fun _ i7 => yY (lbs_ [.bool I, J.v] ST_27 (eh K) b R5) (bE c fun o3 i8 c => ?_)))
   replace b := (b.k1t).fz
   refine yC (yCall FN_89 (a1 e0)) (sparseref01_Sign_ok i8 F0 b) ?_
   rintro _ w ⟨rfl, b⟩
   refine ⟨_, rfl, ?_⟩
   refine yY (ylss e0 rfl) (wK i7 ?_)
   have d5 : ∀ (L : Bool) (a4 : LI) (p : Bool) (a5 : LI) (D m : Hdr) (f : FV) w, f 3 = (pB A) → f 4 = (pB r) → f 5 = (pB t) → f 10 = (pB o) → f 12 = (pB B) → St w0 (imm (rI .u32) D.v a4 :: imm (rI .u32) m.v a5 :: ros) (box A 27 [.bool d, g.v] :: box r 27 [.bool false, hnil.v] :: box t 27 [.bool false, hnil.v] :: box o 27 [.bool L, D.v] :: box B 27 [.bool p, m.v] :: rs) w → sparseref07_Rational_j3 d b1 L a4 p a5 = some out → i5 .normal (fr 79 f) w := by
    intro L a4 p a5 D m f w N d6 d7 b5 E b c
    refine i6 _ _ (seqQ fun o4 i9 j0 => sQ fun _ j2 => bE c fun o5 d8 c => bE c fun o6 d9 c => bE c fun e1 e2 c => bE c fun b6 q c => ?_)
    refine joinN (n := 79) (fun f w => f 4 = (pB r) ∧ f 5 = (pB t) ∧ f 10 = (pB o) ∧ f 12 = (pB B) ∧ f 72 = .bool b6 ∧ St w0 (imm (rI .u32) D.v a4 :: imm (rI .u32) m.v a5 :: ros) (box r 27 [.bool false, hnil.v] :: box t 27 [.bool false, hnil.v] :: box o 27 [.bool L, D.v] :: box B 27 [.bool p, m.v] :: rs) w) (fun e3 => ?_) ?_
    ·rcases iteS q with ⟨k, q⟩ | ⟨k, q⟩
     ·have j5 := someI q
      refine dR [0, 0, 3, 7, 0, 31, 63, 127, 255, 255, 1023, 2047, 4095, 8191, 16383] [2, 3, 5, 10, 11, 12] 6 folM ?_
      replace b := b.drew
      refine Dn [0, 1, 4] [] [2] (yR rfl (lbs_ [.bool p, m.v] ST_27 (eh E) b R4) (yR rfl (lbs_ [.bool p, m.v] ST_27 (eh E) b R4) (yR rfl (lbs_ [.bool d, g.v] ST_27 (eh N) b R0) (Rn QSn ?_))))
      refine Lc1 rfl ?_
      refine Lk wn (yCall FN_70 (a2 e0 e0)) (sparseref01_Mul_ok d8 F1 F1 b) ?_
      rintro _ w ⟨j6, rfl, b⟩
      refine ⟨_, rfl, ?_⟩
      refine Dn [] [4] [3] (Rn (yS rfl (lbs_ [.bool d, g.v] ST_27 (eh N) b R1) QSn) ?_)
      refine Lc1 rfl ?_
      replace b := b.fz
      refine Lk wn (yCall FN_72 (a2 e0 rfl)) (sparseref01_Shift_ok d9 F0 b) ?_
      rintro _ w ⟨j7, rfl, b⟩
      refine ⟨_, rfl, ?_⟩
      refine Dn [] [4] [5] (Rn (yS rfl (lbs_ [.bool d, g.v] ST_27 (eh N) b R1) QSn) ?_)
      refine Lc1 rfl ?_
      replace b := b.fz
      refine Lk wn (yCall FN_71 (a2 e0 e0)) (sparseref01_Cmp_ok e2 F0 (F_4 H) b) ?_
      rintro _ w ⟨rfl, b⟩
      refine ⟨_, rfl, ?_⟩
      refine Dn [6, 7, 8, 9] [] [10] (yR rfl (ygtr e0 rfl) (yR rfl (m_ (.bool (decide ((0 : Int) < e1))) e0) (Rx rfl rfl (wX (dT k)) (Rx rfl rfl (wX (dT k)) (Rn QSn ?_)))))
      refine Lc1 rfl ?_
      refine Lx (wX (dT k)) (Dn [] [] [11] (Rn QSn ?_))
      refine Lc1 rfl ?_
      refine Lx (wX (dT k)) (Dn [] [] [12] (Rn QSn ?_))
      refine Lc1 rfl ?_
      exact Lx (wX (dT k)) (Dz [13, 14] [] (Rx rfl rfl (wX (dT k)) (yR rfl (pt_ (.bool b6) e0 (dT k) (eqv j5 rfl)) (Rn QSn (e3 _ _ ⟨d6, d7, b5, E, rfl, ((b.k1s).facts (allC F2 (allC F3 (allT (allT (allT (allT allI)))))))⟩)))))
     ·refine bE q fun o7 j8 q => bE q fun o8 j9 q => bE q fun o9 k0 q => ?_
      have k9 := someI q
      refine dR [0, 0, 3, 7, 0, 31, 63, 127, 255, 255, 1023, 2047, 4095, 8191, 16383] [2, 3, 5, 10, 11, 12] 6 folM ?_
      replace b := b.drew
      refine Dn [0, 1, 4] [] [2] (yR rfl (lbs_ [.bool p, m.v] ST_27 (eh E) b R4) (yR rfl (lbs_ [.bool p, m.v] ST_27 (eh E) b R4) (yR rfl (lbs_ [.bool d, g.v] ST_27 (eh N) b R0) (Rn QSn ?_))))
      refine Lc1 rfl ?_
      refine Lk wn (yCall FN_70 (a2 e0 e0)) (sparseref01_Mul_ok d8 F1 F1 b) ?_
      rintro _ w ⟨j6, rfl, b⟩
      refine ⟨_, rfl, ?_⟩
      refine Dn [] [4] [3] (Rn (yS rfl (lbs_ [.bool d, g.v] ST_27 (eh N) b R1) QSn) ?_)
      refine Lc1 rfl ?_
      replace b := b.fz
      refine Lk wn (yCall FN_72 (a2 e0 rfl)) (sparseref01_Shift_ok d9 F0 b) ?_
      rintro _ w ⟨j7, rfl, b⟩
      refine ⟨_, rfl, ?_⟩
      refine Dn [] [4] [5] (Rn (yS rfl (lbs_ [.bool d, g.v] ST_27 (eh N) b R1) QSn) ?_)
      refine Lc1 rfl ?_
      replace b := b.fz
      refine Lk wn (yCall FN_71 (a2 e0 e0)) (sparseref01_Cmp_ok e2 F0 (F_4 H) b) ?_
      rintro _ w ⟨rfl, b⟩
      refine ⟨_, rfl, ?_⟩
      refine Dn [6, 7, 8, 9] [] [10] (yR rfl (ygtr e0 rfl) (yR rfl (m_ (.bool (decide ((0 : Int) < e1))) e0) (Ry rfl rfl (wG (dF k)) (lbs_ [.bool L, D.v] ST_27 (eh b5) b R3) (Ry rfl rfl (wG (dF k)) (lbs_ [.bool p, m.v] ST_27 (eh E) b R4) (Rn QSn ?_)))))
      refine Lc1 rfl ?_
      refine Lk (wG (dF k)) (yCall FN_42 (a2 e0 e0)) (sparseref01_GCD_ok j8 F2 F3 b) ?_
      rintro _ w ⟨p0, rfl, b⟩
      refine ⟨_, rfl, ?_⟩
      refine Dn [] [] [11] (Rn QSn ?_)
      refine Lc1 rfl ?_
      refine Lk (wG (dF k)) (yCall FN_43 (a1 rfl)) (sparseref01_FromInt_ok j9 b) ?_
      rintro _ w ⟨p1, rfl, b⟩
      refine ⟨_, rfl, ?_⟩
      refine Dn [] [] [12] (Rn QSn ?_)
      refine Lc1 rfl ?_
      replace b := b.fz
      refine Lk (wG (dF k)) (yCall FN_71 (a2 e0 e0)) (sparseref01_Cmp_ok k0 F1 F0 b) ?_
      rintro _ w ⟨rfl, b⟩
      refine ⟨_, rfl, ?_⟩
      exact Dz [13, 14] [] (Ry rfl rfl (wG (dF k)) (yneq e0 rfl) (yR rfl (pf_ (.bool b6) e0 (dF k) (eqv k9 e0)) (Rn QSn (e3 _ _ ⟨d6, d7, b5, E, rfl, ((b.k1s).facts (allC F4 (allC F5 (allT (allT (allT (allT (allT (allT allI)))))))))⟩))))
    rintro f w ⟨a6, a7, l0, e4, l1, b⟩
    refine j2 _ _ (cB (eh l1) c (fun l2 c => ?_) fun l2 c => ?_)
    ·refine sR fun _ l3 => yY (ybuild (us := [.bool false, hnil.v]) [] SO_27 bp0 rfl) (yY (ybuild (us := [.bool false, hnil.v]) [] SO_27 bp0 rfl) (yT (r_stbn (vals' := [.bool false, hnil.v]) (us := [.bool false, hnil.v]) b ST_27 (eh a6) e0 rfl rfl (one_of rfl) rfl) fun w b => yT (r_stbn (vals' := [.bool false, hnil.v]) (us := [.bool false, hnil.v]) (b.k11) ST_27 (eh a7) e0 rfl rfl (one_of rfl) rfl) fun w b => Ya (.bool false) rfl (wK l3 (wp_ret (j0 _ _ _ rfl ?_)))))
     cases c
     replace b := (b.rowNh 88 (rI .u32)).rowNh 88 (rI .u32)
     exact b2 _ _ _ (fin3r Tryz.results40 (rcs2 rfl a6 b R3 ST_27 rfl) (rcs2 rfl a7 b R2 ST_27 rfl) ⟨rfl, rfl⟩ ⟨_, _, rfl, ((b.k2c).facts (allT (allT allI)))⟩)
    ·refine wp_skip (i9 _ _ (sQ fun _ l4 => bE c fun e5 l5 c => bE c fun e6 l6 c => dR [0, 1, 0, 7, 15, 31, 63] [1, 3, 4, 5, 6] 5 folM ?_))
     replace b := b.drew
     refine Dn [0, 2] [] [1] (yR rfl (lbs_ [.bool L, D.v] ST_27 (eh l0) b R2) (yR rfl (lbs_ [.bool p, m.v] ST_27 (eh e4) b R3) (Rn QSn ?_)))
     refine Lc1 rfl ?_
     refine Lk wn (yCall FN_91 (a1 e0)) (sparseref01_Norm_ok l5 F0 b) ?_
     rintro _ w ⟨e7, rfl, b⟩
     refine ⟨_, rfl, ?_⟩
     refine Dn [] [2] [3] (Rn (yS rfl (lbs_ [.bool p, m.v] ST_27 (eh e4) b R4) QSn) ?_)
     refine Lc1 rfl ?_
     refine Lk wn (yCall FN_91 (a1 e0)) (sparseref01_Norm_ok l6 F1 b) ?_
     rintro _ w ⟨e8, rfl, b⟩
     refine ⟨_, rfl, ?_⟩
     refine Dn [] [] [4] (Rn QSn ?_)
     refine Lc1 rfl ?_
     replace b := b.k1a
     refine LT wn (r_stbn (vals' := [.bool e5.1, e7.v]) (us := [.bool e5.1, e7.v]) b ST_27 (eh a6) e0 rfl rfl (one_of rfl) rfl) fun w b => Dn [] [] [5] (Rn QSn ?_)
     refine Lc1 rfl ?_
     replace b := b.k15
     refine LT wn (r_stbn (vals' := [.bool e6.1, e8.v]) (us := [.bool e6.1, e8.v]) b ST_27 (eh a7) e0 rfl rfl (one_of rfl) rfl) fun w b => Dn [] [] [6] (Rn QSn ?_)
     refine Lc1 rfl ?_
     refine Ly wn (a_ (.bool true) rfl) (Dz [] [] (Rn QSn (l4 _ _ (wp_ret ?_))))
     cases c
     exact b2 _ _ _ (fin3r Tryz.results40 (rcs2 rfl a6 b R1 ST_27 rfl) (rcs2 rfl a7 b R0 ST_27 rfl) ⟨rfl, rfl⟩ ⟨_, _, rfl, ((b.k2e).facts (allT (allT allI)))⟩)
   refine cIf e0 c (fun l7 c => ?_) fun l7 c => ?_
   ·refine bE c fun e9 l8 c => bE c fun f0 l9 c => dR [0, 1, 0, 7, 15, 31] [1, 3, 4, 5] 4 folM ?_
    replace b := b.drew
    refine Dn [0, 2] [] [1] (yR rfl (lbs_ [.bool Z, a0.v] ST_27 (eh a3) b R3) (yR rfl (lbs_ [.bool I, J.v] ST_27 (eh K) b R4) (Rn QSn ?_)))
    refine Lc1 rfl ?_
    refine Lk wn (yCall FN_90 (a1 e0)) (sparseref01_Neg_ok l8 F1 b) ?_
    rintro _ w ⟨f1, rfl, b⟩
    refine ⟨_, rfl, ?_⟩
    refine Dn [] [2] [3] (Rn (yS rfl (lbs_ [.bool I, J.v] ST_27 (eh K) b R5) QSn) ?_)
    refine Lc1 rfl ?_
    refine Lk wn (yCall FN_90 (a1 e0)) (sparseref01_Neg_ok l9 F0 b) ?_
    rintro _ w ⟨f2, rfl, b⟩
    refine ⟨_, rfl, ?_⟩
    refine Dn [] [] [4] (Rn QSn ?_)
    refine Lc1 rfl ?_
    replace b := b.k1x
    refine LT wn (r_stbn (vals' := [.bool e9.1, f1.v]) (us := [.bool e9.1, f1.v]) b ST_27 (eh a3) e0 rfl rfl (one_of rfl) rfl) fun w b => Dn [] [] [5] (Rn QSn ?_)
    refine Lc1 rfl ?_
    replace b := b.k1y
    refine LT wn (r_stbn (vals' := [.bool f0.1, f2.v]) (us := [.bool f0.1, f2.v]) b ST_27 (eh K) e0 rfl rfl (one_of rfl) rfl) fun w b => Dz [] [] (Rn QSn ?_)
    replace b := (((b.k15).fz).k1a).fz
    exact d5 _ _ _ _ _ _ _ _ d2 d3 d4 a3 K ((b.k1u).facts (allC F1 (allC F0 (allT (allT (allT (allT allI))))))) c
   ·exact wp_skip (d5 _ _ _ _ _ _ _ _ d2 d3 d4 a3 K (b.facts (allC F1 (allC F0 (allT (allT allI))))) c)
  replace b := b.immNh (rI .u32)
  refine loopQ (fun s a w => ∃ (a8 : Bool) (c0 : LI) (u : Bool) (c1 : LI) (R : Bool) (c2 : LI) (x : Bool) (c3 : LI) (f : FV) (a9 y S z : Hdr), (a8, c0, u, c1, R, c2, x, c3) = s ∧ a = fr 79 f ∧ f 3 = (pB A) ∧ f 4 = (pB r) ∧ f 5 = (pB t) ∧ f 9 = (pB O) ∧ f 10 = (pB o) ∧ f 11 = (pB d1) ∧ f 12 = (pB B) ∧ St w0 (imm (rI .u32) a9.v c0 :: imm (rI .u32) y.v c1 :: imm (rI .u32) S.v c2 :: ros) (box A 27 [.bool d, g.v] :: box r 27 [.bool false, hnil.v] :: box t 27 [.bool false, hnil.v] :: box O 27 [.bool a8, a9.v] :: box o 27 [.bool u, y.v] :: box d1 27 [.bool R, S.v] :: row 88 (rI .u32) z.v c3 :: box B 27 [.bool x, z.v] :: rs) w) i3 ⟨_, _, _, _, _, _, _, _, _, _, _, _, _, rfl, rfl, h0, h1, h2, h4, h5, rfl, rfl, ((b.k2f).facts (allC (F_2 H) (allC F1 (allC F0 (allT (allT allI))))))⟩ ?_
  rintro _ _ w p2 ⟨a8, c0, u, c1, R, c2, x, c3, f, a9, y, S, z, rfl, rfl, T, f3, f4, c4, F, b0, G, b⟩ j m0 p3 m1 m2
  refine seqQ fun p4 m3 m4 => sQ fun _ m5 => bE j fun p5 m6 j => bE j fun p6 m7 j => bE j fun p7 m8 j => dR [0, 0, 3, 7, 0, 31, 63] [2, 3, 5] 3 folM ?_
  replace b := b.drew
  refine Dn [0, 1, 4] [] [2] (yR rfl (lbs_ [.bool u, y.v] ST_27 (eh F) b R4) (yR rfl (lbs_ [.bool u, y.v] ST_27 (eh F) b R4) (yR rfl (lbs_ [.bool d, g.v] ST_27 (eh T) b R0) (Rn QSn ?_))))
  refine Lc1 rfl ?_
  refine Lk wn (yCall FN_70 (a2 e0 e0)) (sparseref01_Mul_ok m6 F1 F1 b) ?_
  rintro _ w ⟨p8, rfl, b⟩
  refine ⟨_, rfl, ?_⟩
  refine Dn [] [4] [3] (Rn (yS rfl (lbs_ [.bool d, g.v] ST_27 (eh T) b R1) QSn) ?_)
  refine Lc1 rfl ?_
  replace b := b.fz
  refine Lk wn (yCall FN_72 (a2 e0 rfl)) (sparseref01_Shift_ok m7 F0 b) ?_
  rintro _ w ⟨p9, rfl, b⟩
  refine ⟨_, rfl, ?_⟩
  refine Dn [] [4] [5] (Rn (yS rfl (lbs_ [.bool d, g.v] ST_27 (eh T) b R1) QSn) ?_)
  refine Lc1 rfl ?_
  replace b := b.fz
  refine Lk wn (yCall FN_71 (a2 e0 e0)) (sparseref01_Cmp_ok m8 F0 (F_5 H) b) ?_
  rintro _ w ⟨rfl, b⟩
  refine ⟨_, rfl, ?_⟩
  refine Dz [6] [] (yR rfl (ygtr e0 rfl) (Rn QSn (m5 _ _ ?_)))
  refine cIf e0 j (fun m9 j => ?_) fun m9 j => ?_
  ·refine wp_skip (m3 _ _ (blockQ fun _ n0 => sR fun _ n1 => yY (lbs_ [.bool a8, a9.v] ST_27 (eh c4) b R3) (yY (lbs_ [.bool u, y.v] ST_27 (eh F) b R4) (bE j fun l n3 j => yC (yCall FN_79 (a2 e0 e0)) (sparseref01_DivMod_ok n3 F2 F3 b) ?_))))
   rintro _ w ⟨U, C, rfl, b⟩
   refine ⟨_, rfl, ?_⟩
   refine Ym (.tuple #[.agg #[.bool l.1, U.v], .agg #[.bool l.2.2.1, C.v]]) e0 (yY (x_ (.agg #[.bool l.1, U.v]) e0) (yY (x_ (.agg #[.bool l.2.2.1, C.v]) e0) (yBb (rAl b ZT_27) fun q0 w b => yBb (rAl b ZT_27) fun q3 w b => yT (r_stbn (vals' := [.bool l.1, U.v]) (us := [.bool l.1, U.v]) (b.k11) ST_27 e0 e0 rfl rfl (one_of rfl) rfl) fun w b => yT (r_stbn (vals' := [.bool l.2.2.1, C.v]) (us := [.bool l.2.2.1, C.v]) (b.k11) ST_27 e0 e0 rfl rfl (one_of rfl) rfl) fun w b => wK n1 (sQ fun _ n4 => ?_))))
   refine dR [0, 0, 1, 7] [2, 3] 2 folM ?_
   replace b := b.drew
   refine Dn [0, 1] [] [2] (yR rfl (lbs_ [.bool u, y.v] ST_27 (eh F) b R7) (yR rfl (lbs_ [.bool l.2.2.1, C.v] ST_27 e0 b R0) (Rn QSn ?_)))
   refine Lc1 rfl ?_
   replace b := b.k1y
   refine LT wn (r_stbn (vals' := [.bool u, y.v]) (us := [.bool u, y.v]) b ST_27 (eh c4) e0 rfl rfl (one_of rfl) rfl) fun w b => Dn [] [1] [3] (Rn (yS rfl (lbs_ [.bool l.2.2.1, C.v] ST_27 e0 b R1) QSn) ?_)
   refine Lc1 rfl ?_
   replace b := b.k1z
   refine LT wn (r_stbn (vals' := [.bool l.2.2.1, C.v]) (us := [.bool l.2.2.1, C.v]) b ST_27 (eh F) e0 rfl rfl (one_of rfl) rfl) fun w b => Dz [] [] (Rn QSn (n4 _ _ (bE j fun q4 n5 j => bE j fun f5 n6 j => dR [0, 0, 0, 0, 12, 30, 63, 127] [4, 5, 6, 7] 4 folM ?_)))
   replace b := b.drew
   refine Dn [0, 1, 2, 3] [] [4] (yR rfl (lbs_ [.bool x, z.v] ST_27 (eh G) b R10) (yR rfl (lbs_ [.bool R, S.v] ST_27 (eh b0) b R8) (yR rfl (lbs_ [.bool l.1, U.v] ST_27 e0 b R3) (yR rfl (lbs_ [.bool x, z.v] ST_27 (eh G) b R10) (Rn QSn ?_)))))
   refine Lc1 rfl ?_
   replace b := (((b.k1t).fz).k20).fz
   refine Lk wn (yCall FN_70 (a2 e0 e0)) (sparseref01_Mul_ok n5 F1 F0 b) ?_
   rintro _ w ⟨q5, rfl, b⟩
   refine ⟨_, rfl, ?_⟩
   refine Dn [] [0, 1] [5] (Rn (yS rfl (lbs_ [.bool x, z.v] ST_27 (eh G) b R9) (yS rfl (lbs_ [.bool R, S.v] ST_27 (eh b0) b R8) QSn)) ?_)
   refine Lc1 rfl ?_
   replace b := b.fz
   refine Lk wn (yCall FN_73 (a2 e0 e0)) (sparseref01_Sub_ok n6 F8 F0 b) ?_
   rintro _ w ⟨f6, rfl, b⟩
   refine ⟨_, rfl, ?_⟩
   refine Dn [] [0] [6] (Rn (yS rfl (lbs_ [.bool x, z.v] ST_27 (eh G) b R9) QSn) ?_)
   refine Lc1 rfl ?_
   replace b := b.k20
   refine LT wn (r_stbn (vals' := [.bool x, z.v]) (us := [.bool x, z.v]) b ST_27 (eh b0) e0 rfl rfl (one_of rfl) rfl) fun w b => Dn [] [] [7] (Rn QSn ?_)
   refine Lc1 rfl ?_
   replace b := b.k2g
   refine LT wn (r_stbn (vals' := [.bool f5.1, f6.v]) (us := [.bool f5.1, f6.v]) b ST_27 (eh G) e0 rfl rfl (one_of rfl) rfl) fun w b => Dz [] [] (Rn QSn (n0 _ _ _ ?_))
   cases j
   exact m1 _ _ _ rfl ⟨_, _, _, _, _, _, _, _, _, _, _, _, _, rfl, rfl, T, f3, f4, c4, F, b0, G, ((b.k2h).facts (allC F7 (allC F3 (allC F1 (allT (allT (allT (allT (allT (allT (allT (allT (allT allI)))))))))))))⟩
  ·refine wp_exit (m4 _ _ _ rfl ?_)
   cases j
   exact m2 _ _ _ _ rfl rfl (i4 _ _ _ _ _ _ _ _ T f3 f4 F G ((b.k2i).facts (allC F3 (allT (allT (allT (allT (allT allI))))))) (m0 _ rfl))
theorem sparsekit_Limbs_ok {q r : LI} {h i : Hdr} {out : Bool} (d : sparsekit_Limbs q r = some out) (j : imm (rI .u32) h.v q ∈ ros) (l : imm (rI .u32) i.v r ∈ ros) (b : St w0 ros rs w) :
  Calls Tryz.prog 68 #[h.v, i.v] w (fun e w => e = .returned (.bool out) ∧ St w0 ros rs w) := by
 refine enterQ Tryz.func68 rfl Tryz.ntmps68 rfl fun Q m => sR fun _ E => Ya (.bool false) rfl (wK E (seqQ fun a4 F G => sR fun _ H => Ym h.v e0 (yY (yLen SL_25 e0 b (rdI j)) (Ym i.v e0 (yY (yLen SL_25 e0 b (rdI l)) (yY (yneq e0 e0) ?_))))))
 refine wK H ?_
 rcases iteS d with ⟨n, d⟩ | ⟨n, d⟩
 ·refine condF e0 (nF (dT n)) (wp_skip (F _ _ (seqQ fun a5 I J => sR fun _ K => Ya (iV 0) rfl (wK K (blockQ fun t u => bE d fun x L d => ?_)))))
  have N : ∀ (f : FV) w, St w0 ros rs w → .inl () = x → t (.exit 0) (fr 26 f) w := by
   intro f w b ho
   subst ho
   refine u _ _ _ (I _ _ (sR fun _ O => Ya (.bool true) rfl (wK O (wp_ret ?_))))
   cases d
   exact m _ _ _ (fin1r Tryz.results68 ⟨rfl, rfl⟩ ⟨rfl, b⟩)
  have R : ∀ (f : FV) w, f 4 = .bool false → St w0 ros rs w → .inr () = x → t .ret (fr 26 f) w := by
   intro f w S b ho
   subst ho
   refine u _ _ _ (J _ _ _ rfl ?_)
   cases d
   exact m _ _ _ (fin1r Tryz.results68 ⟨rfl, S⟩ ⟨rfl, b⟩)
  refine loopQ (fun s a w => ∃ (g : Int) (f : FV), g = s ∧ a = fr 26 f ∧ f 0 = h.v ∧ f 1 = i.v ∧ f 5 = iV g ∧ St w0 ros rs w) L ⟨_, _, rfl, rfl, rfl, rfl, rfl, b⟩ ?_
  rintro _ _ w a6 ⟨g, f, rfl, rfl, o, y, k, b⟩ c z a7 T A
  refine seqQ fun a8 U V => sR fun _ W => Ym (iV g) (eh k) (Ym h.v (eh o) (yY (yLen SL_25 e0 b (rdI j)) (yY (ylss e0 e0) (wK W ?_))))
  refine cIf e0 c (fun X c => ?_) fun X c => ?_
  ·refine wp_skip (U _ _ (seqQ fun a9 Z a0 => blockQ fun _ B => sQ fun _ a1 => bE c fun b0 C c => bE c fun b1 D c => dR [0, 0, 3, 7, 0, 0, 48, 112, 255] [] 0 folM ?_))
   replace b := b.drew
   refine Dz [0, 1, 2, 3, 4, 5, 6, 7, 8] [] (yR rfl (m_ h.v (eh o)) (yR rfl (m_ (iV g) (eh k)) (yR rfl (yIa SL_25 e0 e0 b (rdI j) C) (yR rfl (yI O_88 e0 b (rdI j) C) (yR rfl (m_ i.v (eh y)) (yR rfl (m_ (iV g) (eh k)) (yR rfl (yIa SL_25 e0 e0 b (rdI l) D) (yR rfl (yI O_88 e0 b (rdI l) D) (yR rfl (yneq e0 e0) (Rn QSn (a1 _ _ ?_)))))))))))
   rcases iteS c with ⟨p, c⟩ | ⟨p, c⟩
   ·refine condF e0 (nF (dT p)) (wp_skip (B _ _ _ (Z _ _ (wR (Ym (iV g) (eh k) (yY (yadd e0 rfl) (Ya (iV (wa .i64 g 1)) e0 (wN ?_))))))))
    cases c
    exact T _ _ _ rfl ⟨_, _, rfl, rfl, o, y, rfl, b⟩
   ·refine condT e0 (nT (dF p)) (sR fun _ a2 => Ya (.bool false) rfl (wK a2 (wp_ret (B _ _ _ (a0 _ _ _ rfl ?_)))))
    cases c
    exact A _ _ _ _ rfl rfl (R _ _ rfl b (z _ rfl))
  ·refine wp_exit (V _ _ _ rfl ?_)
   cases c
   exact A _ _ _ _ rfl rfl (N _ _ b (z _ rfl))
 ·refine condT e0 (nT (dF n)) (sR fun _ a3 => Ya (.bool false) rfl (wK a3 (wp_ret (G _ _ _ rfl ?_))))
  cases d
  exact m _ _ _ (fin1r Tryz.results68 ⟨rfl, rfl⟩ ⟨rfl, b⟩)
theorem sparsekit_Big_ok {d : Bool} {k : LI} {g : Bool} {l : LI} {h i : Hdr} {out : Bool} (j : sparsekit_Big d k g l = some out) (o : imm (rI .u32) h.v k ∈ ros) (p : imm (rI .u32) i.v l ∈ ros) (a : St w0 ros rs w) :
  Calls Tryz.prog 16 #[.agg #[.bool d, h.v], .agg #[.bool g, i.v]] w (fun e w => e = .returned (.bool out) ∧ St w0 ros rs w) := by
 refine enterQ Tryz.func16 rfl Tryz.ntmps16 rfl fun Q q => sR fun _ r => yBb (r_box (vals := [.bool d, h.v]) a e0 rfl) fun y w a => yBb (r_box (vals := [.bool g, i.v]) a e0 rfl) fun z w a => Ya (.bool false) rfl (wK r (sR fun _ s => yY (yFb FL_27_0 e0) (yY (lb_ (.bool d) O_4 e0 a R1) ?_)))
 refine yY (yFb FL_27_0 e0) (yY (lb_ (.bool g) O_4 e0 a R0) (yY (yeqb (by kernel_rfl) e0 e0) (Ym (.bool (d == g)) e0 (bE j fun m c j => ?_))))
 refine joinW 6 (fun f w => f 16 = .bool m ∧ St w0 ros rs w) (fun n => ?_) ?_
 ·rcases iteS c with ⟨b, c⟩ | ⟨b, c⟩
  ·refine yG b (yFb FL_27_1 e0) (yG b (lb_ h.v O_25 e0 a R1) (yG b (yFb FL_27_1 e0) (yG b (lb_ i.v O_25 e0 a R0) (bE c fun t u c => Yc (wG b) rfl (yCall FN_68 (a2 e0 e0)) (sparsekit_Limbs_ok u o p a) ?_))))
   rintro _ w ⟨rfl, a⟩
   refine ⟨_, rfl, ?_⟩
   refine yY (pt_ (.bool t) e0 b e0) ?_
   cases c
   exact n _ _ ⟨rfl, (a.k1l)⟩
  ·refine gN (bfalse b) (gN (bfalse b) (gN (bfalse b) (gN (bfalse b) (gN (bfalse b) (yY (pf_ (.bool false) e0 (bfalse b) rfl) ?_)))))
   cases c
   exact n _ _ ⟨rfl, (a.k1l)⟩
 rintro f w ⟨x, a⟩
 refine Ya (.bool m) (eh x) (wK s (wp_ret ?_))
 cases j
 exact q _ _ _ (fin1r Tryz.results16 ⟨rfl, rfl⟩ ⟨rfl, a⟩)
theorem sparsekit_Place_ok {a b out : Int} (c : sparsekit_Place a b = some out) (d : St w0 ros rs w) :
  Calls Tryz.prog 20 #[iV a, iV b] w (fun e w => e = .returned (iV out) ∧ St w0 ros rs w) := by
 refine enterQ Tryz.func20 rfl Tryz.ntmps20 rfl fun Q f => sR fun _ g => Ya (iV 0) rfl (wK g (sR fun _ h => Ym (iV a) e0 (yY (ycv (k' := .u64) (by kernel_rfl) (by kernel_rfl) e0) (Ym (iV b) e0 (yY (ycv (k' := .u64) (by kernel_rfl) (by kernel_rfl) e0) (bE c fun i j c => yY (yrem e0 e0 j) ?_))))))
 refine yY (ycv (k' := .i64) (by kernel_rfl) (by kernel_rfl) e0) (Ya (iV (wc .i64 i)) e0 (wK h (wp_ret ?_)))
 cases c
 exact f _ _ _ (fin1r Tryz.results20 ⟨rfl, rfl⟩ ⟨rfl, d⟩)
theorem sparseref01_Int_ok {m : Bool} {t : LI} {n : Hdr} {out : Int × Bool} (c : sparseref01_Int m t = some out) (z : imm (rI .u32) n.v t ∈ ros) (b : St w0 ros rs w) :
  Calls Tryz.prog 41 #[.agg #[.bool m, n.v]] w (fun e w => e = .returned (.tuple #[iV out.1, .bool out.2]) ∧ St w0 ros rs w) := by
 refine enterQ Tryz.func41 rfl Tryz.ntmps41 rfl fun Q k => sR fun _ A => yBb (r_box (vals := [.bool m, n.v]) b e0 rfl) fun o w b => Ya (iV 0) rfl (Ya (.bool false) rfl (wK A (sR fun _ B => yY (lbs_ [.bool m, n.v] ST_27 e0 b R0) (bE c fun j C c => yC (yCall FN_91 (a1 e0)) (sparseref01_Norm_ok C z b) ?_))))
 rintro _ w ⟨d, rfl, b⟩
 refine ⟨_, rfl, ?_⟩
 refine yT (r_stbn (vals' := [.bool j.1, d.v]) (us := [.bool j.1, d.v]) (b.k11) ST_27 e0 e0 rfl rfl (one_of rfl) rfl) fun w b => wK B (seqQ fun c3 D E => sR fun _ F => yY (yFb FL_27_1 e0) (yY (lb_ d.v O_25 e0 b R0) (yY (yLen SL_25 e0 b rO1) (yY (ygtr e0 rfl) (wK F ?_)))))
 refine cIf e0 c (fun G c => ?_) fun G c => ?_
 ·refine sR fun _ H => Ya (iV 0) rfl (Ya (.bool false) rfl (wK H (wp_ret (E _ _ _ rfl ?_))))
  cases c
  exact k _ _ _ (fin2r Tryz.results41 ⟨rfl, rfl⟩ ⟨rfl, rfl⟩ ⟨rfl, (b.k1l)⟩)
 ·refine wp_skip (D _ _ (sR fun _ I => Ya (.int .u64 0) rfl (wK I (sQ fun _ J => sR fun _ K => Ya (iV 0) rfl (wK K (blockQ fun L N => ?_))))))
  refine bE c fun O R c => ?_
  have S : ∀ (g : Int) (f : FV) w, f 1 = (pB o) → f 4 = .int .u64 g → St w0 ros (row 88 (rI .u32) d.v j.2 :: box o 27 [.bool j.1, d.v] :: rs) w → g = O → L (.exit 0) (fr 43 f) w := by
   intro g f w T p b ho
   subst ho
   refine N _ _ _ (J _ _ (seqQ fun c4 U u => sR fun _ V => yY (yFb FL_27_0 (eh T)) (yY (lb_ (.bool j.1) O_4 e0 b R1) (wK V (cB e0 c (fun W c => ?_) fun W c => ?_)))))
   ·refine seqQ fun c5 X Z => sR fun _ a0 => Ym (.int .u64 g) (eh p) (yY (ygtr e0 rfl) (wK a0 ?_))
    refine cIf e0 c (fun a2 c => ?_) fun a2 c => ?_
    ·refine sR fun _ a3 => Ya (iV 0) rfl (Ya (.bool false) rfl (wK a3 (wp_ret (Z _ _ _ rfl (u _ _ _ rfl ?_)))))
     cases c
     exact k _ _ _ (fin2r Tryz.results41 ⟨rfl, rfl⟩ ⟨rfl, rfl⟩ ⟨rfl, (b.k1l)⟩)
    ·refine wp_skip (X _ _ (sR fun _ a4 => Ym (.int .u64 g) (eh p) (yY (ysub e0 rfl) (yY (ycv (k' := .i64) (by kernel_rfl) (by kernel_rfl) e0) (yY (yneg e0) (yY (ysub e0 rfl) (Ya (iV (ws .i64 (wneg .i64 (wc .i64 (ws .u64 g 1))) 1)) e0 (Ya (.bool true) rfl (wK a4 (wp_ret ?_))))))))))
     refine u _ _ _ rfl ?_
     cases c
     exact k _ _ _ (fin2r Tryz.results41 ⟨rfl, rfl⟩ ⟨rfl, rfl⟩ ⟨rfl, (b.k1l)⟩)
   ·refine wp_skip (U _ _ (seqQ fun c6 a5 a6 => sR fun _ a7 => Ym (.int .u64 g) (eh p) (yY (ygtr e0 rfl) (wK a7 ?_))))
    refine cIf e0 c (fun a8 c => ?_) fun a8 c => ?_
    ·refine sR fun _ a9 => Ya (iV 0) rfl (Ya (.bool false) rfl (wK a9 (wp_ret (a6 _ _ _ rfl ?_))))
     cases c
     exact k _ _ _ (fin2r Tryz.results41 ⟨rfl, rfl⟩ ⟨rfl, rfl⟩ ⟨rfl, (b.k1l)⟩)
    ·refine wp_skip (a5 _ _ (sR fun _ b0 => Ym (.int .u64 g) (eh p) (yY (ycv (k' := .i64) (by kernel_rfl) (by kernel_rfl) e0) (Ya (iV (wc .i64 g)) e0 (Ya (.bool true) rfl (wK b0 (wp_ret ?_)))))))
     cases c
     exact k _ _ _ (fin2r Tryz.results41 ⟨rfl, rfl⟩ ⟨rfl, rfl⟩ ⟨rfl, (b.k1l)⟩)
  refine loopQ (fun s a w => ∃ (l i : Int) (f : FV), (l, i) = s ∧ a = fr 43 f ∧ f 1 = (pB o) ∧ f 4 = .int .u64 l ∧ f 5 = iV i ∧ St w0 ros (row 88 (rI .u32) d.v j.2 :: box o 27 [.bool j.1, d.v] :: rs) w) R ⟨_, _, _, rfl, rfl, rfl, rfl, rfl, (b.k11)⟩ ?_
  rintro _ _ w c8 ⟨l, i, f, rfl, rfl, q, x, r, b⟩ h b1 c9 b2 b3
  refine seqQ fun d0 b5 b6 => sR fun _ b7 => Ym (iV i) (eh r) (yY (yFb FL_27_1 (eh q)) (yY (lb_ d.v O_25 e0 b R1) (yY (yLen SL_25 e0 b rO0) (yY (ylss e0 e0) (wK b7 ?_)))))
  refine cIf e0 h (fun b8 h => ?_) fun b8 h => ?_
  ·refine wp_skip (b5 _ _ (sQ fun _ b9 => blockQ fun _ c0 => wR (Ym (.int .u64 l) (eh x) (yY (yFb FL_27_1 (eh q)) (yY (lb_ d.v O_25 e0 b R1) (Ym (iV i) (eh r) (bE h fun d1 y h => yY (yIa SL_25 e0 e0 b rO0 y) (yY (yI O_88 e0 b rO0 y) (yY (ycv (k' := .u64) (by kernel_rfl) (by kernel_rfl) e0) (Ym (iV i) (eh r) ?_))))))))))
   refine yY (ymul rfl e0) (bE h fun c1 c2 h => yY (yshl e0 e0 c2) (yY (yor e0 e0) (Ya (.int .u64 (wor .u64 l c1)) e0 (wN (c0 _ _ _ (b9 _ _ (wR (Ym (iV i) (eh r) (yY (yadd e0 rfl) (Ya (iV (wa .i64 i 1)) e0 (wN ?_)))))))))))
   cases h
   exact b2 _ _ _ rfl ⟨_, _, _, rfl, rfl, q, rfl, rfl, b⟩
  ·refine wp_exit (b6 _ _ _ rfl ?_)
   cases h
   exact b3 _ _ _ _ rfl rfl (S _ _ _ q x b (b1 _ rfl))
theorem sparselaw07_ModularRational_ok {m : Bool} {W : LI} {o : Bool} {X : LI} {z A Z : Int} {p q : Hdr} {out : Bool} (b : sparselaw07_ModularRational m W o X z A Z = some out) (b9 : out = true) (K : imm (rI .u32) p.v W ∈ ros) (L : imm (rI .u32) q.v X ∈ ros) (a : St w0 ros rs w) :
  Calls Tryz.prog 8 #[.agg #[.bool m, p.v], .agg #[.bool o, q.v], iV z, iV A, iV Z] w (fun e w => e = .returned (.bool out) ∧ St w0 ros rs w) := by
 refine enterQ Tryz.func8 rfl Tryz.ntmps8 rfl fun Q N => sR fun _ c0 => yBb (r_box (vals := [.bool m, p.v]) a e0 rfl) fun a3 w a => yBb (r_box (vals := [.bool o, q.v]) a e0 rfl) fun a4 w a => Ya (.bool false) rfl (wK c0 (seqQ fun i8 c1 c2 => sR fun _ c3 => yY (lbs_ [.bool m, p.v] ST_27 e0 a R1) ?_))
 refine bE b fun c4 c5 b => yC (yCall FN_18 (a2 e0 rfl)) (sparsekit_Slim_ok c5 K a) ?_
 rintro _ w ⟨rfl, a⟩
 refine ⟨_, rfl, ?_⟩
 refine yY (ynot e0) (Ym (.bool (!c4)) e0 (bE b fun c6 r b => ?_))
 refine joinW 4 (fun f w => f 2 = iV z ∧ f 3 = iV A ∧ f 5 = (pB a3) ∧ f 6 = (pB a4) ∧ f 32 = .bool c6 ∧ St w0 ros (box a3 27 [.bool m, p.v] :: box a4 27 [.bool o, q.v] :: rs) w) (fun a5 => ?_) ?_
 ·rcases iteS r with ⟨j, r⟩ | ⟨j, r⟩
  ·refine yG (nF j) (lbs_ [.bool o, q.v] ST_27 e0 a R0) (bE r fun c7 c8 r => Yc (wG (nF j)) rfl (yCall FN_18 (a2 e0 rfl)) (sparsekit_Slim_ok c8 L a) ?_)
   rintro _ w ⟨rfl, a⟩
   refine ⟨_, rfl, ?_⟩
   refine yG (nF j) (ynot e0) (yY (pf_ (.bool (!c7)) e0 (nF j) e0) ?_)
   cases r
   exact a5 _ _ ⟨rfl, rfl, rfl, rfl, rfl, (a.k11)⟩
  ·refine gN (nT (bfalse j)) (gN (nT (bfalse j)) (gN (nT (bfalse j)) (yY (pt_ (.bool true) e0 (nT (bfalse j)) rfl) ?_)))
   cases r
   exact a5 _ _ ⟨rfl, rfl, rfl, rfl, rfl, (a.k11)⟩
 rintro f w ⟨a6, a7, a8, a9, c9, a⟩
 refine wK c3 (cB (eh c9) b (fun d0 b => ?_) fun d0 b => ?_)
 ·refine sR fun _ d1 => bE b fun d2 d3 b => yC (yCall FN_11 a0) (sparselaw07_awake_ok d3 a) ?_
  rintro _ w ⟨rfl, a⟩
  refine ⟨_, rfl, ?_⟩
  refine Ya (.bool d2) e0 (wK d1 (wp_ret (c2 _ _ _ rfl ?_)))
  cases b
  exact N _ _ _ (fin1r Tryz.results8 ⟨rfl, rfl⟩ ⟨rfl, (a.k1l)⟩)
 ·refine wp_skip (c1 _ _ (sR fun _ d4 => yY (lbs_ [.bool m, p.v] ST_27 (eh a8) a R0) (yY (lbs_ [.bool o, q.v] ST_27 (eh a9) a R1) (bE b fun c d5 b => yC (yCall FN_39 (a2 e0 e0)) (modular_Rational_ok d5 K L a) ?_))))
  rintro _ w ⟨D, E, rfl, a⟩
  refine ⟨_, rfl, ?_⟩
  refine Ym (.tuple #[.agg #[.bool c.1, D.v], .agg #[.bool c.2.2.1, E.v], .bool c.2.2.2.2]) e0 (yY (x_ (.agg #[.bool c.1, D.v]) e0) (yY (x_ (.agg #[.bool c.2.2.1, E.v]) e0) (yY (x_ (.bool c.2.2.2.2) e0) (yBb (rAl a ZT_27) fun i9 w a => yBb (rAl a ZT_27) fun j0 w a => yT (r_stbn (vals' := [.bool c.1, D.v]) (us := [.bool c.1, D.v]) (a.k11) ST_27 e0 e0 rfl rfl (one_of rfl) rfl) fun w a => yT (r_stbn (vals' := [.bool c.2.2.1, E.v]) (us := [.bool c.2.2.1, E.v]) (a.k11) ST_27 e0 e0 rfl rfl (one_of rfl) rfl) fun w a => Ya (.bool c.2.2.2.2) e0 (wN ?_)))))
  refine d4 _ _ (sR fun _ d6 => yY (lbs_ [.bool m, p.v] ST_27 (eh a8) a R2) (yY (lbs_ [.bool o, q.v] ST_27 (eh a9) a R3) (bE b fun d d7 b => yC (yCall FN_40 (a2 e0 e0)) (sparseref07_Rational_ok d7 (F_2 K) (F_2 L) a) ?_)))
  rintro _ w ⟨F, G, rfl, a⟩
  refine ⟨_, rfl, ?_⟩
  refine Ym (.tuple #[.agg #[.bool d.1, F.v], .agg #[.bool d.2.2.1, G.v], .bool d.2.2.2.2]) e0 (yY (x_ (.agg #[.bool d.1, F.v]) e0) (yY (x_ (.agg #[.bool d.2.2.1, G.v]) e0) (yY (x_ (.bool d.2.2.2.2) e0) (yBb (rAl a ZT_27) fun j5 w a => yBb (rAl a ZT_27) fun j6 w a => yT (r_stbn (vals' := [.bool d.1, F.v]) (us := [.bool d.1, F.v]) (a.k11) ST_27 e0 e0 rfl rfl (one_of rfl) rfl) fun w a => yT (r_stbn (vals' := [.bool d.2.2.1, G.v]) (us := [.bool d.2.2.1, G.v]) (a.k11) ST_27 e0 e0 rfl rfl (one_of rfl) rfl) fun w a => Ya (.bool d.2.2.2.2) e0 (wN ?_)))))
  refine d6 _ _ (seqQ fun j7 d8 d9 => sR fun _ e1 => yY (lbs_ [.bool c.1, D.v] ST_27 e0 a R5) (yY (lbs_ [.bool d.1, F.v] ST_27 e0 a R1) (bE b fun e2 e3 b => ?_)))
  replace a := (a.k1a).fz
  refine yC (yCall FN_16 (a2 e0 e0)) (sparsekit_Big_ok e3 F1 F0 a) ?_
  rintro _ w ⟨rfl, a⟩
  refine ⟨_, rfl, ?_⟩
  refine yY (ynot e0) (Ym (.bool (!e2)) e0 (bE b fun I s b => ?_))
  refine joinW 5 (fun f w => f 2 = iV z ∧ f 3 = iV A ∧ f 13 = .bool c.2.2.2.2 ∧ f 16 = .bool d.2.2.2.2 ∧ f 57 = .bool I ∧ St w0 ros rs w) (fun b0 => ?_) ?_
  ·rcases iteS s with ⟨h, s⟩ | ⟨h, s⟩
   ·refine yG (nF h) (lbs_ [.bool c.2.2.1, E.v] ST_27 e0 a R3) (yG (nF h) (lbs_ [.bool d.2.2.1, G.v] ST_27 e0 a R0) (bE s fun e4 e5 s => ?_))
    replace a := (a.k1a).fz
    refine Yc (wG (nF h)) rfl (yCall FN_16 (a2 e0 e0)) (sparsekit_Big_ok e5 F3 F0 a) ?_
    rintro _ w ⟨rfl, a⟩
    refine ⟨_, rfl, ?_⟩
    refine yG (nF h) (ynot e0) (yY (pf_ (.bool (!e4)) e0 (nF h) e0) ?_)
    cases s
    exact b0 _ _ ⟨a6, a7, rfl, rfl, rfl, ((a.k2j).facts (allT (allT (allT (allT allI)))))⟩
   ·refine gN (nT (bfalse h)) (gN (nT (bfalse h)) (gN (nT (bfalse h)) (gN (nT (bfalse h)) (yY (pt_ (.bool true) e0 (nT (bfalse h)) rfl) ?_))))
    cases s
    exact b0 _ _ ⟨a6, a7, rfl, rfl, rfl, ((a.k2k).facts (allT (allT (allT allI))))⟩
  rintro f w ⟨b1, b2, e6, e7, e8, a⟩
  refine Ym (.bool I) (eh e8) ?_
  refine joinW 4 (fun f w => f 2 = iV z ∧ f 3 = iV A ∧ f 62 = .bool (I || (!(c.2.2.2.2 == d.2.2.2.2))) ∧ St w0 ros rs w) (fun b3 => ?_) ?_
  ·rcases Bool.eq_false_or_eq_true I with i | i
   ·exact gN i (gN i (gN i (yY (pt_ (.bool true) e0 i rfl) (b3 _ _ ⟨b1, b2, (congrArg Value.bool (orT i)), a⟩))))
   ·exact yG i (m_ (.bool c.2.2.2.2) (eh e6)) (yG i (m_ (.bool d.2.2.2.2) (eh e7)) (yG i (yneb (by kernel_rfl) e0 e0) (yY (pf_ (.bool (!(c.2.2.2.2 == d.2.2.2.2))) e0 i e0) (b3 _ _ ⟨b1, b2, (congrArg Value.bool (orF i)), a⟩))))
  rintro f w ⟨e9, f0, f1, a⟩
  refine wK e1 (cB (eh f1) b (fun f2 b => ?_) fun f2 b => ?_)
  ·refine sR fun _ f3 => Ya (.bool false) rfl (wK f3 (wp_ret (d9 _ _ _ rfl ?_)))
   cases b
   exact N _ _ _ (fin1r Tryz.results8 ⟨rfl, rfl⟩ ⟨rfl, a⟩)
  ·refine wp_skip (d8 _ _ (sR fun _ f4 => Ya (iV 2147483647) rfl (wK f4 (sR fun _ f5 => Ym (iV z) (eh e9) (bE b fun O f6 b => yC (yCall FN_20 (a2 e0 rfl)) (sparsekit_Place_ok f6 a) ?_)))))
   rintro _ w ⟨rfl, a⟩
   refine ⟨_, rfl, ?_⟩
   refine yY (ysub e0 rfl) (Ym (iV A) (eh f0) (bE b fun J f7 b => yC (yCall FN_20 (a2 e0 rfl)) (sparsekit_Place_ok f7 a) ?_))
   rintro _ w ⟨rfl, a⟩
   refine ⟨_, rfl, ?_⟩
   refine yY (yadd rfl e0) (Ya (iV (ws .i64 O 1000)) e0 (Ya (iV (wa .i64 1 J)) e0 (wK f5 (sR fun _ f8 => Ym (iV (ws .i64 O 1000)) e0 (bE b fun j8 f9 b => yC (yCall FN_43 (a1 e0)) (sparseref01_FromInt_ok f9 a) ?_)))))
   rintro _ w ⟨j9, rfl, a⟩
   refine ⟨_, rfl, ?_⟩
   refine Ym (iV (wa .i64 1 J)) e0 (bE b fun k0 g0 b => yC (yCall FN_43 (a1 e0)) (sparseref01_FromInt_ok g0 a) ?_)
   rintro _ w ⟨l0, rfl, a⟩
   refine ⟨_, rfl, ?_⟩
   refine bE b fun l1 g1 b => ?_
   replace a := ((a.k11).fz).fz
   refine yC (yCall FN_42 (a2 e0 e0)) (sparseref01_GCD_ok g1 F1 F0 a) ?_
   rintro _ w ⟨l2, rfl, a⟩
   refine ⟨_, rfl, ?_⟩
   refine bE b fun k g2 b => yC (yCall FN_41 (a1 e0)) (sparseref01_Int_ok g2 F0 a) ?_
   rintro _ w ⟨rfl, a⟩
   refine ⟨_, rfl, ?_⟩
   refine Ym (.tuple #[iV k.1, .bool k.2]) e0 (yY (x_ (iV k.1) e0) (yY (x_ (.bool k.2) e0) (Ya (iV k.1) e0 (Ya (.bool k.2) e0 (wK f8 (sQ fun _ g3 => bE b fun R g4 b => bE b fun S b4 b => dR [0, 0, 3, 0, 0, 24, 7, 127] [6, 7] 2 folM ?_))))))
   replace a := a.drew
   refine Dn [0, 1, 2, 3, 4, 5] [] [6] (yR rfl (m_ (iV (ws .i64 O 1000)) e0) (yR rfl (m_ (iV k.1) e0) (yR rfl (yquo e0 e0 g4) (yR rfl (m_ (iV (wa .i64 1 J)) e0) (yR rfl (m_ (iV k.1) e0) (yR rfl (yquo e0 e0 b4) (Rn QSn ?_)))))))
   refine Lc1 rfl ?_
   refine Ly wn (a_ (iV R) e0) (Dn [] [3, 4, 5] [7] (Rn (yS rfl (m_ (iV (wa .i64 1 J)) e0) (yS rfl (m_ (iV k.1) e0) (yS rfl (yquo e0 e0 b4) QSn))) ?_))
   refine Lc1 rfl ?_
   refine Ly wn (a_ (iV S) e0) (Dz [] [] (Rn QSn (g3 _ _ (sR fun _ g5 => Ym (iV S) e0 (Ym (iV 2147483647) e0 (bE b fun l g6 b => yC (yCall FN_28 (a2 e0 e0)) (modular_Inverse_ok g6 a) ?_))))))
   rintro _ w ⟨rfl, a⟩
   refine ⟨_, rfl, ?_⟩
   refine Ym (.tuple #[iV l.1, iV l.2]) e0 (yY (x_ (iV l.1) e0) (yY (x_ (iV l.2) e0) (Ya (iV l.1) e0 (Ya (iV l.2) e0 (wK g5 (sR fun _ g7 => Ym (iV R) e0 (bE b fun l3 g8 b => yC (yCall FN_23 (a1 e0)) (integer_FromInt_ok g8 a) ?_)))))))
   rintro _ w ⟨l4, rfl, a⟩
   refine ⟨_, rfl, ?_⟩
   refine Ym (iV l.1) e0 (bE b fun l5 g9 b => yC (yCall FN_23 (a1 e0)) (integer_FromInt_ok g9 a) ?_)
   rintro _ w ⟨l6, rfl, a⟩
   refine ⟨_, rfl, ?_⟩
   refine bE b fun l7 h0 b => yC (yCall FN_22 (a2 e0 e0)) (integer_Mul_ok h0 F1 F0 a) ?_
   rintro _ w ⟨l8, rfl, a⟩
   refine ⟨_, rfl, ?_⟩
   refine Ym (iV 2147483647) e0 (bE b fun l9 h1 b => yC (yCall FN_23 (a1 e0)) (integer_FromInt_ok h1 a) ?_)
   rintro _ w ⟨m0, rfl, a⟩
   refine ⟨_, rfl, ?_⟩
   refine bE b fun g h2 b => yC (yCall FN_39 (a2 e0 e0)) (modular_Rational_ok h2 F1 F0 a) ?_
   rintro _ w ⟨B, C, rfl, a⟩
   refine ⟨_, rfl, ?_⟩
   refine Ym (.tuple #[.agg #[.bool g.1, B.v], .agg #[.bool g.2.2.1, C.v], .bool g.2.2.2.2]) e0 (yY (x_ (.agg #[.bool g.1, B.v]) e0) (yY (x_ (.agg #[.bool g.2.2.1, C.v]) e0) (yY (x_ (.bool g.2.2.2.2) e0) (yBb (rAl a ZT_27) fun m1 w a => yBb (rAl a ZT_27) fun m2 w a => yT (r_stbn (vals' := [.bool g.1, B.v]) (us := [.bool g.1, B.v]) (a.k11) ST_27 e0 e0 rfl rfl (one_of rfl) rfl) fun w a => yT (r_stbn (vals' := [.bool g.2.2.1, C.v]) (us := [.bool g.2.2.1, C.v]) (a.k11) ST_27 e0 e0 rfl rfl (one_of rfl) rfl) fun w a => Ya (.bool g.2.2.2.2) e0 (wN ?_)))))
   refine g7 _ _ (sQ fun _ h4 => bE b fun b5 T b => bE b fun b6 t b => bE b fun b7 u b => bE b fun U H b => ?_)
   refine joinN (n := 122) (fun f w => f 10 = .bool U ∧ St w0 ros rs w) (fun h5 => ?_) ?_
   ·have h7 := (someI b).trans b9
    obtain ⟨V, H⟩ := chT H h7
    obtain ⟨x, u⟩ := chT u V
    obtain ⟨y, t⟩ := chT t x
    obtain ⟨b8, T⟩ := chT T y
    have h8 := someI T
    refine bE t fun m3 h9 t => bE t fun m4 i0 t => ?_
    have i1 := someI t
    refine bE u fun m5 i2 u => bE u fun m6 i3 u => ?_
    have i4 := someI u
    refine bE H fun m7 i5 H => ?_
    have i6 := someI H
    refine dR [0, 1, 3, 7, 15, 31, 63, 63, 191, 511, 1023, 2047, 4095, 4095, 12287, 32767, 65535, 131071, 262143, 524287, 1048575] [8, 9, 14, 15, 18, 20] 6 folM ?_
    replace a := a.drew
    refine Dn [0, 1, 2, 3, 4, 5, 6, 7] [] [8] (yR rfl (m_ (iV l.2) e0) (yR rfl (yeql e0 rfl) (yR rfl (m_ (.bool (decide (l.2 = 0))) e0) (Ry rfl rfl (wG (dT b8)) (m_ (.bool g.2.2.2.2) e0) (yR rfl (pt_ (.bool b5) e0 (dT b8) (eqv h8 e0)) (yR rfl (m_ (.bool b5) e0) (Ry rfl rfl (wG y) (lbs_ [.bool g.1, B.v] ST_27 e0 a R1) (Ry rfl rfl (wG y) (m_ (iV R) e0) (Rn QSn ?_)))))))))
    refine Lc1 rfl ?_
    refine Lk (wG y) (yCall FN_43 (a1 e0)) (sparseref01_FromInt_ok h9 a) ?_
    rintro _ w ⟨m8, rfl, a⟩
    refine ⟨_, rfl, ?_⟩
    refine Dn [] [6] [9] (Rn (Sy rfl rfl (wG y) (lbs_ [.bool g.1, B.v] ST_27 e0 a R2) rfl QSn) ?_)
    refine Lc1 rfl ?_
    replace a := a.fz
    refine Lk (wG y) (yCall FN_16 (a2 e0 e0)) (sparsekit_Big_ok i0 F1 F0 a) ?_
    rintro _ w ⟨rfl, a⟩
    refine ⟨_, rfl, ?_⟩
    refine Dn [10, 11, 12, 13] [] [14] (yR rfl (pt_ (.bool b6) e0 y (eqv i1 e0)) (yR rfl (m_ (.bool b6) e0) (Ry rfl rfl (wG x) (lbs_ [.bool g.2.2.1, C.v] ST_27 e0 a R0) (Ry rfl rfl (wG x) (m_ (iV S) e0) (Rn QSn ?_)))))
    refine Lc1 rfl ?_
    refine Lk (wG x) (yCall FN_43 (a1 e0)) (sparseref01_FromInt_ok i2 a) ?_
    rintro _ w ⟨m9, rfl, a⟩
    refine ⟨_, rfl, ?_⟩
    refine Dn [] [12] [15] (Rn (Sy rfl rfl (wG x) (lbs_ [.bool g.2.2.1, C.v] ST_27 e0 a R1) rfl QSn) ?_)
    refine Lc1 rfl ?_
    replace a := a.fz
    refine Lk (wG x) (yCall FN_16 (a2 e0 e0)) (sparsekit_Big_ok i3 F3 F0 a) ?_
    rintro _ w ⟨rfl, a⟩
    refine ⟨_, rfl, ?_⟩
    refine Dn [16, 17] [] [18] (yR rfl (pt_ (.bool b7) e0 x (eqv i4 e0)) (yR rfl (m_ (.bool b7) e0) (Rn QSn ?_)))
    refine Lc1 rfl ?_
    refine Lk (wG V) (yCall FN_11 a0) (sparselaw07_awake_ok i5 a) ?_
    rintro _ w ⟨rfl, a⟩
    refine ⟨_, rfl, ?_⟩
    refine Dn [19] [] [20] (yR rfl (pt_ (.bool U) e0 V (eqv i6 e0)) (Rn QSn ?_))
    refine Lc1 rfl ?_
    exact Ly wn (a_ (.bool U) e0) (Dz [] [] (Rn QSn (h5 _ _ ⟨rfl, ((a.k1l).facts (allT (allT (allT (allT (allT (allT (allT (allT (allT (allT (allT allI))))))))))))⟩)))
   rintro f w ⟨i7, a⟩
   refine h4 _ _ (wp_ret ?_)
   cases b
   exact N _ _ _ (fin1r Tryz.results8 ⟨rfl, i7⟩ ⟨rfl, a⟩)
end Go.Proofs.YtnfamnfdndaekaaGreatDoor
