/- Walks: each function computes its model, printed. -/
import Derived.Test.YtpfmbaidflhamaaGreatDoorW5
namespace Go.Proofs.YtpfmbaidflhamaaGreatDoor
open Go Sx M
set_option maxRecDepth 100000
set_option maxHeartbeats 40000000
set_option linter.unusedVariables false
attribute [local irreducible] wpList Code.wp Calls DR QR QS LA LS St
variable {w0 : World} {ros : List Fact} {rs : List Res} {w : World}
theorem sparseref08_Times_ok {u : List (List (Bool × LI))} {x : List (Bool × LI)} {g i : Hdr} {out : (List (Bool × LI))} (m : sparseref08_Times u x = some out) (o : imm (rS (rP rB (rS (rI .u32)))) g.v u ∈ ros) (D : imm (rP rB (rS (rI .u32))) i.v x ∈ ros) (b : St w0 ros rs w) :
  Calls Tryz.prog 30 #[g.v, i.v] w (fun e w => ∃ (y : Hdr), e = .returned (y.v) ∧ St w0 ros (row 31 (rP rB (rS (rI .u32))) y.v out :: rs) w) := by
 refine enterQ Tryz.func30 rfl Tryz.ntmps30 rfl fun Q E => sR fun _ F => Ya hnil.v rfl (wK F (sR fun _ G => Ya hnil.v rfl (wK G (sQ fun _ H => sR fun _ I => ?_))))
 refine Ya (iV 0) rfl (wK I (blockQ fun J K => bE m fun L N m => ?_))
 have O : ∀ (p : List (Bool × LI)) (h : Hdr) (f : FV) w, f 5 = h.v → St w0 ros (row 31 (rP rB (rS (rI .u32))) h.v p :: rs) w → p = L → J (.exit 0) (fr 23 f) w := by
  intro p h f w R b ho
  subst ho
  refine K _ _ _ (H _ _ (sR fun _ S => Ym h.v (eh R) (Ya h.v e0 (wK S (wp_ret ?_)))))
  cases m
  exact E _ _ _ (fin1r Tryz.results30 ⟨rfl, rfl⟩ ⟨_, rfl, b⟩)
 replace b := b.rowNh 31 (rP rB (rS (rI .u32)))
 refine loopQ (fun s a w => ∃ (q : List (Bool × LI)) (d : Int) (f : FV) (j : Hdr), (q, d) = s ∧ a = fr 23 f ∧ f 0 = g.v ∧ f 1 = i.v ∧ f 5 = j.v ∧ f 6 = iV d ∧ St w0 ros (row 31 (rP rB (rS (rI .u32))) j.v q :: rs) w) N ⟨_, _, _, _, rfl, rfl, rfl, rfl, rfl, rfl, b⟩ ?_
 rintro _ _ w a7 ⟨q, d, f, j, rfl, rfl, r, z, A, t, b⟩ c T a8 U V
 refine seqQ fun a9 W X => sR fun _ Z => Ym (iV d) (eh t) (Ym g.v (eh r) (yY (yLen SL_22 e0 b (rdI o)) (yY (ylss e0 e0) (wK Z ?_))))
 refine cIf e0 c (fun a0 c => ?_) fun a0 c => ?_
 ·refine wp_skip (W _ _ (sQ fun _ a1 => blockQ fun _ a3 => wR (Ym j.v (eh A) (Ym g.v (eh r) (Ym (iV d) (eh t) (bE c fun b0 B c => yY (yIa SL_22 e0 e0 b (rdI o) B) ?_))))))
  obtain ⟨b1, b⟩ := iLs b o B
  refine yY (yCt O_32 e0 b F1 rfl) (Ym i.v (eh z) (bE c fun k a4 c => yC (yCall FN_74 (a2 e0 e0)) (sparseref08_Dot_ok a4 F0 (F_2 D) b) ?_))
  rintro _ w ⟨C, rfl, b⟩
  refine ⟨_, rfl, ?_⟩
  refine yH (rLt (n := 1) (l := [(k.1, k.2)]) b.fz SL_32 [.agg #[.bool k.1, C.v]] (bp1 e0) rfl rfl (mks1 (cs := [.bool k.1, C.v]) rfl (mkP mkB (mkS F0)) mks0)) fun b2 w b => bE c fun b3 a5 c => yH (rAp (b.k10) SL_32 e0 e0 rO1 a5) fun a6 w b => Ya a6.v e0 (wN (a3 _ _ _ (a1 _ _ (wR (Ym (iV d) (eh t) (yY (yadd e0 rfl) (Ya (iV (wa .i64 d 1)) e0 (wN ?_))))))))
  cases c
  exact U _ _ _ rfl ⟨_, _, _, _, rfl, rfl, r, z, rfl, rfl, ((b.k11).facts (allT (allT (allT allI))))⟩
 ·refine wp_exit (X _ _ _ rfl ?_)
  cases c
  exact V _ _ _ _ rfl rfl (O _ _ _ _ A b (T _ rfl))
theorem sparseref01_Sign_ok {d : Bool} {j : LI} {f : Hdr} {out : Int} (b : sparseref01_Sign d j = some out) (l : imm (rI .u32) f.v j ∈ ros) (a : St w0 ros rs w) :
  Calls Tryz.prog 34 #[.agg #[.bool d, f.v]] w (fun e w => e = .returned (iV out) ∧ St w0 ros rs w) := by
 refine enterQ Tryz.func34 rfl Tryz.ntmps34 rfl fun Q g => sR fun _ m => yBb (r_box (vals := [.bool d, f.v]) a e0 rfl) fun z w a => Ya (iV 0) rfl (wK m (sR fun _ n => yY (lbs_ [.bool d, f.v] ST_31 e0 a R0) (bE b fun c o b => yC (yCall FN_78 (a1 e0)) (sparseref01_Norm_ok o l a) ?_)))
 rintro _ w ⟨h, rfl, a⟩
 refine ⟨_, rfl, ?_⟩
 refine yT (r_stbn (vals' := [.bool c.1, h.v]) (us := [.bool c.1, h.v]) (a.k10) ST_31 e0 e0 rfl rfl (one_of rfl) rfl) fun w a => wK n (seqQ fun A p k => blockQ fun _ i => sR fun _ q => yY (yFb FL_31_1 e0) (yY (lb_ h.v O_29 e0 a R0) (yY (yLen SL_29 e0 a rO1) (yY (yeql e0 rfl) (Ya (.bool (decide ((c.2.length : Int) = 0))) e0 (wN ?_))))))
 refine q _ _ ?_
 refine cIf e0 b (fun r b => ?_) fun r b => ?_
 ·refine sR fun _ s => Ya (iV 0) rfl (wK s (wp_ret (i _ _ _ (k _ _ _ rfl ?_))))
  cases b
  exact g _ _ _ (fin1r Tryz.results34 ⟨rfl, rfl⟩ ⟨rfl, (a.k14)⟩)
 ·refine sR fun _ t => yY (yFb FL_31_0 e0) (yY (lb_ (.bool c.1) O_4 e0 a R0) (Ya (.bool c.1) e0 (wK t (cB e0 b (fun u b => ?_) fun u b => ?_))))
  ·refine sR fun _ x => Ya (iV (-1)) rfl (wK x (wp_ret (i _ _ _ (k _ _ _ rfl ?_))))
   cases b
   exact g _ _ _ (fin1r Tryz.results34 ⟨rfl, rfl⟩ ⟨rfl, (a.k14)⟩)
  ·refine wp_skip (i _ _ _ (p _ _ (sR fun _ y => Ya (iV 1) rfl (wK y (wp_ret ?_)))))
   cases b
   exact g _ _ _ (fin1r Tryz.results34 ⟨rfl, rfl⟩ ⟨rfl, (a.k14)⟩)
theorem sparselaw08_ExactKernel_ok {c3 : LI} {a4 a5 : Int} {N : Hdr} {out : Bool} (c : sparselaw08_ExactKernel c3 a4 a5 = some out) (y3 : out = true) (c4 : imm I1 N.v c3 ∈ ros) (b : St w0 ros rs w) :
  Calls Tryz.prog 7 #[N.v, iV a4, iV a5] w (fun e w => e = .returned (.bool out) ∧ St w0 ros rs w) := by
 refine enterQ Tryz.func7 rfl Tryz.ntmps7 rfl fun Q B => sR fun _ k1 => Ya (.bool false) rfl (wK k1 (seqQ fun y4 g4 g5 => sR fun _ g6 => Ym N.v e0 (yY (yLen SL_48 e0 b (rdI c4)) (yY (ygtr e0 rfl) (wK g6 ?_)))))
 refine cIf e0 c (fun g7 c => ?_) fun g7 c => ?_
 ·refine sR fun _ g8 => bE c fun g9 h0 c => yC (yCall FN_10 a0) (sparselaw08_awake_ok h0 b) ?_
  rintro _ w ⟨rfl, b⟩
  refine ⟨_, rfl, ?_⟩
  refine Ya (.bool g9) e0 (wK g8 (wp_ret (g5 _ _ _ rfl ?_)))
  cases c
  exact B _ _ _ (fin1r Tryz.results7 ⟨rfl, rfl⟩ ⟨rfl, b⟩)
 ·refine wp_skip (g4 _ _ (sR fun _ h1 => Ym (iV a4) e0 (bE c fun k h3 c => yC (yCall FN_26 (a2 e0 rfl)) (sparsekit_Place_ok h3 b) ?_)))
  rintro _ w ⟨rfl, b⟩
  refine ⟨_, rfl, ?_⟩
  refine yY (yadd rfl e0) (Ya (iV (wa .i64 1 k)) e0 (wK h1 (sR fun _ h4 => Ym N.v e0 (Ym (iV (wa .i64 1 k)) e0 (bE c fun y5 h5 c => yC (yCall FN_27 (a2 e0 e0)) (sparselaw08_square_ok h5 c4 b) ?_)))))
  rintro _ w ⟨h, rfl, b⟩
  refine ⟨_, rfl, ?_⟩
  refine Ya h.v e0 (wK h4 (sR fun _ h6 => Ym h.v e0 (Ym (iV a5) e0 (Ym (iV (wa .i64 1 k)) e0 (bE c fun j h7 c => yC (yCall FN_26 (a2 e0 e0)) (sparsekit_Place_ok h7 b) ?_)))))
  rintro _ w ⟨rfl, b⟩
  refine ⟨_, rfl, ?_⟩
  refine yY (yadd rfl e0) (bE c fun C c6 c => ?_)
  replace b := b.fz
  refine yY (ySl (k1 := .i64) SL_22 e0 b (rdI F0) (.inr ⟨rfl, rfl⟩) (.inl (congrArg some e0)) c6) ?_
  replace b := b.sub F0 c6
  refine Ya ((subH h 1 0 (wa .i64 1 j)).v) e0 (wK h6 (sR fun _ h8 => Ym ((subH h 1 0 (wa .i64 1 j)).v) e0 (bE c fun i i0 c => yC (yCall FN_36 (a1 e0)) (exact_Kernel_ok i0 F0 b) ?_)))
  rintro _ w ⟨d, rfl, b⟩
  refine ⟨_, rfl, ?_⟩
  refine Ym (.tuple #[d.v, iV i.2]) e0 (yY (x_ d.v e0) (yY (x_ (iV i.2) e0) (Ya d.v e0 (Ya (iV i.2) e0 (wK h8 (sR fun _ i1 => Ym ((subH h 1 0 (wa .i64 1 j)).v) e0 (bE c fun g i2 c => yC (yCall FN_28 (a1 e0)) (exact_Rank_ok i2 F0 b) ?_)))))))
  rintro _ w ⟨rfl, b⟩
  refine ⟨_, rfl, ?_⟩
  refine Ym (.tuple #[iV g.1, iV g.2]) e0 (yY (x_ (iV g.1) e0) (yY (x_ (iV g.2) e0) (Ya (iV g.1) e0 (Ya (iV g.2) e0 (wK i1 (seqQ fun y6 i3 i4 => sR fun _ i5 => Ym (iV i.2) e0 (yY (yneq e0 rfl) (Ym (.bool (!(decide (i.2 = 0)))) e0 ?_))))))))
  refine joinW 3 (fun f w => f 1 = iV (wa .i64 1 k) ∧ f 7 = (subH h 1 0 (wa .i64 1 j)).v ∧ f 8 = d.v ∧ f 10 = iV g.1 ∧ f 55 = .bool ((!(decide (i.2 = 0))) || (!(decide (g.2 = 0)))) ∧ St w0 (imm (rS (rP rB (rS (rI .u32)))) (subH h 1 0 (wa .i64 1 j)).v C :: ros) (row 31 (rP rB (rS (rI .u32))) d.v i.1 :: rs) w) (fun c7 => ?_) ?_
  ·rcases Bool.eq_false_or_eq_true (!(decide (i.2 = 0))) with u | u
   ·exact gN u (gN u (yY (pt_ (.bool true) e0 u rfl) (c7 _ _ ⟨rfl, rfl, rfl, rfl, (congrArg Value.bool (orT u)), (b.facts (allC F0 (allT (allT allI))))⟩)))
   ·exact yG u (m_ (iV g.2) e0) (yG u (yneq e0 rfl) (yY (pf_ (.bool (!(decide (g.2 = 0)))) e0 u e0) (c7 _ _ ⟨rfl, rfl, rfl, rfl, (congrArg Value.bool (orF u)), (b.facts (allC F0 (allT (allT allI))))⟩)))
  rintro f w ⟨a6, c8, a7, a8, i6, b⟩
  refine Ym (.bool ((!(decide (i.2 = 0))) || (!(decide (g.2 = 0))))) (eh i6) ?_
  refine joinW 8 (fun f w => f 1 = iV (wa .i64 1 k) ∧ f 7 = (subH h 1 0 (wa .i64 1 j)).v ∧ f 8 = d.v ∧ f 10 = iV g.1 ∧ f 64 = .bool (((!(decide (i.2 = 0))) || (!(decide (g.2 = 0)))) || (!((decide ((0 : Int) < (i.1.length : Int))) == (decide (g.1 < (wa .i64 1 k)))))) ∧ St w0 (imm (rS (rP rB (rS (rI .u32)))) (subH h 1 0 (wa .i64 1 j)).v C :: ros) (row 31 (rP rB (rS (rI .u32))) d.v i.1 :: rs) w) (fun c9 => ?_) ?_
  ·rcases Bool.eq_false_or_eq_true ((!(decide (i.2 = 0))) || (!(decide (g.2 = 0)))) with m | m
   ·exact gN m (gN m (gN m (gN m (gN m (gN m (gN m (yY (pt_ (.bool true) e0 m rfl) (c9 _ _ ⟨a6, c8, a7, a8, (congrArg Value.bool (orT m)), b⟩))))))))
   ·exact yG m (m_ d.v (eh a7)) (yG m (yLen SL_32 e0 b rO0) (yG m (ygtr e0 rfl) (yG m (m_ (iV g.1) (eh a8)) (yG m (m_ (iV (wa .i64 1 k)) (eh a6)) (yG m (ylss e0 e0) (yG m (yneb (by kernel_rfl) e0 e0) (yY (pf_ (.bool (!((decide ((0 : Int) < (i.1.length : Int))) == (decide (g.1 < (wa .i64 1 k)))))) e0 m e0) (c9 _ _ ⟨a6, c8, a7, a8, (congrArg Value.bool (orF m)), b⟩))))))))
  rintro f w ⟨i7, i8, i9, j0, j3, b⟩
  refine wK i5 (cB (eh j3) c (fun j4 c => ?_) fun j4 c => ?_)
  ·refine sR fun _ j5 => Ya (.bool false) rfl (wK j5 (wp_ret (i4 _ _ _ rfl ?_)))
   cases c
   exact B _ _ _ (fin1r Tryz.results7 ⟨rfl, rfl⟩ ⟨rfl, ((b.k13).facts (allT allI))⟩)
  ·refine wp_skip (i3 _ _ (sR fun _ j7 => Ya hnil.v rfl (wK j7 (sQ fun _ j8 => sR fun _ k0 => Ya (iV 0) rfl (wK k0 (blockQ fun l0 l1 => ?_))))))
   refine bE c fun l2 l3 c => ?_
   have l4 : ∀ (a9 : L2) (O : Hdr) (f : FV) w, f 1 = iV (wa .i64 1 k) → f 7 = (subH h 1 0 (wa .i64 1 j)).v → f 8 = d.v → f 10 = iV g.1 → f 12 = O.v → St w0 (imm (rS (rP rB (rS (rI .u32)))) (subH h 1 0 (wa .i64 1 j)).v C :: ros) (row 31 (rP rB (rS (rI .u32))) d.v i.1 :: row 48 S1 O.v a9 :: rs) w → a9 = l2 → l0 (.exit 0) (fr 148 f) w := by
    intro a9 O f w d0 d1 d2 l5 l6 b ho
    subst ho
    refine l1 _ _ _ (j8 _ _ (sR fun _ l7 => Ym O.v (eh l6) (bE c fun o l8 c => ?_)))
    have d3 := b
    replace b := (b.k10).fz
    have I := b.guest0
    replace b := d3
    clear d3
    refine yC (yCall FN_43 (a2 e0 rfl)) (modular_Rank_ok l8 F0 I) ?_
    clear I
    rintro _ w ⟨rfl, I⟩
    replace b := b.back I
    clear I
    refine ⟨_, rfl, ?_⟩
    refine Ym (.tuple #[iV o.1, iV o.2]) e0 (yY (x_ (iV o.1) e0) (yY (x_ (iV o.2) e0) (Ya (iV o.1) e0 (Ya (iV o.2) e0 (wK l7 (seqQ fun y7 l9 m0 => sR fun _ m1 => Ym (iV o.2) e0 (yY (yneq e0 rfl) (Ym (.bool (!(decide (o.2 = 0)))) e0 ?_))))))))
    refine joinW 4 (fun f w => f 1 = iV (wa .i64 1 k) ∧ f 7 = (subH h 1 0 (wa .i64 1 j)).v ∧ f 8 = d.v ∧ f 106 = .bool ((!(decide (o.2 = 0))) || (decide (g.1 < o.1))) ∧ St w0 (imm (rS (rP rB (rS (rI .u32)))) (subH h 1 0 (wa .i64 1 j)).v C :: ros) (row 31 (rP rB (rS (rI .u32))) d.v i.1 :: rs) w) (fun d4 => ?_) ?_
    ·rcases Bool.eq_false_or_eq_true (!(decide (o.2 = 0))) with r | r
     ·exact gN r (gN r (gN r (yY (pt_ (.bool true) e0 r rfl) (d4 _ _ ⟨d0, d1, d2, (congrArg Value.bool (orT r)), (b.k11)⟩))))
     ·exact yG r (m_ (iV o.1) e0) (yG r (m_ (iV g.1) (eh l5)) (yG r (ygtr e0 e0) (yY (pf_ (.bool (decide (g.1 < o.1))) e0 r e0) (d4 _ _ ⟨d0, d1, d2, (congrArg Value.bool (orF r)), (b.k11)⟩))))
    rintro f w ⟨d5, m2, R, m3, b⟩
    refine wK m1 (cB (eh m3) c (fun m4 c => ?_) fun m4 c => ?_)
    ·refine sR fun _ m5 => Ya (.bool false) rfl (wK m5 (wp_ret (m0 _ _ _ rfl ?_)))
     cases c
     exact B _ _ _ (fin1r Tryz.results7 ⟨rfl, rfl⟩ ⟨rfl, ((b.k13).facts (allT allI))⟩)
    ·refine wp_skip (l9 _ _ (seqQ fun y8 m6 m7 => sR fun _ m8 => Ym d.v (eh R) (yY (yLen SL_32 e0 b rO0) (yY (yeql e0 rfl) (wK m8 ?_)))))
     refine cIf e0 c (fun m9 c => ?_) fun m9 c => ?_
     ·refine sR fun _ n0 => bE c fun n1 n2 c => yC (yCall FN_10 a0) (sparselaw08_awake_ok n2 b) ?_
      rintro _ w ⟨rfl, b⟩
      refine ⟨_, rfl, ?_⟩
      refine Ya (.bool n1) e0 (wK n0 (wp_ret (m7 _ _ _ rfl ?_)))
      cases c
      exact B _ _ _ (fin1r Tryz.results7 ⟨rfl, rfl⟩ ⟨rfl, ((b.k13).facts (allT allI))⟩)
     ·refine wp_skip (m6 _ _ (seqQ fun y9 n3 n4 => sR fun _ n6 => Ym d.v (eh R) (yY (yLen SL_32 e0 b rO0) (Ym (iV (wa .i64 1 k)) (eh d5) (yY (yneq e0 e0) (wK n6 ?_))))))
      rcases iteS c with ⟨b0, c⟩ | ⟨b0, c⟩
      ·refine condF e0 (nF (dT b0)) (wp_skip (n3 _ _ (sR fun _ n9 => Ym ((subH h 1 0 (wa .i64 1 j)).v) (eh m2) (Ym d.v (eh R) (bE c fun o0 o1 c => ?_)))))
       replace b := b.fz
       refine yC (yCall FN_30 (a2 e0 e0)) (sparseref08_Times_ok o1 F1 F0 b) ?_
       rintro _ w ⟨J, rfl, b⟩
       refine ⟨_, rfl, ?_⟩
       refine Ya J.v e0 (wK n9 (seqQ fun z0 o2 o3 => sR fun _ o4 => Ya (iV 0) rfl (wK o4 (blockQ fun d6 d7 => bE c fun d8 o6 c => ?_))))
       have o9 : ∀ (f : FV) w, f 1 = iV (wa .i64 1 k) → f 8 = d.v → St w0 (imm (rP rB (rS (rI .u32))) d.v i.1 :: ros) rs w → .inl () = d8 → d6 (.exit 4) (fr 148 f) w := by
        intro f w p0 p1 b ho
        subst ho
        refine d7 _ _ _ (o2 _ _ (sR fun _ p2 => yY (ybuild (us := [.bool false, hnil.v]) [] SO_31 bp0 rfl) (yBb (rAl b ZT_31) fun S w b => yT (r_stbn (vals' := [.bool false, hnil.v]) (us := [.bool false, hnil.v]) b ST_31 e0 e0 rfl rfl (one_of rfl) rfl) fun w b => wK p2 (sQ fun _ p3 => sR fun _ p4 => ?_))))
        refine Ya (iV 0) rfl (wK p4 (blockQ fun p5 p6 => bE c fun p7 p8 c => ?_))
        have p9 : ∀ (T : Bool) (b1 : LI) (U : Hdr) (f : FV) w, f 22 = (pB S) → St w0 (imm (rI .u32) U.v b1 :: ros) (box S 31 [.bool T, U.v] :: rs) w → (T, b1) = p7 → p5 (.exit 6) (fr 148 f) w := by
         intro T b1 U f w q0 b ho
         subst ho
         refine p6 _ _ _ (p3 _ _ (sR fun _ q2 => yY (lbs_ [.bool T, U.v] ST_31 (eh q0) b R0) (bE c fun q3 q4 c => yC (yCall FN_45 (a1 e0)) (integer_Format_ok q4 F0 b) ?_)))
         rintro _ w ⟨rfl, b⟩
         refine ⟨_, rfl, ?_⟩
         refine yY (yegs e0 rfl) (Ym (.bool (decide (q3 = (⟨#[49]⟩ : ByteArray)))) e0 (bE c fun d9 D c => ?_))
         refine joinW 2 (fun f w => f 147 = .bool d9 ∧ St w0 ros rs w) (fun e1 => ?_) ?_
         ·rcases iteS D with ⟨K, D⟩ | ⟨K, D⟩
          ·refine bE D fun q5 q6 D => Yc (wG (dT K)) rfl (yCall FN_10 a0) (sparselaw08_awake_ok q6 b) ?_
           rintro _ w ⟨rfl, b⟩
           refine ⟨_, rfl, ?_⟩
           refine yY (pt_ (.bool q5) e0 (dT K) e0) ?_
           cases D
           exact e1 _ _ ⟨rfl, ((b.k13).facts (allT allI))⟩
          ·refine gN (dF K) (yY (pf_ (.bool false) e0 (dF K) rfl) ?_)
           cases D
           exact e1 _ _ ⟨rfl, ((b.k13).facts (allT allI))⟩
         rintro f w ⟨q7, b⟩
         refine Ya (.bool d9) (eh q7) (wK q2 (wp_ret ?_))
         cases c
         exact B _ _ _ (fin1r Tryz.results7 ⟨rfl, rfl⟩ ⟨rfl, b⟩)
        replace b := b.immNh (rI .u32)
        refine loopQ (fun s a w => ∃ (V : Bool) (b2 : LI) (E : Int) (f : FV) (W : Hdr), (V, b2, E) = s ∧ a = fr 148 f ∧ f 1 = iV (wa .i64 1 k) ∧ f 8 = d.v ∧ f 22 = (pB S) ∧ f 23 = iV E ∧ St w0 (imm (rP rB (rS (rI .u32))) d.v i.1 :: imm (rI .u32) W.v b2 :: ros) (box S 31 [.bool V, W.v] :: rs) w) p8 ⟨_, _, _, _, _, rfl, rfl, p0, p1, rfl, rfl, (b.facts (allC F1 (allC F0 (allT (allT allI)))))⟩ ?_
        rintro _ _ w z1 ⟨V, b2, E, f, W, rfl, rfl, e2, e3, X, b3, b⟩ x q8 z3 q9 r0
        refine seqQ fun z4 r1 r2 => sR fun _ r3 => Ym (iV E) (eh b3) (Ym (iV (wa .i64 1 k)) (eh e2) (yY (ylss e0 e0) (wK r3 ?_)))
        refine cIf e0 x (fun r4 x => ?_) fun r4 x => ?_
        ·refine wp_skip (r1 _ _ (sQ fun _ r5 => blockQ fun _ r9 => bE x fun s0 e4 x => bE x fun e5 s1 x => dR [0, 0, 0, 6, 14, 31, 63] [5, 6] 2 folM ?_))
         replace b := b.drew
         refine Dn [0, 1, 2, 3, 4] [] [5] (yR rfl (lbs_ [.bool V, W.v] ST_31 (eh X) b R0) (yR rfl (m_ d.v (eh e3)) (yR rfl (m_ (iV E) (eh b3)) (yR rfl (yIa SL_32 e0 e0 b (rdI F0) e4) ?_))))
         obtain ⟨z5, z6, b⟩ := iLd b F0 e4
         obtain ⟨z7, z8, rfl, b⟩ := b.eltP
         obtain ⟨rfl, b⟩ := b.eltB
         obtain ⟨s2, rfl, b⟩ := b.eltS
         refine yR rfl (yCtn (cs := [.bool s0.1, s2.v]) ST_31 rfl e0 b F1) (Rn QSn ?_)
         refine Lc1 rfl ?_
         refine Lk wn (yCall FN_44 (a2 e0 e0)) (integer_GCD_ok s1 F3 F0 b) ?_
         rintro _ w ⟨e6, rfl, b⟩
         refine ⟨_, rfl, ?_⟩
         refine Dn [] [] [6] (Rn QSn ?_)
         refine Lc1 rfl ?_
         refine LT wn (r_stbn (vals' := [.bool e5.1, e6.v]) (us := [.bool e5.1, e6.v]) b ST_31 (eh X) e0 rfl rfl (one_of rfl) rfl) fun w b => Dz [] [] (Rn QSn (r9 _ _ _ (r5 _ _ (wR (Ym (iV E) (eh b3) (yY (yadd e0 rfl) (Ya (iV (wa .i64 E 1)) e0 (wN ?_))))))))
         cases x
         exact q9 _ _ _ rfl ⟨_, _, _, _, _, rfl, rfl, e2, e3, X, rfl, (b.facts (allC F3 (allC F0 (allT (allT (allT (allT (allT allI))))))))⟩
        ·refine wp_exit (r2 _ _ _ rfl ?_)
         cases x
         exact r0 _ _ _ _ rfl rfl (p9 _ _ _ _ _ X (b.facts (allC F1 (allT (allT allI)))) (q8 _ rfl))
       have s3 : ∀ (f : FV) w, f 6 = .bool false → St w0 ros rs w → .inr () = d8 → d6 .ret (fr 148 f) w := by
        intro f w s4 b ho
        subst ho
        refine d7 _ _ _ (o3 _ _ _ rfl ?_)
        cases c
        exact B _ _ _ (fin1r Tryz.results7 ⟨rfl, s4⟩ ⟨rfl, b⟩)
       refine loopQ (fun s a w => ∃ (F : Int) (f : FV), F = s ∧ a = fr 148 f ∧ f 1 = iV (wa .i64 1 k) ∧ f 8 = d.v ∧ f 20 = J.v ∧ f 21 = iV F ∧ St w0 (imm (rP rB (rS (rI .u32))) d.v i.1 :: ros) (row 31 (rP rB (rS (rI .u32))) J.v o0 :: rs) w) o6 ⟨_, _, rfl, rfl, d5, R, rfl, rfl, (b.facts (allC F0 (allT (allT allI))))⟩ ?_
       rintro _ _ w z9 ⟨F, f, rfl, rfl, e7, e8, b4, b5, b⟩ p e9 A0 s5 f0
       refine seqQ fun A1 s6 s7 => sR fun _ s8 => Ym (iV F) (eh b5) (Ym J.v (eh b4) (yY (yLen SL_32 e0 b rO0) (yY (ylss e0 e0) (wK s8 ?_))))
       refine cIf e0 p (fun s9 p => ?_) fun s9 p => ?_
       ·refine wp_skip (s6 _ _ (seqQ fun A2 t0 t1 => blockQ fun _ f1 => sR fun _ t2 => Ym J.v (eh b4) (Ym (iV F) (eh b5) (bE p fun t3 f2 p => yY (yIa SL_32 e0 e0 b rO0 f2) ?_))))
        obtain ⟨A3, A4, cc196, b⟩ := b.ld rO0 f2
        replace b := b.eltP
        obtain ⟨A5, A6, rfl, b⟩ := b
        replace b := b.eltB
        obtain ⟨rfl, b⟩ := b
        replace b := b.eltS
        obtain ⟨t4, rfl, b⟩ := b
        refine yY (yCn (cs := [.bool t3.1, t4.v]) ST_31 rfl e0 cc196) (bE p fun A7 t5 p => yC (yCall FN_34 (a1 e0)) (sparseref01_Sign_ok t5 F0 b) ?_)
        rintro _ w ⟨rfl, b⟩
        refine ⟨_, rfl, ?_⟩
        refine yY (yneq e0 rfl) (wK t2 ?_)
        rcases iteS p with ⟨b6, p⟩ | ⟨b6, p⟩
        ·refine condF e0 (nF (dT b6)) (wp_skip (f1 _ _ _ (t0 _ _ (wR (Ym (iV F) (eh b5) (yY (yadd e0 rfl) (Ya (iV (wa .i64 F 1)) e0 (wN ?_))))))))
         cases p
         exact s5 _ _ _ rfl ⟨_, _, rfl, rfl, e7, e8, b4, rfl, (b.facts (allC F1 (allT (allT allI))))⟩
        ·refine condT e0 (nT (dF b6)) (sR fun _ t6 => Ya (.bool false) rfl (wK t6 (wp_ret (f1 _ _ _ (t1 _ _ _ rfl ?_)))))
         cases p
         exact f0 _ _ _ _ rfl rfl (s3 _ _ rfl ((b.k13).facts (allT (allT allI))) (e9 _ rfl))
       ·refine wp_exit (s7 _ _ _ rfl ?_)
        cases p
        exact f0 _ _ _ _ rfl rfl (o9 _ _ e7 e8 (b.k13) (e9 _ rfl))
      ·refine condT e0 (nT (dF b0)) (sR fun _ t7 => Ya (.bool false) rfl (wK t7 (wp_ret (n4 _ _ _ rfl ?_))))
       cases c
       exact B _ _ _ (fin1r Tryz.results7 ⟨rfl, rfl⟩ ⟨rfl, ((b.k13).facts (allT allI))⟩)
   replace b := b.rowNh 48 S1
   refine loopQ (fun s a w => ∃ (L : L2) (y : Int) (f : FV) (A : Hdr), (L, y) = s ∧ a = fr 148 f ∧ f 1 = iV (wa .i64 1 k) ∧ f 7 = (subH h 1 0 (wa .i64 1 j)).v ∧ f 8 = d.v ∧ f 10 = iV g.1 ∧ f 12 = A.v ∧ f 13 = iV y ∧ St w0 (imm (rS (rP rB (rS (rI .u32)))) (subH h 1 0 (wa .i64 1 j)).v C :: ros) (row 31 (rP rB (rS (rI .u32))) d.v i.1 :: row 48 S1 A.v L :: rs) w) l3 ⟨_, _, _, _, rfl, rfl, i7, i8, i9, j0, rfl, rfl, (b.k10)⟩ ?_
   rintro _ _ w A8 ⟨L, y, f, A, rfl, rfl, f3, b7, f4, f5, f6, f7, b⟩ z t8 A9 t9 u0
   refine seqQ fun B0 u1 u2 => sR fun _ u3 => Ym (iV y) (eh f7) (Ym ((subH h 1 0 (wa .i64 1 j)).v) (eh b7) (yY (yLen SL_22 e0 b (rdI F0)) (yY (ylss e0 e0) (wK u3 ?_))))
   refine cIf e0 z (fun u4 z => ?_) fun u4 z => ?_
   ·refine wp_skip (u1 _ _ (sQ fun _ u5 => blockQ fun _ u6 => sR fun _ u7 => Ya hnil.v rfl (wK u7 (sQ fun _ u8 => sR fun _ u9 => Ya (iV 0) rfl (wN ?_)))))
    refine u9 _ _ (blockQ fun v0 v1 => bE z fun v2 v3 z => ?_)
    have v4 : ∀ (Z : LI) (H : Hdr) (f : FV) w, f 1 = iV (wa .i64 1 k) → f 7 = (subH h 1 0 (wa .i64 1 j)).v → f 8 = d.v → f 10 = iV g.1 → f 12 = A.v → f 13 = iV y → f 14 = H.v → St w0 (imm (rS (rP rB (rS (rI .u32)))) (subH h 1 0 (wa .i64 1 j)).v C :: ros) (row 31 (rP rB (rS (rI .u32))) d.v i.1 :: row 48 S1 A.v L :: row 3 I1 H.v Z :: rs) w → Z = v2 → v0 (.exit 2) (fr 148 f) w := by
     intro Z H f w v5 v6 v7 v8 v9 w1 w2 b ho
     subst ho
     refine v1 _ _ _ (u8 _ _ (wR (Ym A.v (eh v9) (Ym H.v (eh w2) (yH (rLt (n := 1) (l := [Z]) ((b.k1f).fz) SL_63 [H.v] (bp1 e0) rfl rfl (mks1 (cs := [H.v]) rfl (mkS F0) mks0)) fun B1 w b => bE z fun B2 w3 z => yH (rAp (b.k1f) SL_63 e0 e0 rO1 w3) fun w4 w b => Ya w4.v e0 (wN (u6 _ _ _ (u5 _ _ ?_))))))))
     refine wR (Ym (iV y) (eh w1) (yY (yadd e0 rfl) (Ya (iV (wa .i64 y 1)) e0 (wN ?_))))
     cases z
     exact t9 _ _ _ rfl ⟨_, _, _, _, rfl, rfl, v5, v6, v7, v8, rfl, rfl, ((b.k2d).facts (allC F1 (allT (allT allI))))⟩
    replace b := b.rowNh 3 I1
    refine loopQ (fun s a w => ∃ (b8 : LI) (G : Int) (f : FV) (a3 : Hdr), (b8, G) = s ∧ a = fr 148 f ∧ f 1 = iV (wa .i64 1 k) ∧ f 7 = (subH h 1 0 (wa .i64 1 j)).v ∧ f 8 = d.v ∧ f 10 = iV g.1 ∧ f 12 = A.v ∧ f 13 = iV y ∧ f 14 = a3.v ∧ f 15 = iV G ∧ St w0 (imm (rS (rP rB (rS (rI .u32)))) (subH h 1 0 (wa .i64 1 j)).v C :: ros) (row 31 (rP rB (rS (rI .u32))) d.v i.1 :: row 48 S1 A.v L :: row 3 I1 a3.v b8 :: rs) w) v3 ⟨_, _, _, _, rfl, rfl, f3, b7, f4, f5, f6, f7, rfl, rfl, (b.k19)⟩ ?_
    rintro _ _ w B3 ⟨b8, G, f, a3, rfl, rfl, b9, c0, f8, f9, g0, c1, g1, c2, b⟩ q w5 B4 w6 w7
    refine seqQ fun B5 w8 w9 => sR fun _ x0 => Ym (iV G) (eh c2) (Ym (iV (wa .i64 1 k)) (eh b9) (yY (ylss e0 e0) (wK x0 ?_)))
    refine cIf e0 q (fun x2 q => ?_) fun x2 q => ?_
    ·refine wp_skip (w8 _ _ (sQ fun _ x5 => blockQ fun _ x6 => sR fun _ x7 => Ym ((subH h 1 0 (wa .i64 1 j)).v) (eh c0) (Ym (iV y) (eh c1) (bE q fun B6 g2 q => yY (yIa SL_22 e0 e0 b (rdI F0) g2) ?_))))
     obtain ⟨B7, b⟩ := iLs b F0 g2
     refine yY (yCt O_32 e0 b F1 rfl) (Ym (iV G) (eh c2) (bE q fun x8 g3 q => yY (yIa SL_32 e0 e0 b (rdI F0) g3) ?_))
     obtain ⟨B8, B9, b⟩ := iLd b F0 g3
     obtain ⟨C0, C1, rfl, b⟩ := b.eltP
     obtain ⟨rfl, b⟩ := b.eltB
     obtain ⟨x9, rfl, b⟩ := b.eltS
     refine yY (yCtn (cs := [.bool x8.1, x9.v]) ST_31 rfl e0 b F1) (bE q fun t y0 q => yC (yCall FN_42 (a1 e0)) (sparseref01_Int_ok y0 F0 b) ?_)
     rintro _ w ⟨rfl, b⟩
     refine ⟨_, rfl, ?_⟩
     refine Ym (.tuple #[iV t.1, .bool t.2]) e0 (yY (x_ (iV t.1) e0) (yY (x_ (.bool t.2) e0) (Ya (iV t.1) e0 (Ya (.bool t.2) e0 (wK x7 (wR (Ym a3.v (eh g1) (Ym (iV t.1) e0 (yH (rLt (n := 1) (l := [t.1]) b SL_48 [iV t.1] (bp1 e0) rfl rfl (mks1 (cs := [iV t.1]) rfl mkI mks0)) fun C2 w b => bE q fun C3 y1 q => yH (rAp (b.k17) SL_48 e0 e0 rO1 y1) ?_)))))))))
     refine fun y2 w b => Ya y2.v e0 (wN (x6 _ _ _ (x5 _ _ (wR (Ym (iV G) (eh c2) (yY (yadd e0 rfl) (Ya (iV (wa .i64 G 1)) e0 (wN ?_))))))))
     cases q
     exact w6 _ _ _ rfl ⟨_, _, _, _, rfl, rfl, b9, c0, f8, f9, g0, c1, rfl, rfl, ((b.k18).facts (allC F4 (allT (allT (allT (allT (allT allI)))))))⟩
    ·refine wp_exit (w9 _ _ _ rfl ?_)
     cases q
     exact w7 _ _ _ _ rfl rfl (v4 _ _ _ _ b9 c0 f8 f9 g0 c1 g1 b (w5 _ rfl))
   ·refine wp_exit (u2 _ _ _ rfl ?_)
    cases z
    exact u0 _ _ _ _ rfl rfl (l4 _ _ _ _ f3 b7 f4 f5 f6 b (t8 _ rfl))
end Go.Proofs.YtpfmbaidflhamaaGreatDoor
