/- Walks: each function computes its model, printed. -/
import Derived.Test.YtpfmbaidflhamaaGreatDoorW4
namespace Go.Proofs.YtpfmbaidflhamaaGreatDoor
open Go Sx M
set_option maxRecDepth 100000
set_option maxHeartbeats 40000000
set_option linter.unusedVariables false
attribute [local irreducible] wpList Code.wp Calls DR QR QS LA LS St
variable {w0 : World} {ros : List Fact} {rs : List Res} {w : World}
theorem sparseref08_Times_ok {u : List (List (Bool × LI))} {x : List (Bool × LI)} {g i : Hdr} {out : (List (Bool × LI))} (m : sparseref08_Times u x = some out) (o : imm (rS (rP rB (rS (rI .u32)))) g.v u ∈ ros) (D : imm (rP rB (rS (rI .u32))) i.v x ∈ ros) (b : St w0 ros rs w) :
  Calls Tryz.prog 30 #[g.v, i.v] w (fun e w => ∃ (y : Hdr), e = .returned (y.v) ∧ St w0 ros (row 31 (rP rB (rS (rI .u32))) y.v out :: rs) w) := by
 refine enterQ Tryz.func30 rfl Tryz.ntmps30 rfl fun Q E => sR fun _ F => Ya hnil.v rfl (wK F (sR fun _ G => Ya hnil.v rfl (wK G (sQ fun _ H => sR fun _ I => ?_))))
 refine Ya (iV 0) rfl (wK I (blockQ fun J K => bE m fun L N m => ?_))
 have O : ∀ (p : List (Bool × LI)) (h : Hdr) (f : FV) w, f 5 = h.v → St w0 ros (row 31 (rP rB (rS (rI .u32))) h.v p :: rs) w → p = L → J (.exit 0) (fr 23 f) w := by
  intro p h f w R b ho
  subst ho
  refine K _ _ _ (H _ _ (sR fun _ S => Ym h.v (eh R) (Ya h.v e0 (wK S (wp_ret ?_)))))
  cases m
  exact E _ _ _ (fin1r Tryz.results30 ⟨rfl, rfl⟩ ⟨_, rfl, b⟩)
 replace b := b.rowNh 31 (rP rB (rS (rI .u32)))
 refine loopQ (fun s a w => ∃ (q : List (Bool × LI)) (d : Int) (f : FV) (j : Hdr), (q, d) = s ∧ a = fr 23 f ∧ f 0 = g.v ∧ f 1 = i.v ∧ f 5 = j.v ∧ f 6 = iV d ∧ St w0 ros (row 31 (rP rB (rS (rI .u32))) j.v q :: rs) w) N ⟨_, _, _, _, rfl, rfl, rfl, rfl, rfl, rfl, b⟩ ?_
 rintro _ _ w a7 ⟨q, d, f, j, rfl, rfl, r, z, A, t, b⟩ c T a8 U V
 refine seqQ fun a9 W X => sR fun _ Z => Ym (iV d) (eh t) (Ym g.v (eh r) (yY (yLen SL_22 e0 b (rdI o)) (yY (ylss e0 e0) (wK Z ?_))))
 refine cIf e0 c (fun a0 c => ?_) fun a0 c => ?_
 ·refine wp_skip (W _ _ (sQ fun _ a1 => blockQ fun _ a3 => wR (Ym j.v (eh A) (Ym g.v (eh r) (Ym (iV d) (eh t) (bE c fun b0 B c => yY (yIa SL_22 e0 e0 b (rdI o) B) ?_))))))
  obtain ⟨b1, b⟩ := iLs b o B
  refine yY (yCt O_32 e0 b F1 rfl) (Ym i.v (eh z) (bE c fun k a4 c => yC (yCall FN_74 (a2 e0 e0)) (sparseref08_Dot_ok a4 F0 (F_2 D) b) ?_))
  rintro _ w ⟨C, rfl, b⟩
  refine ⟨_, rfl, ?_⟩
  refine yH (rLt (n := 1) (l := [(k.1, k.2)]) b.fz SL_32 [.agg #[.bool k.1, C.v]] (bp1 e0) rfl rfl (mks1 (cs := [.bool k.1, C.v]) rfl (mkP mkB (mkS F0)) mks0)) fun b2 w b => bE c fun b3 a5 c => yH (rAp (b.k10) SL_32 e0 e0 rO1 a5) fun a6 w b => Ya a6.v e0 (wN (a3 _ _ _ (a1 _ _ (wR (Ym (iV d) (eh t) (yY (yadd e0 rfl) (Ya (iV (wa .i64 d 1)) e0 (wN ?_))))))))
  cases c
  exact U _ _ _ rfl ⟨_, _, _, _, rfl, rfl, r, z, rfl, rfl, ((b.k11).facts (allT (allT (allT allI))))⟩
 ·refine wp_exit (X _ _ _ rfl ?_)
  cases c
  exact V _ _ _ _ rfl rfl (O _ _ _ _ A b (T _ rfl))
theorem sparseref08_Cols_ok {f : List (List (Bool × LI))} {c : Hdr} {out : Int} (b : sparseref08_Cols f = some out) (d : imm (rS (rP rB (rS (rI .u32)))) c.v f ∈ ros) (a : St w0 ros rs w) :
  Calls Tryz.prog 13 #[c.v] w (fun e w => e = .returned (iV out) ∧ St w0 ros rs w) := by
 refine enterQ Tryz.func13 rfl Tryz.ntmps13 rfl fun Q g => sR fun _ i => Ya (iV 0) rfl (wK i (seqQ fun q j k => sR fun _ l => Ym c.v e0 (yY (yLen SL_22 e0 a (rdI d)) (yY (yeql e0 rfl) (wK l ?_)))))
 refine cIf e0 b (fun m b => ?_) fun m b => ?_
 ·refine sR fun _ n => Ya (iV 0) rfl (wK n (wp_ret (k _ _ _ rfl ?_)))
  cases b
  exact g _ _ _ (fin1r Tryz.results13 ⟨rfl, rfl⟩ ⟨rfl, a⟩)
 ·refine wp_skip (j _ _ (sR fun _ o => Ym c.v e0 (bE b fun p h b => yY (yIa SL_22 e0 rfl a (rdI d) h) ?_)))
  obtain ⟨r, a⟩ := iLs a d h
  refine yY (yCt O_32 e0 a F1 rfl) (yY (yLen SL_32 e0 a (rdI F0)) (Ya (iV (p.length : Int)) e0 (wK o (wp_ret ?_))))
  cases b
  exact g _ _ _ (fin1r Tryz.results13 ⟨rfl, rfl⟩ ⟨rfl, (a.facts (allT (allT allI)))⟩)
theorem sparseref08_Transpose_ok {D : List (List (Bool × LI))} {h : Hdr} {out : (List (List (Bool × LI)))} (x : sparseref08_Transpose D = some out) (q : imm (rS (rP rB (rS (rI .u32)))) h.v D ∈ ros) (b : St w0 ros rs w) :
  Calls Tryz.prog 33 #[h.v] w (fun e w => ∃ (E : Hdr), e = .returned (E.v) ∧ St w0 ros (row 32 (rS (rP rB (rS (rI .u32)))) E.v out :: rs) w) := by
 refine enterQ Tryz.func33 rfl Tryz.ntmps33 rfl fun Q N => sR fun _ O => Ya hnil.v rfl (wK O (sR fun _ R => Ya hnil.v rfl (wK R (sQ fun _ S => sR fun _ T => ?_))))
 refine Ya (iV 0) rfl (wK T (blockQ fun U V => bE x fun W X x => ?_))
 have Z : ∀ (y : List (List (Bool × LI))) (m : Hdr) (f : FV) w, f 3 = m.v → St w0 ros (row 32 (rS (rP rB (rS (rI .u32)))) m.v y :: rs) w → y = W → U (.exit 0) (fr 34 f) w := by
  intro y m f w a0 b ho
  subst ho
  refine V _ _ _ (S _ _ (sR fun _ a2 => Ym m.v (eh a0) (Ya m.v e0 (wK a2 (wp_ret ?_)))))
  cases x
  exact N _ _ _ (fin1r Tryz.results33 ⟨rfl, rfl⟩ ⟨_, rfl, b⟩)
 replace b := b.rowNh 32 (rS (rP rB (rS (rI .u32))))
 refine loopQ (fun s a w => ∃ (o : List (List (Bool × LI))) (g : Int) (f : FV) (i : Hdr), (o, g) = s ∧ a = fr 34 f ∧ f 0 = h.v ∧ f 3 = i.v ∧ f 4 = iV g ∧ St w0 ros (row 32 (rS (rP rB (rS (rI .u32)))) i.v o :: rs) w) X ⟨_, _, _, _, rfl, rfl, rfl, rfl, rfl, b⟩ ?_
 rintro _ _ w d8 ⟨o, g, f, i, rfl, rfl, F, G, H, b⟩ c a3 d9 a4 a5
 refine seqQ fun e1 a6 a7 => sR fun _ a8 => Ym (iV g) (eh H) (Ym h.v (eh F) (bE c fun e2 a9 c => yC (yCall FN_13 (a1 e0)) (sparseref08_Cols_ok a9 q b) ?_))
 rintro _ w ⟨rfl, b⟩
 refine ⟨_, rfl, ?_⟩
 refine yY (ylss e0 e0) (wK a8 ?_)
 refine cIf e0 c (fun b0 c => ?_) fun b0 c => ?_
 ·refine wp_skip (a6 _ _ (sQ fun _ b1 => blockQ fun _ b2 => sR fun _ b3 => Ya hnil.v rfl (wK b3 (sQ fun _ b4 => sR fun _ b5 => Ya (iV 0) rfl (wN ?_)))))
  refine b5 _ _ (blockQ fun b6 b7 => bE c fun b8 b9 c => ?_)
  have c0 : ∀ (r : List (Bool × LI)) (k : Hdr) (f : FV) w, f 0 = h.v → f 3 = i.v → f 4 = iV g → f 5 = k.v → St w0 ros (row 32 (rS (rP rB (rS (rI .u32)))) i.v o :: row 31 (rP rB (rS (rI .u32))) k.v r :: rs) w → r = b8 → b6 (.exit 2) (fr 34 f) w := by
   intro r k f w c1 c2 c3 c4 b ho
   subst ho
   refine b7 _ _ _ (b4 _ _ (wR (Ym i.v (eh c2) (Ym k.v (eh c4) (yH (rLt (n := 1) (l := [r]) ((b.k10).fz) SL_22 [k.v] (bp1 e0) rfl rfl (mks1 (cs := [k.v]) rfl (mkS F0) mks0)) fun e3 w b => bE c fun e4 c5 c => yH (rAp (b.k10) SL_22 e0 e0 rO1 c5) fun c6 w b => Ya c6.v e0 (wN (b2 _ _ _ (b1 _ _ ?_))))))))
   refine wR (Ym (iV g) (eh c3) (yY (yadd e0 rfl) (Ya (iV (wa .i64 g 1)) e0 (wN ?_))))
   cases c
   exact a4 _ _ _ rfl ⟨_, _, _, _, rfl, rfl, c1, rfl, rfl, ((b.k11).facts (allT allI))⟩
  replace b := b.rowNh 31 (rP rB (rS (rI .u32)))
  refine loopQ (fun s a w => ∃ (z : List (Bool × LI)) (j : Int) (f : FV) (t : Hdr), (z, j) = s ∧ a = fr 34 f ∧ f 0 = h.v ∧ f 3 = i.v ∧ f 4 = iV g ∧ f 5 = t.v ∧ f 6 = iV j ∧ St w0 ros (row 32 (rS (rP rB (rS (rI .u32)))) i.v o :: row 31 (rP rB (rS (rI .u32))) t.v z :: rs) w) b9 ⟨_, _, _, _, rfl, rfl, F, G, H, rfl, rfl, (b.k10)⟩ ?_
  rintro _ _ w e5 ⟨z, j, f, t, rfl, rfl, u, I, A, J, B, b⟩ d c7 e6 c8 c9
  refine seqQ fun e7 d0 d1 => sR fun _ d2 => Ym (iV j) (eh B) (Ym h.v (eh u) (yY (yLen SL_22 e0 b (rdI q)) (yY (ylss e0 e0) (wK d2 ?_))))
  refine cIf e0 d (fun d3 d => ?_) fun d3 d => ?_
  ·refine wp_skip (d0 _ _ (sQ fun _ d4 => blockQ fun _ d5 => wR (Ym t.v (eh J) (Ym h.v (eh u) (Ym (iV j) (eh B) (bE d fun e8 K d => yY (yIa SL_22 e0 e0 b (rdI q) K) ?_))))))
   obtain ⟨e9, b⟩ := iLs b q K
   refine yY (yCt O_32 e0 b F1 rfl) (Ym (iV g) (eh A) (bE d fun p L d => yY (yIa SL_32 e0 e0 b (rdI F0) L) ?_))
   obtain ⟨f0, f1, b⟩ := iLd b F0 L
   obtain ⟨f2, f3, rfl, b⟩ := b.eltP
   obtain ⟨rfl, b⟩ := b.eltB
   obtain ⟨C, rfl, b⟩ := b.eltS
   refine yY (yCtn (cs := [.bool p.1, C.v]) ST_31 rfl e0 b F1) (yH (rLt (n := 1) (l := [(p.1, p.2)]) b SL_32 [.agg #[.bool p.1, C.v]] (bp1 e0) rfl rfl (mks1 (cs := [.bool p.1, C.v]) rfl (mkP mkB (mkS F0)) mks0)) fun f4 w b => bE d fun f5 d6 d => yH (rAp (b.k1f) SL_32 e0 e0 rO1 d6) fun d7 w b => Ya d7.v e0 (wN (d5 _ _ _ (d4 _ _ (wR (Ym (iV j) (eh B) (yY (yadd e0 rfl) (Ya (iV (wa .i64 j 1)) e0 ?_))))))))
   refine wN ?_
   cases d
   exact c8 _ _ _ rfl ⟨_, _, _, _, rfl, rfl, u, I, A, rfl, rfl, ((b.k2d).facts (allT (allT (allT (allT allI)))))⟩
  ·refine wp_exit (d1 _ _ _ rfl ?_)
   cases d
   exact c9 _ _ _ _ rfl rfl (c0 _ _ _ _ u I A J b (c7 _ rfl))
 ·refine wp_exit (a7 _ _ _ rfl ?_)
  cases c
  exact a5 _ _ _ _ rfl rfl (Z _ _ _ _ G b (a3 _ rfl))
theorem sparseref01_Norm_ok {b : Bool} {f : LI} {c : Hdr} {out : Bool × LI} (d : sparseref01_Norm b f = some out) (j : imm (rI .u32) c.v f ∈ ros) (a : St w0 ros rs w) :
  Calls Tryz.prog 78 #[.agg #[.bool b, c.v]] w (fun e w => ∃ (g : Hdr), e = .returned (.agg #[.bool out.1, g.v]) ∧ St w0 ros (row 103 (rI .u32) g.v out.2 :: rs) w) := by
 refine enterQ Tryz.func78 rfl Tryz.ntmps78 rfl fun Q k => sR fun _ l => yBb (r_box (vals := [.bool b, c.v]) a e0 rfl) fun o w a => yBb (rAl a ZT_31) fun p w a => wK l (sR fun _ m => yY (yFb FL_31_0 e0) (yY (lb_ (.bool b) O_4 e0 a R1) (yY (yFb FL_31_1 e0) ?_)))
 refine yY (lb_ c.v O_29 e0 a R1) (bE d fun h n d => yC (yCall FN_110 (a2 e0 e0)) (sparseref01_make1_ok n j a) ?_)
 rintro _ w ⟨i, rfl, a⟩
 refine ⟨_, rfl, ?_⟩
 refine yT (r_stbn (vals' := [.bool h.1, i.v]) (us := [.bool h.1, i.v]) (a.k10) ST_31 e0 e0 rfl rfl (one_of rfl) rfl) fun w a => wK m (wp_ret ?_)
 cases d
 exact k _ _ _ (fin1r Tryz.results78 (rcs2 rfl rfl a R0 ST_31 rfl) ⟨_, rfl, (a.k1u)⟩)
theorem sparseref01_Sign_ok {d : Bool} {j : LI} {f : Hdr} {out : Int} (b : sparseref01_Sign d j = some out) (l : imm (rI .u32) f.v j ∈ ros) (a : St w0 ros rs w) :
  Calls Tryz.prog 34 #[.agg #[.bool d, f.v]] w (fun e w => e = .returned (iV out) ∧ St w0 ros rs w) := by
 refine enterQ Tryz.func34 rfl Tryz.ntmps34 rfl fun Q g => sR fun _ m => yBb (r_box (vals := [.bool d, f.v]) a e0 rfl) fun z w a => Ya (iV 0) rfl (wK m (sR fun _ n => yY (lbs_ [.bool d, f.v] ST_31 e0 a R0) (bE b fun c o b => yC (yCall FN_78 (a1 e0)) (sparseref01_Norm_ok o l a) ?_)))
 rintro _ w ⟨h, rfl, a⟩
 refine ⟨_, rfl, ?_⟩
 refine yT (r_stbn (vals' := [.bool c.1, h.v]) (us := [.bool c.1, h.v]) (a.k10) ST_31 e0 e0 rfl rfl (one_of rfl) rfl) fun w a => wK n (seqQ fun A p k => blockQ fun _ i => sR fun _ q => yY (yFb FL_31_1 e0) (yY (lb_ h.v O_29 e0 a R0) (yY (yLen SL_29 e0 a rO1) (yY (yeql e0 rfl) (Ya (.bool (decide ((c.2.length : Int) = 0))) e0 (wN ?_))))))
 refine q _ _ ?_
 refine cIf e0 b (fun r b => ?_) fun r b => ?_
 ·refine sR fun _ s => Ya (iV 0) rfl (wK s (wp_ret (i _ _ _ (k _ _ _ rfl ?_))))
  cases b
  exact g _ _ _ (fin1r Tryz.results34 ⟨rfl, rfl⟩ ⟨rfl, (a.k14)⟩)
 ·refine sR fun _ t => yY (yFb FL_31_0 e0) (yY (lb_ (.bool c.1) O_4 e0 a R0) (Ya (.bool c.1) e0 (wK t (cB e0 b (fun u b => ?_) fun u b => ?_))))
  ·refine sR fun _ x => Ya (iV (-1)) rfl (wK x (wp_ret (i _ _ _ (k _ _ _ rfl ?_))))
   cases b
   exact g _ _ _ (fin1r Tryz.results34 ⟨rfl, rfl⟩ ⟨rfl, (a.k14)⟩)
  ·refine wp_skip (i _ _ _ (p _ _ (sR fun _ y => Ya (iV 1) rfl (wK y (wp_ret ?_)))))
   cases b
   exact g _ _ _ (fin1r Tryz.results34 ⟨rfl, rfl⟩ ⟨rfl, (a.k14)⟩)
theorem sparselaw08_ExactLeast_ok {O U : LI} {V W : Int} {R S : Hdr} {out : Bool} (c : sparselaw08_ExactLeast O U V W = some out) (A8 : out = true) (d2 : imm I1 R.v O ∈ ros) (d3 : imm I1 S.v U ∈ ros) (b : St w0 ros rs w) :
  Calls Tryz.prog 5 #[R.v, S.v, iV V, iV W] w (fun e w => e = .returned (.bool out) ∧ St w0 ros rs w) := by
 refine enterQ Tryz.func5 rfl Tryz.ntmps5 rfl fun Q H => sR fun _ k1 => Ya (.bool false) rfl (wK k1 (seqQ fun A9 i2 i3 => sR fun _ i4 => Ym R.v e0 (yY (yLen SL_48 e0 b (rdI d2)) (yY (ygtr e0 rfl) (Ym (.bool (decide ((25 : Int) < (O.length : Int)))) e0 ?_)))))
 refine joinW 4 (fun f w => f 0 = R.v ∧ f 1 = S.v ∧ f 2 = iV V ∧ f 3 = iV W ∧ f 29 = .bool ((decide ((25 : Int) < (O.length : Int))) || (decide ((25 : Int) < (U.length : Int)))) ∧ St w0 ros rs w) (fun d4 => ?_) ?_
 ·rcases Bool.eq_false_or_eq_true (decide ((25 : Int) < (O.length : Int))) with x | x
  ·exact gN x (gN x (gN x (yY (pt_ (.bool true) e0 x rfl) (d4 _ _ ⟨rfl, rfl, rfl, rfl, (congrArg Value.bool (orT x)), b⟩))))
  ·exact yG x (m_ S.v e0) (yG x (yLen SL_48 e0 b (rdI d3)) (yG x (ygtr e0 rfl) (yY (pf_ (.bool (decide ((25 : Int) < (U.length : Int)))) e0 x e0) (d4 _ _ ⟨rfl, rfl, rfl, rfl, (congrArg Value.bool (orF x)), b⟩))))
 rintro f w ⟨i5, i6, i7, i8, i9, b⟩
 refine wK i4 (cB (eh i9) c (fun j0 c => ?_) fun j0 c => ?_)
 ·refine sR fun _ j2 => bE c fun j4 j8 c => yC (yCall FN_10 a0) (sparselaw08_awake_ok j8 b) ?_
  rintro _ w ⟨rfl, b⟩
  refine ⟨_, rfl, ?_⟩
  refine Ya (.bool j4) e0 (wK j2 (wp_ret (i3 _ _ _ rfl ?_)))
  cases c
  exact H _ _ _ (fin1r Tryz.results5 ⟨rfl, rfl⟩ ⟨rfl, b⟩)
 ·refine wp_skip (i2 _ _ (sR fun _ j9 => Ym (iV V) (eh i7) (bE c fun h k0 c => yC (yCall FN_26 (a2 e0 rfl)) (sparsekit_Place_ok k0 b) ?_)))
  rintro _ w ⟨rfl, b⟩
  refine ⟨_, rfl, ?_⟩
  refine yY (yadd rfl e0) (Ya (iV (wa .i64 1 h)) e0 (wK j9 (sR fun _ l0 => Ym (iV W) (eh i8) (Ym (iV (wa .i64 1 h)) e0 (bE c fun g l1 c => yC (yCall FN_26 (a2 e0 e0)) (sparsekit_Place_ok l1 b) ?_)))))
  rintro _ w ⟨rfl, b⟩
  refine ⟨_, rfl, ?_⟩
  refine yY (yadd rfl e0) (Ya (iV (wa .i64 1 g)) e0 (wK l0 (sR fun _ l2 => Ym R.v (eh i5) (Ym (iV (wa .i64 1 h)) e0 (bE c fun B0 l3 c => yC (yCall FN_27 (a2 e0 e0)) (sparselaw08_square_ok l3 d2 b) ?_)))))
  rintro _ w ⟨i, rfl, b⟩
  refine ⟨_, rfl, ?_⟩
  refine Ya i.v e0 (wK l2 (sR fun _ l4 => Ym S.v (eh i6) (Ym (iV (wa .i64 1 h)) e0 (bE c fun B1 l5 c => yC (yCall FN_27 (a2 e0 e0)) (sparselaw08_square_ok l5 d3 b) ?_))))
  rintro _ w ⟨B2, rfl, b⟩
  refine ⟨_, rfl, ?_⟩
  refine bE c fun I d5 c => yY (yIa SL_22 e0 rfl b rO0 d5) ?_
  obtain ⟨l, l6, b⟩ := rLs b rO0 d5
  refine yY (yCe O_32 e0 l6 rfl) (Ya l.v e0 (wK l4 (sQ fun _ l7 => sR fun _ l8 => Ya (iV 0) rfl (wK l8 (blockQ fun l9 m0 => bE c fun m1 m2 c => ?_)))))
  have m3 : ∀ (C : List (List (Bool × LI))) (f : FV) w, f 2 = iV (wa .i64 1 h) → f 3 = iV (wa .i64 1 g) → f 9 = i.v → f 10 = l.v → St w0 (imm (rP rB (rS (rI .u32))) l.v I :: ros) (row 32 (rS (rP rB (rS (rI .u32)))) i.v C :: rs) w → C = m1 → l9 (.exit 0) (fr 156 f) w := by
   intro C f w d6 a6 X a7 b ho
   subst ho
   refine m0 _ _ _ (l7 _ _ (sR fun _ m4 => Ym i.v (eh X) (Ym l.v (eh a7) (bE c fun d m5 c => ?_))))
   replace b := b.fz
   refine yC (yCall FN_20 (a2 e0 e0)) (exact_Least_ok m5 F0 F1 b) ?_
   rintro _ w ⟨q, n, rfl, b⟩
   refine ⟨_, rfl, ?_⟩
   refine Ym (.tuple #[q.v, .agg #[.bool d.2.1, n.v], iV d.2.2.2]) e0 (yY (x_ q.v e0) (yY (x_ (.agg #[.bool d.2.1, n.v]) e0) (yY (x_ (iV d.2.2.2) e0) (yBb (rAl b ZT_31) fun B w b => Ya q.v e0 (yT (r_stbn (vals' := [.bool d.2.1, n.v]) (us := [.bool d.2.1, n.v]) b ST_31 e0 e0 rfl rfl (one_of rfl) rfl) fun w b => Ya (iV d.2.2.2) e0 (wK m4 (sR fun _ m6 => ?_)))))))
   refine Ym i.v (eh X) (bE c fun j m7 c => yC (yCall FN_28 (a1 e0)) (exact_Rank_ok m7 F1 b) ?_)
   rintro _ w ⟨rfl, b⟩
   refine ⟨_, rfl, ?_⟩
   refine Ym (.tuple #[iV j.1, iV j.2]) e0 (yY (x_ (iV j.1) e0) (yY (x_ (iV j.2) e0) (Ya (iV j.1) e0 (Ya (iV j.2) e0 (wK m6 (seqQ fun B3 m8 m9 => sR fun _ n0 => Ym (iV j.2) e0 (yY (yneq e0 rfl) (Ym (.bool (!(decide (j.2 = 0)))) e0 ?_))))))))
   refine joinW 7 (fun f w => f 2 = iV (wa .i64 1 h) ∧ f 3 = iV (wa .i64 1 g) ∧ f 9 = i.v ∧ f 10 = l.v ∧ f 12 = q.v ∧ f 13 = (pB B) ∧ f 14 = iV d.2.2.2 ∧ f 81 = .bool ((!(decide (j.2 = 0))) || (!((decide (d.2.2.2 = 0)) == (decide (j.1 = (wa .i64 1 g)))))) ∧ St w0 (imm (rS (rP rB (rS (rI .u32)))) i.v C :: imm (rP rB (rS (rI .u32))) l.v I :: imm (rI .u32) n.v d.2.2.1 :: ros) (row 31 (rP rB (rS (rI .u32))) q.v d.1 :: box B 31 [.bool d.2.1, n.v] :: rs) w) (fun d7 => ?_) ?_
   ·rcases Bool.eq_false_or_eq_true (!(decide (j.2 = 0))) with m | m
    ·exact gN m (gN m (gN m (gN m (gN m (gN m (yY (pt_ (.bool true) e0 m rfl) (d7 _ _ ⟨d6, a6, X, a7, rfl, rfl, rfl, (congrArg Value.bool (orT m)), ((b.k10).facts (allC F1 (allC F2 (allC F0 (allT (allT (allT allI)))))))⟩)))))))
    ·exact yG m (m_ (iV d.2.2.2) e0) (yG m (yeql e0 rfl) (yG m (m_ (iV j.1) e0) (yG m (m_ (iV (wa .i64 1 g)) (eh a6)) (yG m (yeql e0 e0) (yG m (yneb (by kernel_rfl) e0 e0) (yY (pf_ (.bool (!((decide (d.2.2.2 = 0)) == (decide (j.1 = (wa .i64 1 g)))))) e0 m e0) (d7 _ _ ⟨d6, a6, X, a7, rfl, rfl, rfl, (congrArg Value.bool (orF m)), ((b.k10).facts (allC F1 (allC F2 (allC F0 (allT (allT (allT allI)))))))⟩)))))))
   rintro f w ⟨a8, a9, b0, b1, b2, b3, T, n1, b⟩
   refine Ym (.bool ((!(decide (j.2 = 0))) || (!((decide (d.2.2.2 = 0)) == (decide (j.1 = (wa .i64 1 g))))))) (eh n1) ?_
   refine joinW 7 (fun f w => f 2 = iV (wa .i64 1 h) ∧ f 3 = iV (wa .i64 1 g) ∧ f 9 = i.v ∧ f 10 = l.v ∧ f 12 = q.v ∧ f 13 = (pB B) ∧ f 14 = iV d.2.2.2 ∧ f 89 = .bool (((!(decide (j.2 = 0))) || (!((decide (d.2.2.2 = 0)) == (decide (j.1 = (wa .i64 1 g)))))) || ((!(decide (d.2.2.2 = 0))) && (!(decide (d.2.2.2 = 9))))) ∧ St w0 (imm (rS (rP rB (rS (rI .u32)))) i.v C :: imm (rP rB (rS (rI .u32))) l.v I :: imm (rI .u32) n.v d.2.2.1 :: ros) (row 31 (rP rB (rS (rI .u32))) q.v d.1 :: box B 31 [.bool d.2.1, n.v] :: rs) w) (fun d8 => ?_) ?_
   ·rcases Bool.eq_false_or_eq_true ((!(decide (j.2 = 0))) || (!((decide (d.2.2.2 = 0)) == (decide (j.1 = (wa .i64 1 g)))))) with p | p
    ·exact gN p (gN p (gN p (Gn (wxu rfl rfl rfl) rfl (Gn (wxu rfl rfl rfl) rfl (gN p (yY (pt_ (.bool true) e0 p rfl) (d8 _ _ ⟨a8, a9, b0, b1, b2, b3, T, (congrArg Value.bool (orT p)), b⟩)))))))
    ·refine yG p (m_ (iV d.2.2.2) (eh T)) (yG p (yneq e0 rfl) (yG p (m_ (.bool (!(decide (d.2.2.2 = 0)))) e0) ?_))
     refine joinW 3 (fun f w => f 2 = iV (wa .i64 1 h) ∧ f 3 = iV (wa .i64 1 g) ∧ f 9 = i.v ∧ f 10 = l.v ∧ f 12 = q.v ∧ f 13 = (pB B) ∧ f 14 = iV d.2.2.2 ∧ f 82 = .bool ((!(decide (j.2 = 0))) || (!((decide (d.2.2.2 = 0)) == (decide (j.1 = (wa .i64 1 g)))))) ∧ f 88 = .bool ((!(decide (d.2.2.2 = 0))) && (!(decide (d.2.2.2 = 9)))) ∧ St w0 (imm (rS (rP rB (rS (rI .u32)))) i.v C :: imm (rP rB (rS (rI .u32))) l.v I :: imm (rI .u32) n.v d.2.2.1 :: ros) (row 31 (rP rB (rS (rI .u32))) q.v d.1 :: box B 31 [.bool d.2.1, n.v] :: rs) w) (fun d9 => ?_) ?_
     ·rcases Bool.eq_false_or_eq_true (!(decide (d.2.2.2 = 0))) with D | D
      ·exact yG D (m_ (iV d.2.2.2) (eh T)) (yG D (yneq e0 rfl) (yG p (pt_ (.bool (!(decide (d.2.2.2 = 9)))) e0 D e0) (d9 _ _ ⟨a8, a9, b0, b1, b2, b3, T, rfl, (congrArg Value.bool (andT D)), b⟩)))
      ·exact gN D (gN D (yG p (pf_ (.bool false) e0 D rfl) (d9 _ _ ⟨a8, a9, b0, b1, b2, b3, T, rfl, (congrArg Value.bool (andF D)), b⟩)))
     rintro f w ⟨n3, n4, n5, n6, n7, o0, o1, o3, o4, b⟩
     exact yY (pf_ (.bool ((!(decide (d.2.2.2 = 0))) && (!(decide (d.2.2.2 = 9))))) (eh o3) p (eh o4)) (d8 _ _ ⟨n3, n4, n5, n6, n7, o0, o1, (congrArg Value.bool (orF p)), b⟩)
   rintro f w ⟨e1, b4, e2, e3, b5, b6, o5, o6, b⟩
   refine wK n0 (cB (eh o6) c (fun o7 c => ?_) fun o7 c => ?_)
   ·refine sR fun _ p0 => Ya (.bool false) rfl (wK p0 (wp_ret (m9 _ _ _ rfl ?_)))
    cases c
    exact H _ _ _ (fin1r Tryz.results5 ⟨rfl, rfl⟩ ⟨rfl, ((b.k14).facts (allT (allT (allT allI))))⟩)
   ·refine wp_skip (m8 _ _ (seqQ fun B4 p1 p2 => sR fun _ p3 => Ym (iV d.2.2.2) (eh o5) (yY (yneq e0 rfl) (wK p3 ?_))))
    rcases iteS c with ⟨b7, c⟩ | ⟨b7, c⟩
    ·refine condF e0 (nF (dT b7)) (wp_skip (p1 _ _ (seqQ fun B5 p4 p5 => sR fun _ p6 => Ym q.v (eh b5) (yY (yLen SL_32 e0 b rO0) (Ym (iV (wa .i64 1 g)) (eh b4) (yY (yneq e0 e0) (Ym (.bool (!(decide ((d.1.length : Int) = (wa .i64 1 g))))) e0 (bE c fun p7 J c => ?_))))))))
     refine joinW 4 (fun f w => f 2 = iV (wa .i64 1 h) ∧ f 3 = iV (wa .i64 1 g) ∧ f 9 = i.v ∧ f 10 = l.v ∧ f 12 = q.v ∧ f 13 = (pB B) ∧ f 101 = .bool p7 ∧ St w0 (imm (rS (rP rB (rS (rI .u32)))) i.v C :: imm (rP rB (rS (rI .u32))) l.v I :: imm (rI .u32) n.v d.2.2.1 :: ros) (row 31 (rP rB (rS (rI .u32))) q.v d.1 :: box B 31 [.bool d.2.1, n.v] :: rs) w) (fun e4 => ?_) ?_
     ·rcases iteS J with ⟨E, J⟩ | ⟨E, J⟩
      ·refine yG (nF (dT E)) (lbs_ [.bool d.2.1, n.v] ST_31 (eh b6) b R1) (bE J fun p8 p9 J => Yc (wG (nF (dT E))) rfl (yCall FN_29 (a1 e0)) (integer_Sign_ok p9 F2 b) ?_)
       rintro _ w ⟨rfl, b⟩
       refine ⟨_, rfl, ?_⟩
       refine yG (nF (dT E)) (yleq e0 rfl) (yY (pf_ (.bool (decide (p8 ≤ 0))) e0 (nF (dT E)) e0) ?_)
       cases J
       exact e4 _ _ ⟨e1, b4, e2, e3, b5, b6, rfl, b⟩
      ·refine gN (nT (dF E)) (gN (nT (dF E)) (gN (nT (dF E)) (yY (pt_ (.bool true) e0 (nT (dF E)) rfl) ?_)))
       cases J
       exact e4 _ _ ⟨e1, b4, e2, e3, b5, b6, rfl, b⟩
     rintro f w ⟨q0, q3, e5, q4, q5, q6, q7, b⟩
     refine wK p6 (cB (eh q7) c (fun q8 c => ?_) fun q8 c => ?_)
     ·refine sR fun _ q9 => Ya (.bool false) rfl (wK q9 (wp_ret (p5 _ _ _ rfl ?_)))
      cases c
      exact H _ _ _ (fin1r Tryz.results5 ⟨rfl, rfl⟩ ⟨rfl, ((b.k14).facts (allT (allT (allT allI))))⟩)
     ·refine wp_skip (p4 _ _ (sR fun _ r0 => Ym i.v (eh e5) (Ym q.v (eh q5) (bE c fun B6 r1 c => ?_))))
      replace b := b.fz
      refine yC (yCall FN_30 (a2 e0 e0)) (sparseref08_Times_ok r1 F1 F0 b) ?_
      rintro _ w ⟨k, rfl, b⟩
      refine ⟨_, rfl, ?_⟩
      refine Ya k.v e0 (wK r0 (sQ fun _ r2 => sR fun _ r3 => Ya (iV 0) rfl (wK r3 (blockQ fun r4 r5 => bE c fun r6 r7 c => ?_))))
      have r8 : ∀ (K : List (Bool × LI)) (f : FV) w, f 2 = iV (wa .i64 1 h) → f 3 = iV (wa .i64 1 g) → f 9 = i.v → f 17 = k.v → St w0 (imm (rS (rP rB (rS (rI .u32)))) i.v C :: ros) (row 31 (rP rB (rS (rI .u32))) k.v K :: rs) w → K = r6 → r4 (.exit 2) (fr 156 f) w := by
       intro K f w r9 s0 s1 e6 b ho
       subst ho
       refine r5 _ _ _ (r2 _ _ (sR fun _ s2 => Ym i.v (eh s1) (bE c fun B7 s3 c => yC (yCall FN_33 (a1 e0)) (sparseref08_Transpose_ok s3 F0 b) ?_)))
       rintro _ w ⟨B8, rfl, b⟩
       refine ⟨_, rfl, ?_⟩
       refine Ym k.v (eh e6) (bE c fun s4 s5 c => ?_)
       replace b := b.fz.fz
       refine yC (yCall FN_30 (a2 e0 e0)) (sparseref08_Times_ok s5 F1 F0 b) ?_
       rintro _ w ⟨Z, rfl, b⟩
       refine ⟨_, rfl, ?_⟩
       refine Ya Z.v e0 (wK s2 (seqQ fun B9 s6 s7 => sR fun _ s8 => Ya (iV 0) rfl (wK s8 (blockQ fun e7 e8 => bE c fun e9 s9 c => ?_))))
       have t0 : ∀ (f : FV) w, f 2 = iV (wa .i64 1 h) → f 3 = iV (wa .i64 1 g) → f 17 = k.v → St w0 (imm (rP rB (rS (rI .u32))) k.v K :: ros) rs w → .inl () = e9 → e7 (.exit 4) (fr 156 f) w := by
        intro f w t1 t2 t3 b ho
        subst ho
        refine e8 _ _ _ (s6 _ _ (seqQ fun C0 t4 t5 => sR fun _ t6 => Ya (iV 0) rfl (wK t6 (blockQ fun f0 f1 => bE c fun f2 t7 c => ?_))))
        have t8 : ∀ (f : FV) w, St w0 ros rs w → .inl () = f2 → f0 (.exit 6) (fr 156 f) w := by
         intro f w b ho
         subst ho
         refine f1 _ _ _ (t4 _ _ (sR fun _ t9 => bE c fun u0 u1 c => yC (yCall FN_10 a0) (sparselaw08_awake_ok u1 b) ?_))
         rintro _ w ⟨rfl, b⟩
         refine ⟨_, rfl, ?_⟩
         refine Ya (.bool u0) e0 (wK t9 (wp_ret ?_))
         cases c
         exact H _ _ _ (fin1r Tryz.results5 ⟨rfl, rfl⟩ ⟨rfl, b⟩)
        have u2 : ∀ (f : FV) w, f 8 = .bool false → St w0 ros rs w → .inr () = f2 → f0 .ret (fr 156 f) w := by
         intro f w u3 b ho
         subst ho
         refine f1 _ _ _ (t5 _ _ _ rfl ?_)
         cases c
         exact H _ _ _ (fin1r Tryz.results5 ⟨rfl, u3⟩ ⟨rfl, b⟩)
        refine loopQ (fun s a w => ∃ (y : Int) (f : FV), y = s ∧ a = fr 156 f ∧ f 2 = iV (wa .i64 1 h) ∧ f 3 = iV (wa .i64 1 g) ∧ f 17 = k.v ∧ f 21 = iV y ∧ St w0 (imm (rP rB (rS (rI .u32))) k.v K :: ros) rs w) t7 ⟨_, _, rfl, rfl, t1, t2, t3, rfl, b⟩ ?_
        rintro _ _ w C1 ⟨y, f, rfl, rfl, a3, b8, f3, b9, b⟩ r f4 C2 u4 f5
        refine seqQ fun C3 u5 u6 => sR fun _ u7 => Ym (iV y) (eh b9) (Ym (iV (wa .i64 1 h)) (eh a3) (yY (ylss e0 e0) (Ym (.bool (decide (y < (wa .i64 1 h)))) e0 ?_)))
        refine joinW 4 (fun f w => f 2 = iV (wa .i64 1 h) ∧ f 3 = iV (wa .i64 1 g) ∧ f 17 = k.v ∧ f 21 = iV y ∧ f 146 = .bool ((decide (y < (wa .i64 1 h))) && (decide ((wa .i64 1 g) = (wa .i64 1 h)))) ∧ St w0 (imm (rP rB (rS (rI .u32))) k.v K :: ros) rs w) (fun f6 => ?_) ?_
        ·rcases Bool.eq_false_or_eq_true (decide (y < (wa .i64 1 h))) with z | z
         ·exact yG z (m_ (iV (wa .i64 1 g)) (eh b8)) (yG z (m_ (iV (wa .i64 1 h)) (eh a3)) (yG z (yeql e0 e0) (yY (pt_ (.bool (decide ((wa .i64 1 g) = (wa .i64 1 h)))) e0 z e0) (f6 _ _ ⟨a3, b8, f3, b9, (congrArg Value.bool (andT z)), b⟩))))
         ·exact gN z (gN z (gN z (yY (pf_ (.bool false) e0 z rfl) (f6 _ _ ⟨a3, b8, f3, b9, (congrArg Value.bool (andF z)), b⟩))))
        rintro f w ⟨u8, u9, f7, f8, v0, b⟩
        refine wK u7 (cB (eh v0) r (fun v1 r => ?_) fun v1 r => ?_)
        ·refine wp_skip (u5 _ _ (seqQ fun C4 v2 v3 => blockQ fun _ f9 => sR fun _ v4 => Ym k.v (eh f7) (Ym (iV y) (eh f8) (bE r fun v5 g0 r => yY (yIa SL_32 e0 e0 b (rdI F0) g0) ?_))))
         obtain ⟨C5, C6, b⟩ := iLd b F0 g0
         obtain ⟨C7, C8, rfl, b⟩ := b.eltP
         obtain ⟨rfl, b⟩ := b.eltB
         obtain ⟨v6, rfl, b⟩ := b.eltS
         refine yY (yCtn (cs := [.bool v5.1, v6.v]) ST_31 rfl e0 b F1) (bE r fun C9 v7 r => yC (yCall FN_34 (a1 e0)) (sparseref01_Sign_ok v7 F0 b) ?_)
         rintro _ w ⟨rfl, b⟩
         refine ⟨_, rfl, ?_⟩
         refine yY (yneq e0 rfl) (wK v4 ?_)
         rcases iteS r with ⟨c0, r⟩ | ⟨c0, r⟩
         ·refine condF e0 (nF (dT c0)) (wp_skip (f9 _ _ _ (v2 _ _ (wR (Ym (iV y) (eh f8) (yY (yadd e0 rfl) (Ya (iV (wa .i64 y 1)) e0 (wN ?_))))))))
          cases r
          exact u4 _ _ _ rfl ⟨_, _, rfl, rfl, u8, u9, f7, rfl, (b.facts (allC F2 (allT (allT (allT allI)))))⟩
         ·refine condT e0 (nT (dF c0)) (sR fun _ v8 => Ya (.bool false) rfl (wK v8 (wp_ret (f9 _ _ _ (v3 _ _ _ rfl ?_)))))
          cases r
          exact f5 _ _ _ _ rfl rfl (u2 _ _ rfl (b.facts (allT (allT (allT allI)))) (f4 _ rfl))
        ·refine wp_exit (u6 _ _ _ rfl ?_)
         cases r
         exact f5 _ _ _ _ rfl rfl (t8 _ _ (b.facts (allT allI)) (f4 _ rfl))
       have v9 : ∀ (f : FV) w, f 8 = .bool false → St w0 ros rs w → .inr () = e9 → e7 .ret (fr 156 f) w := by
        intro f w w1 b ho
        subst ho
        refine e8 _ _ _ (s7 _ _ _ rfl ?_)
        cases c
        exact H _ _ _ (fin1r Tryz.results5 ⟨rfl, w1⟩ ⟨rfl, b⟩)
       refine loopQ (fun s a w => ∃ (L : Int) (f : FV), L = s ∧ a = fr 156 f ∧ f 2 = iV (wa .i64 1 h) ∧ f 3 = iV (wa .i64 1 g) ∧ f 17 = k.v ∧ f 19 = Z.v ∧ f 20 = iV L ∧ St w0 (imm (rP rB (rS (rI .u32))) k.v K :: ros) (row 31 (rP rB (rS (rI .u32))) Z.v s4 :: rs) w) s9 ⟨_, _, rfl, rfl, r9, s0, e6, rfl, rfl, (b.facts (allC F0 (allT (allT (allT allI)))))⟩ ?_
       rintro _ _ w D0 ⟨L, f, rfl, rfl, g1, c1, g2, g3, c2, b⟩ t g4 D1 w2 g5
       refine seqQ fun D2 w3 w4 => sR fun _ w5 => Ym (iV L) (eh c2) (Ym (iV (wa .i64 1 g)) (eh c1) (yY (ylss e0 e0) (wK w5 ?_)))
       refine cIf e0 t (fun w6 t => ?_) fun w6 t => ?_
       ·refine wp_skip (w3 _ _ (seqQ fun D3 w7 w8 => blockQ fun _ g6 => sR fun _ w9 => Ym Z.v (eh g3) (Ym (iV L) (eh c2) (bE t fun x0 g7 t => yY (yIa SL_32 e0 e0 b rO0 g7) ?_))))
        obtain ⟨D4, D5, cc152, b⟩ := b.ld rO0 g7
        replace b := b.eltP
        obtain ⟨D6, D7, rfl, b⟩ := b
        replace b := b.eltB
        obtain ⟨rfl, b⟩ := b
        replace b := b.eltS
        obtain ⟨x2, rfl, b⟩ := b
        refine yY (yCn (cs := [.bool x0.1, x2.v]) ST_31 rfl e0 cc152) (bE t fun D8 x4 t => yC (yCall FN_34 (a1 e0)) (sparseref01_Sign_ok x4 F0 b) ?_)
        rintro _ w ⟨rfl, b⟩
        refine ⟨_, rfl, ?_⟩
        refine yY (yneq e0 rfl) (wK w9 ?_)
        rcases iteS t with ⟨c3, t⟩ | ⟨c3, t⟩
        ·refine condF e0 (nF (dT c3)) (wp_skip (g6 _ _ _ (w7 _ _ (wR (Ym (iV L) (eh c2) (yY (yadd e0 rfl) (Ya (iV (wa .i64 L 1)) e0 (wN ?_))))))))
         cases t
         exact w2 _ _ _ rfl ⟨_, _, rfl, rfl, g1, c1, g2, g3, rfl, (b.facts (allC F1 (allT (allT allI))))⟩
        ·refine condT e0 (nT (dF c3)) (sR fun _ x7 => Ya (.bool false) rfl (wK x7 (wp_ret (g6 _ _ _ (w8 _ _ _ rfl ?_)))))
         cases t
         exact g5 _ _ _ _ rfl rfl (v9 _ _ rfl ((b.k13).facts (allT (allT allI))) (g4 _ rfl))
       ·refine wp_exit (w4 _ _ _ rfl ?_)
        cases t
        exact g5 _ _ _ _ rfl rfl (t0 _ _ g1 c1 g2 (b.k13) (g4 _ rfl))
      refine loopQ (fun s a w => ∃ (c4 : List (Bool × LI)) (u : Int) (f : FV), (c4, u) = s ∧ a = fr 156 f ∧ f 2 = iV (wa .i64 1 h) ∧ f 3 = iV (wa .i64 1 g) ∧ f 9 = i.v ∧ f 10 = l.v ∧ f 13 = (pB B) ∧ f 17 = k.v ∧ f 18 = iV u ∧ St w0 (imm (rS (rP rB (rS (rI .u32)))) i.v C :: imm (rP rB (rS (rI .u32))) l.v I :: imm (rI .u32) n.v d.2.2.1 :: ros) (box B 31 [.bool d.2.1, n.v] :: row 31 (rP rB (rS (rI .u32))) k.v c4 :: rs) w) r7 ⟨_, _, _, rfl, rfl, q0, q3, e5, q4, q6, rfl, rfl, ((b.k10).facts (allC F1 (allC F2 (allC F3 (allT (allT (allT (allT allI))))))))⟩ ?_
      rintro _ _ w D9 ⟨c4, u, f, rfl, rfl, c5, g8, g9, h0, h1, N, F, b⟩ o x8 E0 x9 y0
      refine seqQ fun E1 y1 y2 => sR fun _ y3 => Ym (iV u) (eh F) (Ym (iV (wa .i64 1 h)) (eh c5) (yY (ylss e0 e0) (wK y3 ?_)))
      refine cIf e0 o (fun y4 o => ?_) fun y4 o => ?_
      ·refine wp_skip (y1 _ _ (sQ fun _ y5 => blockQ fun _ y6 => bE o fun h3 c6 o => bE o fun y7 h5 o => bE o fun E2 y8 o => bE o fun y9 z0 o => bE o fun E3 h6 o => dR [0, 0, 0, 0, 12, 28, 0, 0, 0, 384, 896, 1984, 4092, 8191, 16383] [11, 12, 14] 3 folM ?_))
       replace b := b.drew
       refine Dn [0, 1, 2, 3, 4, 5, 6, 7, 8, 9, 10] [] [11] (yR rfl (m_ k.v (eh N)) (yR rfl (m_ (iV u) (eh F)) (yR rfl (m_ k.v (eh N)) (yR rfl (m_ (iV u) (eh F)) (yR rfl (yIa SL_32 e0 e0 b rO1 c6) ?_)))))
       replace b := (b.k10).pin0
       obtain ⟨E4, b⟩ := b.pinO c6
       obtain ⟨E5, E6, rfl, b⟩ := b.eltP
       obtain ⟨rfl, b⟩ := b.eltB
       obtain ⟨h7, rfl, b⟩ := b.eltS
       refine yR rfl (yCn (cs := [.bool h3.1, h7.v]) ST_31 rfl e0 (b.cAtP R0 mhP)) (yR rfl (lbs_ [.bool d.2.1, n.v] ST_31 (eh h1) b R1) (yR rfl (m_ l.v (eh h0)) (yR rfl (m_ (iV u) (eh F)) (yR rfl (yIa SL_32 e0 e0 b (rdI F2) h5) ?_))))
       obtain ⟨E7, E8, b⟩ := iLd b F2 h5
       obtain ⟨E9, F4, rfl, b⟩ := b.eltP
       obtain ⟨rfl, b⟩ := b.eltB
       obtain ⟨z1, rfl, b⟩ := b.eltS
       refine yR rfl (yCtn (cs := [.bool y7.1, z1.v]) ST_31 rfl e0 b F1) (Rn QSn ?_)
       refine Lc1 rfl ?_
       refine Lk wn (yCall FN_32 (a2 e0 e0)) (integer_Mul_ok y8 F5 F0 b) ?_
       rintro _ w ⟨F8, rfl, b⟩
       refine ⟨_, rfl, ?_⟩
       refine Dn [] [0, 1, 2, 3, 4, 5] [12] (Rn (yS rfl (m_ k.v (eh N)) (yS rfl (m_ (iV u) (eh F)) (yS rfl (m_ k.v (eh N)) (yS rfl (m_ (iV u) (eh F)) (yS rfl (yIa SL_32 e0 e0 b (rdOP R0) c6) (yS rfl (yCn (cs := [.bool h3.1, h7.v]) ST_31 rfl e0 (b.cAtP R0 mhP)) QSn)))))) ?_)
       refine Lc1 rfl ?_
       refine Lk wn (yCall FN_31 (a2 e0 e0)) (integer_Sub_ok z0 F3 F0 b) ?_
       rintro _ w ⟨z3, rfl, b⟩
       refine ⟨_, rfl, ?_⟩
       refine Dn [13] [0, 1] [14] (yR rfl (yIs SL_32 e0 e0 b (rdOP R0) h6) (Rn (yS rfl (m_ k.v (eh N)) (yS rfl (m_ (iV u) (eh F)) QSn)) ?_))
       refine Lc1 rfl ?_
       replace b := b.unpin
       refine LT wn (r_stn (cs := [.bool y9.1, z3.v]) b ST_31 e0 e0 rfl (mkP mkB (mkS F0)) h6) fun w b => Dz [] [] (Rn QSn (y6 _ _ _ (y5 _ _ (wR (Ym (iV u) (eh F) (yY (yadd e0 rfl) (Ya (iV (wa .i64 u 1)) e0 (wN ?_))))))))
       cases o
       exact x9 _ _ _ rfl ⟨_, _, _, rfl, rfl, c5, g8, g9, h0, h1, N, rfl, ((b.k10).facts (allC F5 (allC F6 (allC F7 (allT (allT (allT (allT (allT (allT (allT (allT allI))))))))))))⟩
      ·refine wp_exit (y2 _ _ _ rfl ?_)
       cases o
       exact y0 _ _ _ _ rfl rfl (r8 _ _ _ c5 g8 g9 N ((b.k12).facts (allC F0 (allT (allT (allT allI))))) (x8 _ rfl))
    ·refine condT e0 (nT (dF b7)) (sR fun _ z4 => bE c fun z5 z6 c => yC (yCall FN_10 a0) (sparselaw08_awake_ok z6 b) ?_)
     rintro _ w ⟨rfl, b⟩
     refine ⟨_, rfl, ?_⟩
     refine Ya (.bool z5) e0 (wK z4 (wp_ret (p2 _ _ _ rfl ?_)))
     cases c
     exact H _ _ _ (fin1r Tryz.results5 ⟨rfl, rfl⟩ ⟨rfl, ((b.k14).facts (allT (allT (allT allI))))⟩)
  refine loopQ (fun s a w => ∃ (c7 : List (List (Bool × LI))) (G : Int) (f : FV), (c7, G) = s ∧ a = fr 156 f ∧ f 2 = iV (wa .i64 1 h) ∧ f 3 = iV (wa .i64 1 g) ∧ f 9 = i.v ∧ f 10 = l.v ∧ f 11 = iV G ∧ St w0 (imm (rP rB (rS (rI .u32))) l.v I :: ros) (row 32 (rS (rP rB (rS (rI .u32)))) i.v c7 :: rs) w) m2 ⟨_, _, _, rfl, rfl, rfl, rfl, rfl, rfl, rfl, (b.k12)⟩ ?_
  rintro _ _ w F9 ⟨c7, G, f, rfl, rfl, d0, d1, a4, h8, a5, b⟩ A z7 G0 z8 z9
  refine seqQ fun G1 A0 A1 => sR fun _ A2 => Ym (iV G) (eh a5) (Ym (iV (wa .i64 1 h)) (eh d0) (yY (ylss e0 e0) (wK A2 ?_)))
  refine cIf e0 A (fun A3 A => ?_) fun A3 A => ?_
  ·refine wp_skip (A0 _ _ (sQ fun _ A4 => blockQ fun _ A5 => wR (Ym i.v (eh a4) (Ym (iV G) (eh a5) (Ym i.v (eh a4) (Ym (iV G) (eh a5) (bE A fun G2 h9 A => yY (yIa SL_22 e0 e0 b rO0 h9) ?_)))))))
   obtain ⟨A6, A7, b⟩ := rLs b rO0 h9
   refine yY (yCe O_32 e0 A7 rfl) (Ym (iV (wa .i64 1 g)) (eh d1) (bE A fun G3 i0 A => yY (ySl (k1 := .i64) SL_32 e0 b (rdI F0) (.inr ⟨rfl, rfl⟩) (.inl (congrArg some e0)) i0) ?_))
   replace b := b.sub F0 i0
   refine bE A fun G4 i1 A => yY (yIs SL_22 e0 e0 b rO0 i1) (yT (r_sti (cs := [(subH A6 2 0 (wa .i64 1 g)).v]) b O_32 rfl e0 e0 rfl (mkS F0) i1) fun w b => wN (A5 _ _ _ (A4 _ _ (wR (Ym (iV G) (eh a5) (yY (yadd e0 rfl) (Ya (iV (wa .i64 G 1)) e0 (wN ?_))))))))
   cases A
   exact z8 _ _ _ rfl ⟨_, _, _, rfl, rfl, d0, d1, a4, h8, rfl, (b.facts (allC F2 (allT (allT (allT allI)))))⟩
  ·refine wp_exit (A1 _ _ _ rfl ?_)
   cases A
   exact z9 _ _ _ _ rfl rfl (m3 _ _ _ d0 d1 a4 h8 b (z7 _ rfl))
end Go.Proofs.YtpfmbaidflhamaaGreatDoor
