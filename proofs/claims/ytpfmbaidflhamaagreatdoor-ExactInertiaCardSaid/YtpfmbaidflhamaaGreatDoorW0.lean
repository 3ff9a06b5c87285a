/- Walks: each function computes its model, printed. -/
import Derived.Test.YtpfmbaidflhamaaGreatDoorSxX
import Derived.Test.YtpfmbaidflhamaaGreatDoorTy
import Derived.Test.YtpfmbaidflhamaaGreatDoorM6
import Derived.Test.YtpfmbaidflhamaaGreatDoorSxY
namespace Go.Proofs.YtpfmbaidflhamaaGreatDoor
open Go Sx M
set_option maxRecDepth 100000
set_option maxHeartbeats 40000000
set_option linter.unusedVariables false
attribute [local irreducible] wpList Code.wp Calls DR QR QS LA LS St
variable {w0 : World} {ros : List Fact} {rs : List Res} {w : World}
theorem sparsekit_Slim_ok {d : Bool} {f : LI} {b : Int} {c : Hdr} {out : Bool} (g : sparsekit_Slim d f b = some out) (h : imm (rI .u32) c.v f ∈ ros) (a : St w0 ros rs w) :
  Calls Tryz.prog 59 #[.agg #[.bool d, c.v], iV b] w (fun e w => e = .returned (.bool out) ∧ St w0 ros rs w) := by
 refine enterQ Tryz.func59 rfl Tryz.ntmps59 rfl fun Q i => sR fun _ j => yBb (r_box (vals := [.bool d, c.v]) a e0 rfl) fun l w a => Ya (.bool false) rfl (wK j (sR fun _ k => yY (yFb FL_31_1 e0) (yY (lb_ c.v O_29 e0 a R0) (yY (yLen SL_29 e0 a (rdI h)) (Ym (iV b) e0 ?_)))))
 refine yY (yleq e0 e0) (Ya (.bool (decide ((f.length : Int) ≤ b))) e0 (wK k (wp_ret ?_)))
 cases g
 exact i _ _ _ (fin1r Tryz.results59 ⟨rfl, rfl⟩ ⟨rfl, (a.k10)⟩)
theorem sparselaw08_slim_ok {k : List (Bool × LI)} {d : Hdr} {out : Bool} (h : sparselaw08_slim k = some out) (i : imm (rP rB (rS (rI .u32))) d.v k ∈ ros) (b : St w0 ros rs w) :
  Calls Tryz.prog 17 #[d.v] w (fun e w => e = .returned (.bool out) ∧ St w0 ros rs w) := by
 refine enterQ Tryz.func17 rfl Tryz.ntmps17 rfl fun Q n => sR fun _ y => Ya (.bool false) rfl (wK y (seqQ fun X z A => sR fun _ B => Ya (iV 0) rfl (wK B (blockQ fun o p => bE h fun q C h => ?_))))
 have D : ∀ (f : FV) w, f 0 = d.v → St w0 ros rs w → .inl () = q → o (.exit 0) (fr 19 f) w := by
  intro f w E b ho
  subst ho
  refine p _ _ _ (z _ _ (sR fun _ F => Ym d.v (eh E) (yY (yLen SL_32 e0 b (rdI i)) (yY (yleq e0 rfl) (Ya (.bool (decide ((k.length : Int) ≤ 32))) e0 (wK F (wp_ret ?_)))))))
  cases h
  exact n _ _ _ (fin1r Tryz.results17 ⟨rfl, rfl⟩ ⟨rfl, b⟩)
 have G : ∀ (f : FV) w, f 2 = .bool false → St w0 ros rs w → .inr () = q → o .ret (fr 19 f) w := by
  intro f w H b ho
  subst ho
  refine p _ _ _ (A _ _ _ rfl ?_)
  cases h
  exact n _ _ _ (fin1r Tryz.results17 ⟨rfl, H⟩ ⟨rfl, b⟩)
 refine loopQ (fun s a w => ∃ (g : Int) (f : FV), g = s ∧ a = fr 19 f ∧ f 0 = d.v ∧ f 3 = iV g ∧ St w0 ros rs w) C ⟨_, _, rfl, rfl, rfl, rfl, b⟩ ?_
 rintro _ _ w Z ⟨g, f, rfl, rfl, j, l, b⟩ c r a0 I t
 refine seqQ fun a1 J K => sR fun _ L => Ym (iV g) (eh l) (Ym d.v (eh j) (yY (yLen SL_32 e0 b (rdI i)) (yY (ylss e0 e0) (wK L ?_))))
 refine cIf e0 c (fun N c => ?_) fun N c => ?_
 ·refine wp_skip (J _ _ (seqQ fun a3 O R => blockQ fun _ u => sR fun _ S => Ym d.v (eh j) (Ym (iV g) (eh l) (bE c fun T x c => yY (yIa SL_32 e0 e0 b (rdI i) x) ?_))))
  obtain ⟨a4, a5, b⟩ := iLd b i x
  obtain ⟨a6, a7, rfl, b⟩ := b.eltP
  obtain ⟨rfl, b⟩ := b.eltB
  obtain ⟨U, rfl, b⟩ := b.eltS
  refine yY (yCtn (cs := [.bool T.1, U.v]) ST_31 rfl e0 b F1) (bE c fun a8 V c => yC (yCall FN_59 (a2 e0 rfl)) (sparsekit_Slim_ok V F0 b) ?_)
  rintro _ w ⟨rfl, b⟩
  refine ⟨_, rfl, ?_⟩
  refine yY (ynot e0) (wK S ?_)
  rcases iteS c with ⟨m, c⟩ | ⟨m, c⟩
  ·refine condF e0 (nF m) (wp_skip (u _ _ _ (O _ _ (wR (Ym (iV g) (eh l) (yY (yadd e0 rfl) (Ya (iV (wa .i64 g 1)) e0 (wN ?_))))))))
   cases c
   exact I _ _ _ rfl ⟨_, _, rfl, rfl, j, rfl, (b.facts (allT (allT allI)))⟩
  ·refine condT e0 (nT (bfalse m)) (sR fun _ W => Ya (.bool false) rfl (wK W (wp_ret (u _ _ _ (R _ _ _ rfl ?_)))))
   cases c
   exact t _ _ _ _ rfl rfl (G _ _ rfl (b.facts (allT (allT allI))) (r _ rfl))
 ·refine wp_exit (K _ _ _ rfl ?_)
  cases c
  exact t _ _ _ _ rfl rfl (D _ _ j b (r _ rfl))
theorem sparselaw08_small_ok {g : List (List (Bool × LI))} {d : Hdr} {out : Bool} (p : sparselaw08_small g = some out) (l : imm (rS (rP rB (rS (rI .u32)))) d.v g ∈ ros) (b : St w0 ros rs w) :
  Calls Tryz.prog 9 #[d.v] w (fun e w => e = .returned (.bool out) ∧ St w0 ros rs w) := by
 refine enterQ Tryz.func9 rfl Tryz.ntmps9 rfl fun Q x => sR fun _ X => Ya (.bool false) rfl (wK X (seqQ fun e1 Z a0 => sR fun _ a2 => Ym d.v e0 (yY (yLen SL_22 e0 b (rdI l)) (yY (ygtr e0 rfl) (Ym (.bool (decide ((4 : Int) < (g.length : Int)))) e0 ?_)))))
 refine joinW 4 (fun f w => f 0 = d.v ∧ f 11 = .bool ((decide ((4 : Int) < (g.length : Int))) && (decide ((g.length : Int) ≤ 16))) ∧ St w0 ros rs w) (fun D => ?_) ?_
 ·rcases Bool.eq_false_or_eq_true (decide ((4 : Int) < (g.length : Int))) with m | m
  ·exact yG m (m_ d.v e0) (yG m (yLen SL_22 e0 b (rdI l)) (yG m (yleq e0 rfl) (yY (pt_ (.bool (decide ((g.length : Int) ≤ 16))) e0 m e0) (D _ _ ⟨rfl, (congrArg Value.bool (andT m)), b⟩))))
  ·exact gN m (gN m (gN m (yY (pf_ (.bool false) e0 m rfl) (D _ _ ⟨rfl, (congrArg Value.bool (andF m)), b⟩))))
 rintro f w ⟨y, a3, b⟩
 refine Ym (.bool ((decide ((4 : Int) < (g.length : Int))) && (decide ((g.length : Int) ≤ 16)))) (eh a3) ?_
 refine joinW 4 (fun f w => f 0 = d.v ∧ f 16 = .bool (((decide ((4 : Int) < (g.length : Int))) && (decide ((g.length : Int) ≤ 16))) || (decide ((32 : Int) < (g.length : Int)))) ∧ St w0 ros rs w) (fun E => ?_) ?_
 ·rcases Bool.eq_false_or_eq_true ((decide ((4 : Int) < (g.length : Int))) && (decide ((g.length : Int) ≤ 16))) with n | n
  ·exact gN n (gN n (gN n (yY (pt_ (.bool true) e0 n rfl) (E _ _ ⟨y, (congrArg Value.bool (orT n)), b⟩))))
  ·exact yG n (m_ d.v (eh y)) (yG n (yLen SL_22 e0 b (rdI l)) (yG n (ygtr e0 rfl) (yY (pf_ (.bool (decide ((32 : Int) < (g.length : Int)))) e0 n e0) (E _ _ ⟨y, (congrArg Value.bool (orF n)), b⟩))))
 rintro f w ⟨a4, a5, b⟩
 refine wK a2 (cB (eh a5) p (fun a6 p => ?_) fun a6 p => ?_)
 ·refine sR fun _ a7 => Ya (.bool false) rfl (wK a7 (wp_ret (a0 _ _ _ rfl ?_)))
  cases p
  exact x _ _ _ (fin1r Tryz.results9 ⟨rfl, rfl⟩ ⟨rfl, b⟩)
 ·refine wp_skip (Z _ _ (seqQ fun e2 a8 a9 => sR fun _ b0 => Ya (iV 0) rfl (wK b0 (blockQ fun F G => bE p fun H b1 p => ?_))))
  have b2 : ∀ (f : FV) w, St w0 ros rs w → .inl () = H → F (.exit 0) (fr 53 f) w := by
   intro f w b ho
   subst ho
   refine G _ _ _ (a8 _ _ (sR fun _ b3 => Ya (.bool true) rfl (wK b3 (wp_ret ?_))))
   cases p
   exact x _ _ _ (fin1r Tryz.results9 ⟨rfl, rfl⟩ ⟨rfl, b⟩)
  have b4 : ∀ (f : FV) w, f 2 = .bool false → St w0 ros rs w → .inr () = H → F .ret (fr 53 f) w := by
   intro f w b5 b ho
   subst ho
   refine G _ _ _ (a9 _ _ _ rfl ?_)
   cases p
   exact x _ _ _ (fin1r Tryz.results9 ⟨rfl, b5⟩ ⟨rfl, b⟩)
  refine loopQ (fun s a w => ∃ (k : Int) (f : FV), k = s ∧ a = fr 53 f ∧ f 0 = d.v ∧ f 3 = iV k ∧ St w0 ros rs w) b1 ⟨_, _, rfl, rfl, a4, rfl, b⟩ ?_
  rintro _ _ w e3 ⟨k, f, rfl, rfl, t, u, b⟩ c I e4 b6 J
  refine seqQ fun e5 b7 b8 => sR fun _ b9 => Ym (iV k) (eh u) (Ym d.v (eh t) (yY (yLen SL_22 e0 b (rdI l)) (yY (ylss e0 e0) (wK b9 ?_))))
  refine cIf e0 c (fun c0 c => ?_) fun c0 c => ?_
  ·refine wp_skip (b7 _ _ (seqQ fun e6 c1 c2 => blockQ fun _ K => sR fun _ c3 => Ym d.v (eh t) (Ym (iV k) (eh u) (bE c fun c5 L c => yY (yIa SL_22 e0 e0 b (rdI l) L) ?_))))
   obtain ⟨e7, b⟩ := iLs b l L
   refine yY (yCt O_32 e0 b F1 rfl) (yY (yLen SL_32 e0 b (rdI F0)) (yY (ygtr e0 rfl) (Ym (.bool (decide ((4 : Int) < (c5.length : Int)))) e0 (bE c fun N q c => ?_))))
   refine joinW 7 (fun f w => f 0 = d.v ∧ f 3 = iV k ∧ f 36 = .bool N ∧ St w0 ros rs w) (fun O => ?_) ?_
   ·rcases iteS q with ⟨h, q⟩ | ⟨h, q⟩
    ·refine yG (dT h) (m_ d.v (eh t)) (yG (dT h) (m_ (iV k) (eh u)) (bE q fun c8 R q => yG (dT h) (yIa SL_22 e0 e0 b (rdI (F_2 l)) R) ?_))
     obtain ⟨e8, b⟩ := iLs b (F_2 l) R
     refine yG (dT h) (yCt O_32 e0 b F1 rfl) (yG (dT h) (yLen SL_32 e0 b (rdI F0)) (yG (dT h) (yleq e0 rfl) (yY (pt_ (.bool (decide ((c8.length : Int) ≤ 16))) e0 (dT h) e0) ?_)))
     cases q
     exact O _ _ ⟨t, u, rfl, (b.facts (allT (allT (allT (allT allI)))))⟩
    ·refine gN (dF h) (gN (dF h) (gN (dF h) (gN (dF h) (gN (dF h) (gN (dF h) (yY (pf_ (.bool false) e0 (dF h) rfl) ?_))))))
     cases q
     exact O _ _ ⟨t, u, rfl, (b.facts (allT (allT allI)))⟩
   rintro f w ⟨z, A, c9, b⟩
   refine Ym (.bool N) (eh c9) (bE c fun S r c => ?_)
   refine joinW 7 (fun f w => f 0 = d.v ∧ f 3 = iV k ∧ f 44 = .bool S ∧ St w0 ros rs w) (fun T => ?_) ?_
   ·rcases iteS r with ⟨i, r⟩ | ⟨i, r⟩
    ·refine gN i (gN i (gN i (gN i (gN i (gN i (yY (pt_ (.bool true) e0 i rfl) ?_))))))
     cases r
     exact T _ _ ⟨z, A, rfl, b⟩
    ·refine yG (bfalse i) (m_ d.v (eh z)) (yG (bfalse i) (m_ (iV k) (eh A)) (bE r fun d0 U r => yG (bfalse i) (yIa SL_22 e0 e0 b (rdI l) U) ?_))
     obtain ⟨e9, b⟩ := iLs b l U
     refine yG (bfalse i) (yCt O_32 e0 b F1 rfl) (yG (bfalse i) (yLen SL_32 e0 b (rdI F0)) (yG (bfalse i) (ygtr e0 rfl) (yY (pf_ (.bool (decide ((32 : Int) < (d0.length : Int)))) e0 (bfalse i) e0) ?_)))
     cases r
     exact T _ _ ⟨z, A, rfl, (b.facts (allT (allT allI)))⟩
   rintro f w ⟨B, C, d1, b⟩
   refine Ym (.bool S) (eh d1) (bE c fun d2 o c => ?_)
   refine joinW 7 (fun f w => f 0 = d.v ∧ f 3 = iV k ∧ f 52 = .bool d2 ∧ St w0 ros rs w) (fun V => ?_) ?_
   ·rcases iteS o with ⟨j, o⟩ | ⟨j, o⟩
    ·refine gN j (gN j (gN j (gN j (gN j (gN j (yY (pt_ (.bool true) e0 j rfl) ?_))))))
     cases o
     exact V _ _ ⟨B, C, rfl, b⟩
    ·refine yG (bfalse j) (m_ d.v (eh B)) (yG (bfalse j) (m_ (iV k) (eh C)) (bE o fun f0 W o => yG (bfalse j) (yIa SL_22 e0 e0 b (rdI l) W) ?_))
     obtain ⟨f1, b⟩ := iLs b l W
     refine yG (bfalse j) (yCt O_32 e0 b F1 rfl) (bE o fun d3 d4 o => Yc (wG (bfalse j)) rfl (yCall FN_17 (a1 e0)) (sparselaw08_slim_ok d4 F0 b) ?_)
     rintro _ w ⟨rfl, b⟩
     refine ⟨_, rfl, ?_⟩
     refine yG (bfalse j) (ynot e0) (yY (pf_ (.bool (!d3)) e0 (bfalse j) e0) ?_)
     cases o
     exact V _ _ ⟨B, C, rfl, (b.facts (allT (allT allI)))⟩
   rintro f w ⟨d5, d6, d7, b⟩
   refine wK c3 (cB (eh d7) c (fun d8 c => ?_) fun d8 c => ?_)
   ·refine sR fun _ d9 => Ya (.bool false) rfl (wK d9 (wp_ret (K _ _ _ (c2 _ _ _ rfl ?_))))
    cases c
    exact J _ _ _ _ rfl rfl (b4 _ _ rfl b (I _ rfl))
   ·refine wp_skip (K _ _ _ (c1 _ _ (wR (Ym (iV k) (eh d6) (yY (yadd e0 rfl) (Ya (iV (wa .i64 k 1)) e0 (wN ?_)))))))
    cases c
    exact b6 _ _ _ rfl ⟨_, _, rfl, rfl, d5, rfl, b⟩
  ·refine wp_exit (b8 _ _ _ rfl ?_)
   cases c
   exact J _ _ _ _ rfl rfl (b2 _ _ b (I _ rfl))
theorem sparsekit_TwinBig_ok {c : Bool} {z : LI} {h : Hdr} {out : Bool × LI} (p : sparsekit_TwinBig c z = some out) (q : imm (rI .u32) h.v z ∈ ros) (b : St w0 ros rs w) :
  Calls Tryz.prog 60 #[.agg #[.bool c, h.v]] w (fun e w => ∃ (A : Hdr), e = .returned (.agg #[.bool out.1, A.v]) ∧ St w0 ros (row 103 (rI .u32) A.v out.2 :: rs) w) := by
 refine enterQ Tryz.func60 rfl Tryz.ntmps60 rfl fun Q F => sR fun _ G => yBb (r_box (vals := [.bool c, h.v]) b e0 rfl) fun B w b => yBb (rAl b ZT_31) fun m w b => wK G (sR fun _ H => yY (yFb FL_31_0 e0) (yY (lb_ (.bool c) O_4 e0 b R1) (yY (ybuild (us := [.bool c, hnil.v]) [(0, .bool c)] SO_31 (bp1 e0) rfl) ?_)))
 refine yBb (rAl b ZT_31) fun o w b => yT (r_stbn (vals' := [.bool c, hnil.v]) (us := [.bool c, hnil.v]) b ST_31 e0 e0 rfl rfl (one_of rfl) rfl) fun w b => wK H (sQ fun _ I => sR fun _ J => Ya (iV 0) rfl (wK J (blockQ fun K L => bE p fun N O p => ?_)))
 have R : ∀ (r : LI) (i : Hdr) (f : FV) w, f 2 = (pB m) → f 3 = (pB o) → St w0 ros (box m 31 [.bool false, hnil.v] :: row 103 (rI .u32) i.v r :: box o 31 [.bool c, i.v] :: rs) w → r = N → K (.exit 0) (fr 26 f) w := by
  intro r i f w C S b ho
  subst ho
  refine L _ _ _ (I _ _ (sR fun _ T => yY (lbs_ [.bool c, i.v] ST_31 (eh S) b R2) (yT (r_stbn (vals' := [.bool c, i.v]) (us := [.bool c, i.v]) b ST_31 (eh C) e0 rfl rfl (one_of rfl) rfl) fun w b => wK T (wp_ret ?_))))
  cases p
  exact F _ _ _ (fin1r Tryz.results60 (rcs2 rfl C b R0 ST_31 rfl) ⟨_, rfl, (b.k11)⟩)
 replace b := b.rowNh 103 (rI .u32)
 refine loopQ (fun s a w => ∃ (t : LI) (g : Int) (f : FV) (j : Hdr), (t, g) = s ∧ a = fr 26 f ∧ f 1 = (pB B) ∧ f 2 = (pB m) ∧ f 3 = (pB o) ∧ f 4 = iV g ∧ St w0 ros (box B 31 [.bool c, h.v] :: box m 31 [.bool false, hnil.v] :: row 103 (rI .u32) j.v t :: box o 31 [.bool c, j.v] :: rs) w) O ⟨_, _, _, _, rfl, rfl, rfl, rfl, rfl, rfl, (b.k12)⟩ ?_
 rintro _ _ w a6 ⟨t, g, f, j, rfl, rfl, u, D, k, x, b⟩ d U a7 V W
 refine seqQ fun a8 X Z => sR fun _ a0 => Ym (iV g) (eh x) (yY (yFb FL_31_1 (eh u)) (yY (lb_ h.v O_29 e0 b R0) (yY (yLen SL_29 e0 b (rdI q)) (yY (ylss e0 e0) (wK a0 ?_)))))
 refine cIf e0 d (fun a1 d => ?_) fun a1 d => ?_
 ·refine wp_skip (X _ _ (sQ fun _ a2 => blockQ fun _ a3 => bE d fun y E d => bE d fun a9 a4 d => dR [0, 1, 0, 4, 0, 28, 60, 124, 255, 511, 1023] [7, 8, 10] 3 folM ?_))
  replace b := b.drew
  refine Dn [0, 1, 2, 3, 4, 5, 6] [] [7] (yR rfl (yFb FL_31_1 (eh k)) (yR rfl (lb_ j.v O_29 e0 b R3) (yR rfl (yFb FL_31_1 (eh u)) (yR rfl (lb_ h.v O_29 e0 b R0) (yR rfl (m_ (iV g) (eh x)) (yR rfl (yIa SL_29 e0 e0 b (rdI q) E) (yR rfl (yI O_103 e0 b (rdI q) E) (Rn QSn ?_))))))))
  refine Lc1 rfl ?_
  refine LH wn (rLt (n := 1) (l := [y]) b SL_29 [.int .u32 y] (bp1 e0) rfl rfl (mks1 (cs := [.int .u32 y]) rfl mkI mks0)) fun b0 w b => Dn [] [0, 1] [8] (Rn (yS rfl (yFb FL_31_1 (eh k)) (yS rfl (lb_ j.v O_29 e0 b R4) QSn)) ?_)
  refine Lc1 rfl ?_
  replace b := b.k13
  refine LH wn (rAp b SL_29 e0 e0 rO1 a4) fun a5 w b => Dn [9] [] [10] (yR rfl (yFb FL_31_1 (eh k)) (Rn QSn ?_))
  refine Lc1 rfl ?_
  replace b := b.k14
  refine LT wn (r_stb1 (vals' := [.bool c, a5.v]) b O_29 e0 e0 rfl rfl rfl rfl) fun w b => Dz [] [] (Rn QSn (a3 _ _ _ (a2 _ _ (wR (Ym (iV g) (eh x) (yY (yadd e0 rfl) (Ya (iV (wa .i64 g 1)) e0 (wN ?_))))))))
  cases d
  exact V _ _ _ rfl ⟨_, _, _, _, rfl, rfl, u, D, k, rfl, (b.k15)⟩
 ·refine wp_exit (Z _ _ _ rfl ?_)
  cases d
  exact W _ _ _ _ rfl rfl (R _ _ _ _ D k (b.k16) (U _ rfl))
theorem sparsekit_TwinBigs_ok {t : List (Bool × LI)} {g : Hdr} {out : (List (Bool × LI))} (k : sparsekit_TwinBigs t = some out) (m : imm (rP rB (rS (rI .u32))) g.v t ∈ ros) (b : St w0 ros rs w) :
  Calls Tryz.prog 18 #[g.v] w (fun e w => ∃ (u : Hdr), e = .returned (u.v) ∧ St w0 ros (row 31 (rP rB (rS (rI .u32))) u.v out :: rs) w) := by
 refine enterQ Tryz.func18 rfl Tryz.ntmps18 rfl fun Q A => sR fun _ B => Ya hnil.v rfl (wK B (sR fun _ C => Ya hnil.v rfl (wK C (sQ fun _ D => sR fun _ E => ?_))))
 refine Ya (iV 0) rfl (wK E (blockQ fun F G => bE k fun H I k => ?_))
 have J : ∀ (o : List (Bool × LI)) (h : Hdr) (f : FV) w, f 3 = h.v → St w0 ros (row 31 (rP rB (rS (rI .u32))) h.v o :: rs) w → o = H → F (.exit 0) (fr 20 f) w := by
  intro o h f w K b ho
  subst ho
  refine G _ _ _ (D _ _ (sR fun _ L => Ym h.v (eh K) (Ya h.v e0 (wK L (wp_ret ?_)))))
  cases k
  exact A _ _ _ (fin1r Tryz.results18 ⟨rfl, rfl⟩ ⟨_, rfl, b⟩)
 replace b := b.rowNh 31 (rP rB (rS (rI .u32)))
 refine loopQ (fun s a w => ∃ (p : List (Bool × LI)) (d : Int) (f : FV) (i : Hdr), (p, d) = s ∧ a = fr 20 f ∧ f 0 = g.v ∧ f 3 = i.v ∧ f 4 = iV d ∧ St w0 ros (row 31 (rP rB (rS (rI .u32))) i.v p :: rs) w) I ⟨_, _, _, _, rfl, rfl, rfl, rfl, rfl, b⟩ ?_
 rintro _ _ w a5 ⟨p, d, f, i, rfl, rfl, q, x, r, b⟩ c N a6 O R
 refine seqQ fun a7 S T => sR fun _ U => Ym (iV d) (eh r) (Ym g.v (eh q) (yY (yLen SL_32 e0 b (rdI m)) (yY (ylss e0 e0) (wK U ?_))))
 refine cIf e0 c (fun V c => ?_) fun V c => ?_
 ·refine wp_skip (S _ _ (sQ fun _ W => blockQ fun _ X => wR (Ym i.v (eh x) (Ym g.v (eh q) (Ym (iV d) (eh r) (bE c fun Z y c => yY (yIa SL_32 e0 e0 b (rdI m) y) ?_))))))
  obtain ⟨a8, a9, b⟩ := iLd b m y
  obtain ⟨b0, b1, rfl, b⟩ := b.eltP
  obtain ⟨rfl, b⟩ := b.eltB
  obtain ⟨a0, rfl, b⟩ := b.eltS
  refine yY (yCtn (cs := [.bool Z.1, a0.v]) ST_31 rfl e0 b F1) (bE c fun j a2 c => yC (yCall FN_60 (a1 e0)) (sparsekit_TwinBig_ok a2 F0 b) ?_)
  rintro _ w ⟨z, rfl, b⟩
  refine ⟨_, rfl, ?_⟩
  refine yH (rLt (n := 1) (l := [(j.1, j.2)]) b.fz SL_32 [.agg #[.bool j.1, z.v]] (bp1 e0) rfl rfl (mks1 (cs := [.bool j.1, z.v]) rfl (mkP mkB (mkS F0)) mks0)) fun b2 w b => bE c fun b3 a3 c => yH (rAp (b.k17) SL_32 e0 e0 rO1 a3) fun a4 w b => Ya a4.v e0 (wN (X _ _ _ (W _ _ (wR (Ym (iV d) (eh r) (yY (yadd e0 rfl) (Ya (iV (wa .i64 d 1)) e0 (wN ?_))))))))
  cases c
  exact O _ _ _ rfl ⟨_, _, _, _, rfl, rfl, q, rfl, rfl, ((b.k18).facts (allT (allT (allT allI))))⟩
 ·refine wp_exit (T _ _ _ rfl ?_)
  cases c
  exact R _ _ _ _ rfl rfl (J _ _ _ _ x b (N _ rfl))
theorem sparsekit_TwinRows_ok {x : List (List (Bool × LI))} {g : Hdr} {out : (List (List (Bool × LI)))} (j : sparsekit_TwinRows x = some out) (k : imm (rS (rP rB (rS (rI .u32)))) g.v x ∈ ros) (b : St w0 ros rs w) :
  Calls Tryz.prog 11 #[g.v] w (fun e w => ∃ (y : Hdr) (z : List Hdr), e = .returned (y.v) ∧ St w0 ros (row 32 rH y.v z :: fam 31 (rP rB (rS (rI .u32))) z out :: rs) w) := by
 refine enterQ Tryz.func11 rfl Tryz.ntmps11 rfl fun Q D => sR fun _ E => Ya hnil.v rfl (wK E (sR fun _ F => Ya hnil.v rfl (wK F (sQ fun _ G => sR fun _ H => ?_))))
 refine Ya (iV 0) rfl (wK H (blockQ fun I J => bE j fun K L j => ?_))
 have N : ∀ (m : List (List (Bool × LI))) (h : Hdr) (o : List Hdr) (f : FV) w, f 3 = h.v → St w0 ros (row 32 rH h.v o :: fam 31 (rP rB (rS (rI .u32))) o m :: rs) w → m = K → I (.exit 0) (fr 20 f) w := by
  intro m h o f w O b ho
  subst ho
  refine J _ _ _ (G _ _ (sR fun _ R => Ym h.v (eh O) (Ya h.v e0 (wK R (wp_ret ?_)))))
  cases j
  exact D _ _ _ (fin1r Tryz.results11 ⟨rfl, rfl⟩ ⟨_, _, rfl, b⟩)
 replace b := ((b.rowNh 32 rH).fNew 31 (rP rB (rS (rI .u32)))).k17
 refine loopQ (fun s a w => ∃ (p : List (List (Bool × LI))) (d : Int) (f : FV) (i : Hdr) (q : List Hdr), (p, d) = s ∧ a = fr 20 f ∧ f 0 = g.v ∧ f 3 = i.v ∧ f 4 = iV d ∧ St w0 ros (row 32 rH i.v q :: fam 31 (rP rB (rS (rI .u32))) q p :: rs) w) L ⟨_, _, _, _, _, rfl, rfl, rfl, rfl, rfl, b⟩ ?_
 rintro _ _ w a7 ⟨p, d, f, i, q, rfl, rfl, r, A, t, b⟩ c S a8 T U
 refine seqQ fun a9 V W => sR fun _ X => Ym (iV d) (eh t) (Ym g.v (eh r) (yY (yLen SL_22 e0 b (rdI k)) (yY (ylss e0 e0) (wK X ?_))))
 refine cIf e0 c (fun Z c => ?_) fun Z c => ?_
 ·refine wp_skip (V _ _ (sQ fun _ a0 => blockQ fun _ a2 => wR (Ym i.v (eh A) (Ym g.v (eh r) (Ym (iV d) (eh t) (bE c fun b0 B c => yY (yIa SL_22 e0 e0 b (rdI k) B) ?_))))))
  obtain ⟨b1, b⟩ := iLs b k B
  refine yY (yCt O_32 e0 b F1 rfl) (bE c fun a3 a4 c => yC (yCall FN_18 (a1 e0)) (sparsekit_TwinBigs_ok a4 F0 b) ?_)
  rintro _ w ⟨u, rfl, b⟩
  refine ⟨_, rfl, ?_⟩
  refine yH (rLt (n := 1) (l := [u]) b SLH_22 [u.v] (bp1 e0) rfl rfl (mks1 rfl (mkF rfl) mks0)) fun b2 w b => bE c fun b3 C c => ?_
  replace b := b.k19
  obtain ⟨b4, ey43, a5⟩ := app_rep C (b.famL R3) (show [u].length = [a3].length from rfl)
  refine yH (rAp b SLH_22 e0 e0 rO1 a5) fun a6 w b => ?_
  replace b := (b.k1a).fPush
  rw [← ey43, ← (app_some C).1] at b
  refine Ya a6.v e0 (wN (a2 _ _ _ (a0 _ _ (wR (Ym (iV d) (eh t) (yY (yadd e0 rfl) (Ya (iV (wa .i64 d 1)) e0 (wN ?_))))))))
  cases c
  exact T _ _ _ rfl ⟨_, _, _, _, _, rfl, rfl, r, rfl, rfl, ((b.k1b).facts (allT (allT allI)))⟩
 ·refine wp_exit (W _ _ _ rfl ?_)
  cases c
  exact U _ _ _ _ rfl rfl (N _ _ _ _ _ A b (S _ rfl))
theorem sparseref07_Shape_ok {n : LI} {h : Hdr} {out : Int} (i : sparseref07_Shape n = some out) (j : imm I1 h.v n ∈ ros) (b : St w0 ros rs w) :
  Calls Tryz.prog 51 #[h.v] w (fun e w => e = .returned (iV out) ∧ St w0 ros rs w) := by
 refine enterQ Tryz.func51 rfl Tryz.ntmps51 rfl fun Q p => sR fun _ I => Ya (iV 0) rfl (wK I (seqQ fun b4 J K => sR fun _ L => Ya (iV 0) rfl (wK L (blockQ fun u x => bE i fun y N i => ?_))))
 have O : ∀ (f : FV) w, f 0 = h.v → St w0 ros rs w → .inl () = y → u (.exit 0) (fr 32 f) w := by
  intro f w q b ho
  subst ho
  refine x _ _ _ (J _ _ (seqQ fun b5 R S => sR fun _ T => Ym h.v (eh q) (yY (yLen SL_48 e0 b (rdI j)) (yY (ygtr e0 rfl) (Ym (.bool (decide ((200 : Int) < (n.length : Int)))) e0 (bE i fun U k i => ?_))))))
  refine joinW 10 (fun f w => f 31 = .bool U ∧ St w0 ros rs w) (fun z => ?_) ?_
  ·rcases iteS k with ⟨c, k⟩ | ⟨c, k⟩
   ·refine gN (dT c) (gN (dT c) (gN (dT c) (gN (dT c) (Gn (wxu rfl rfl rfl) rfl (Gn (wxu rfl rfl rfl) rfl (Gn (wxu rfl rfl rfl) rfl (Gn (wxu rfl rfl rfl) rfl (gN (dT c) (yY (pt_ (.bool true) e0 (dT c) rfl) ?_)))))))))
    cases k
    exact z _ _ ⟨rfl, b⟩
   ·refine yG (dF c) (m_ h.v (eh q)) (yG (dF c) (yLen SL_48 e0 b (rdI j)) (yG (dF c) (ygtr e0 rfl) (yG (dF c) (m_ (.bool (decide ((0 : Int) < (n.length : Int)))) e0) (bE k fun A l k => ?_))))
    refine joinW 5 (fun f w => f 21 = .bool (decide ((200 : Int) < (n.length : Int))) ∧ f 30 = .bool A ∧ St w0 ros rs w) (fun B => ?_) ?_
    ·rcases iteS l with ⟨g, l⟩ | ⟨g, l⟩
     ·refine yG (dT g) (m_ h.v (eh q)) (bE l fun V C l => yG (dT g) (yIa SL_48 e0 rfl b (rdI j) C) (yG (dT g) (yI O_3 e0 b (rdI j) C) (yG (dT g) (ygtr e0 rfl) (yG (dF c) (pt_ (.bool (decide ((200 : Int) < V))) e0 (dT g) e0) ?_))))
      cases l
      exact B _ _ ⟨rfl, rfl, b⟩
     ·refine gN (dF g) (gN (dF g) (gN (dF g) (gN (dF g) (yG (dF c) (pf_ (.bool false) e0 (dF g) rfl) ?_))))
      cases l
      exact B _ _ ⟨rfl, rfl, b⟩
    rintro f w ⟨W, X, b⟩
    refine yY (pf_ (.bool A) (eh W) (dF c) (eh X)) ?_
    cases k
    exact z _ _ ⟨rfl, b⟩
  rintro f w ⟨Z, b⟩
  refine wK T (cB (eh Z) i (fun a0 i => ?_) fun a0 i => ?_)
  ·refine sR fun _ a1 => Ya (iV 6) rfl (wK a1 (wp_ret (S _ _ _ rfl ?_)))
   cases i
   exact p _ _ _ (fin1r Tryz.results51 ⟨rfl, rfl⟩ ⟨rfl, b⟩)
  ·refine wp_skip (R _ _ (sR fun _ a2 => Ya (iV 0) rfl (wK a2 (wp_ret ?_))))
   cases i
   exact p _ _ _ (fin1r Tryz.results51 ⟨rfl, rfl⟩ ⟨rfl, b⟩)
 have a3 : ∀ (f : FV) w, f 2 = iV 5 → St w0 ros rs w → .inr () = y → u .ret (fr 32 f) w := by
  intro f w a4 b ho
  subst ho
  refine x _ _ _ (K _ _ _ rfl ?_)
  cases i
  exact p _ _ _ (fin1r Tryz.results51 ⟨rfl, a4⟩ ⟨rfl, b⟩)
 refine loopQ (fun s a w => ∃ (m : Int) (f : FV), m = s ∧ a = fr 32 f ∧ f 0 = h.v ∧ f 3 = iV m ∧ St w0 ros rs w) N ⟨_, _, rfl, rfl, rfl, rfl, b⟩ ?_
 rintro _ _ w b6 ⟨m, f, rfl, rfl, o, r, b⟩ d D b7 a5 E
 refine seqQ fun b8 a6 a7 => sR fun _ a8 => Ym (iV m) (eh r) (Ym h.v (eh o) (yY (yLen SL_48 e0 b (rdI j)) (yY (ylss e0 e0) (wK a8 ?_))))
 refine cIf e0 d (fun a9 d => ?_) fun a9 d => ?_
 ·refine wp_skip (a6 _ _ (seqQ fun b9 b0 b1 => blockQ fun _ F => sQ fun _ b2 => bE d fun c0 G d => bE d fun c1 H d => dR [0, 0, 3, 7, 0, 16, 48, 127] [] 0 folM ?_))
  replace b := b.drew
  refine Dz [0, 1, 2, 3, 4, 5, 6, 7] [] (yR rfl (m_ h.v (eh o)) (yR rfl (m_ (iV m) (eh r)) (yR rfl (yIa SL_48 e0 e0 b (rdI j) G) (yR rfl (yI O_3 e0 b (rdI j) G) (yR rfl (m_ h.v (eh o)) (yR rfl (yIa SL_48 e0 rfl b (rdI j) H) (yR rfl (yI O_3 e0 b (rdI j) H) (yR rfl (yneq e0 e0) (Rn QSn (b2 _ _ ?_))))))))))
  rcases iteS d with ⟨t, d⟩ | ⟨t, d⟩
  ·refine condF e0 (nF (dT t)) (wp_skip (F _ _ _ (b0 _ _ (wR (Ym (iV m) (eh r) (yY (yadd e0 rfl) (Ya (iV (wa .i64 m 1)) e0 (wN ?_))))))))
   cases d
   exact a5 _ _ _ rfl ⟨_, _, rfl, rfl, o, rfl, b⟩
  ·refine condT e0 (nT (dF t)) (sR fun _ b3 => Ya (iV 5) rfl (wK b3 (wp_ret (F _ _ _ (b1 _ _ _ rfl ?_)))))
   cases d
   exact E _ _ _ _ rfl rfl (a3 _ _ rfl b (D _ rfl))
 ·refine wp_exit (a7 _ _ _ rfl ?_)
  cases d
  exact E _ _ _ _ rfl rfl (O _ _ o b (D _ rfl))
theorem sparseref08_Cols_ok {f : List (List (Bool × LI))} {c : Hdr} {out : Int} (b : sparseref08_Cols f = some out) (d : imm (rS (rP rB (rS (rI .u32)))) c.v f ∈ ros) (a : St w0 ros rs w) :
  Calls Tryz.prog 13 #[c.v] w (fun e w => e = .returned (iV out) ∧ St w0 ros rs w) := by
 refine enterQ Tryz.func13 rfl Tryz.ntmps13 rfl fun Q g => sR fun _ i => Ya (iV 0) rfl (wK i (seqQ fun q j k => sR fun _ l => Ym c.v e0 (yY (yLen SL_22 e0 a (rdI d)) (yY (yeql e0 rfl) (wK l ?_)))))
 refine cIf e0 b (fun m b => ?_) fun m b => ?_
 ·refine sR fun _ n => Ya (iV 0) rfl (wK n (wp_ret (k _ _ _ rfl ?_)))
  cases b
  exact g _ _ _ (fin1r Tryz.results13 ⟨rfl, rfl⟩ ⟨rfl, a⟩)
 ·refine wp_skip (j _ _ (sR fun _ o => Ym c.v e0 (bE b fun p h b => yY (yIa SL_22 e0 rfl a (rdI d) h) ?_)))
  obtain ⟨r, a⟩ := iLs a d h
  refine yY (yCt O_32 e0 a F1 rfl) (yY (yLen SL_32 e0 a (rdI F0)) (Ya (iV (p.length : Int)) e0 (wK o (wp_ret ?_))))
  cases b
  exact g _ _ _ (fin1r Tryz.results13 ⟨rfl, rfl⟩ ⟨rfl, (a.facts (allT (allT allI)))⟩)
theorem sparseref08_Check_ok {q : List (List (Bool × LI))} {h : Hdr} {out : Int} (c : sparseref08_Check q = some out) (k : imm (rS (rP rB (rS (rI .u32)))) h.v q ∈ ros) (b : St w0 ros rs w) :
  Calls Tryz.prog 12 #[h.v] w (fun e w => e = .returned (iV out) ∧ St w0 ros rs w) := by
 refine enterQ Tryz.func12 rfl Tryz.ntmps12 rfl fun Q r => sR fun _ D => Ya (iV 0) rfl (wK D (sR fun _ E => Ya hnil.v rfl (wK E (sQ fun _ F => sR fun _ G => ?_))))
 refine Ya (iV 0) rfl (wK G (blockQ fun H I => bE c fun J K c => ?_))
 have L : ∀ (t : LI) (m : Hdr) (f : FV) w, f 0 = h.v → f 3 = m.v → St w0 ros (row 3 I1 m.v t :: rs) w → t = J → H (.exit 0) (fr 30 f) w := by
  intro t m f w z N b ho
  subst ho
  refine I _ _ _ (F _ _ (seqQ fun b9 O R => sR fun _ S => Ym m.v (eh N) (bE c fun c0 T c => ?_)))
  replace b := b.fz
  refine yC (yCall FN_51 (a1 e0)) (sparseref07_Shape_ok T F0 b) ?_
  rintro _ w ⟨rfl, b⟩
  refine ⟨_, rfl, ?_⟩
  refine yY (yeql e0 rfl) (wK S ?_)
  refine cIf e0 c (fun U c => ?_) fun U c => ?_
  ·refine sR fun _ V => Ya (iV 5) rfl (wK V (wp_ret (R _ _ _ rfl ?_)))
   cases c
   exact r _ _ _ (fin1r Tryz.results12 ⟨rfl, rfl⟩ ⟨rfl, (b.facts (allT allI))⟩)
  ·refine wp_skip (O _ _ (seqQ fun c1 W X => sR fun _ Z => Ym h.v (eh z) (yY (yLen SL_22 e0 b (rdI (mtF k))) (yY (ygtr e0 rfl) (Ym (.bool (decide ((16 : Int) < (q.length : Int)))) e0 (bE c fun a0 i c => ?_))))))
   refine joinW 4 (fun f w => f 29 = .bool a0 ∧ St w0 ros rs w) (fun A => ?_) ?_
   ·rcases iteS i with ⟨d, i⟩ | ⟨d, i⟩
    ·refine gN (dT d) (gN (dT d) (gN (dT d) (yY (pt_ (.bool true) e0 (dT d) rfl) ?_)))
     cases i
     exact A _ _ ⟨rfl, (b.facts (allT allI))⟩
    ·refine yG (dF d) (m_ h.v (eh z)) (bE i fun a2 a3 i => Yc (wG (dF d)) rfl (yCall FN_13 (a1 e0)) (sparseref08_Cols_ok a3 (mtF k) b) ?_)
     rintro _ w ⟨rfl, b⟩
     refine ⟨_, rfl, ?_⟩
     refine yG (dF d) (ygtr e0 rfl) (yY (pf_ (.bool (decide ((16 : Int) < a2))) e0 (dF d) e0) ?_)
     cases i
     exact A _ _ ⟨rfl, (b.facts (allT allI))⟩
   rintro f w ⟨a4, b⟩
   refine wK Z (cB (eh a4) c (fun a5 c => ?_) fun a5 c => ?_)
   ·refine sR fun _ a6 => Ya (iV 6) rfl (wK a6 (wp_ret (X _ _ _ rfl ?_)))
    cases c
    exact r _ _ _ (fin1r Tryz.results12 ⟨rfl, rfl⟩ ⟨rfl, b⟩)
   ·refine wp_skip (W _ _ (sR fun _ a7 => Ya (iV 0) rfl (wK a7 (wp_ret ?_))))
    cases c
    exact r _ _ _ (fin1r Tryz.results12 ⟨rfl, rfl⟩ ⟨rfl, b⟩)
 replace b := b.rowNh 3 I1
 refine loopQ (fun s a w => ∃ (u : LI) (j : Int) (f : FV) (o : Hdr), (u, j) = s ∧ a = fr 30 f ∧ f 0 = h.v ∧ f 3 = o.v ∧ f 4 = iV j ∧ St w0 ros (row 3 I1 o.v u :: rs) w) K ⟨_, _, _, _, rfl, rfl, rfl, rfl, rfl, b⟩ ?_
 rintro _ _ w c2 ⟨u, j, f, o, rfl, rfl, p, B, x, b⟩ g a8 c3 a9 b0
 refine seqQ fun c4 b1 b2 => sR fun _ b3 => Ym (iV j) (eh x) (Ym h.v (eh p) (yY (yLen SL_22 e0 b (rdI k)) (yY (ylss e0 e0) (wK b3 ?_))))
 refine cIf e0 g (fun b4 g => ?_) fun b4 g => ?_
 ·refine wp_skip (b1 _ _ (sQ fun _ b5 => blockQ fun _ b6 => wR (Ym o.v (eh B) (Ym h.v (eh p) (Ym (iV j) (eh x) (bE g fun y C g => yY (yIa SL_22 e0 e0 b (rdI k) C) ?_))))))
  obtain ⟨c5, b⟩ := iLs b k C
  refine yY (yCt O_32 e0 b F1 rfl) (yY (yLen SL_32 e0 b (rdI F0)) (yH (rLt (n := 1) (l := [(y.length : Int)]) b SL_48 [iV (y.length : Int)] (bp1 e0) rfl rfl (mks1 (cs := [iV (y.length : Int)]) rfl mkI mks0)) fun c6 w b => bE g fun c7 b7 g => yH (rAp (b.k17) SL_48 e0 e0 rO1 b7) fun b8 w b => Ya b8.v e0 (wN (b6 _ _ _ (b5 _ _ (wR (Ym (iV j) (eh x) (yY (yadd e0 rfl) ?_))))))))
  refine Ya (iV (wa .i64 j 1)) e0 (wN ?_)
  cases g
  exact a9 _ _ _ rfl ⟨_, _, _, _, rfl, rfl, p, rfl, rfl, ((b.k18).facts (allT (allT allI)))⟩
 ·refine wp_exit (b2 _ _ _ rfl ?_)
  cases g
  exact b0 _ _ _ _ rfl rfl (L _ _ _ _ p B b (a8 _ rfl))
theorem exact_columns_ok {f : List (List (Bool × LI))} {c : Hdr} {out : Int} (b : exact_columns f = some out) (d : imm (rS (rP rB (rS (rI .u32)))) c.v f ∈ ros) (a : St w0 ros rs w) :
  Calls Tryz.prog 65 #[c.v] w (fun e w => e = .returned (iV out) ∧ St w0 ros rs w) := by
 refine enterQ Tryz.func65 rfl Tryz.ntmps65 rfl fun Q g => sR fun _ i => Ya (iV 0) rfl (wK i (seqQ fun q j k => sR fun _ l => Ym c.v e0 (yY (yLen SL_22 e0 a (rdI d)) (yY (yeql e0 rfl) (wK l ?_)))))
 refine cIf e0 b (fun m b => ?_) fun m b => ?_
 ·refine sR fun _ n => Ya (iV 0) rfl (wK n (wp_ret (k _ _ _ rfl ?_)))
  cases b
  exact g _ _ _ (fin1r Tryz.results65 ⟨rfl, rfl⟩ ⟨rfl, a⟩)
 ·refine wp_skip (j _ _ (sR fun _ o => Ym c.v e0 (bE b fun p h b => yY (yIa SL_22 e0 rfl a (rdI d) h) ?_)))
  obtain ⟨r, a⟩ := iLs a d h
  refine yY (yCt O_32 e0 a F1 rfl) (yY (yLen SL_32 e0 a (rdI F0)) (Ya (iV (p.length : Int)) e0 (wK o (wp_ret ?_))))
  cases b
  exact g _ _ _ (fin1r Tryz.results65 ⟨rfl, rfl⟩ ⟨rfl, (a.facts (allT (allT allI)))⟩)
theorem exact_check_1_ok {b : List (Bool × LI)} {a : Int} {c : Hdr} {d : Nat} {out : Bool} (g : exact_check_1 b a = some out) (h : imm (rP rB (rS (rI .u32))) c.v b ∈ ros) (f : St w0 ros (box d 3 [iV a] :: rs) w) :
  Calls Tryz.prog 109 #[c.v, (pB d)] w (fun e w => e = .returned (.bool out) ∧ St w0 ros (box d 3 [iV a] :: rs) w) := by
 refine enterQ Tryz.func109 rfl Tryz.ntmps109 rfl fun Q i => sR fun _ j => Ya (.bool false) rfl (wK j (sR fun _ k => Ym c.v e0 (yY (yLen SL_32 e0 f (rdI h)) (yY (lb_ (iV a) O_3 e0 f R0) (yY (yneq e0 e0) (Ya (.bool (!(decide ((b.length : Int) = a)))) e0 (wN ?_)))))))
 refine k _ _ (wp_ret ?_)
 cases g
 exact i _ _ _ (fin1r Tryz.results109 ⟨rfl, rfl⟩ ⟨rfl, f⟩)
theorem slices_IndexFunc_apiBig_ok {k : List (List (Bool × LI))} {h : Int} {i : Hdr} {g : Nat} {out : Int} (j : slices_IndexFunc_apiBig k h = some out) (l : imm (rS (rP rB (rS (rI .u32)))) i.v k ∈ ros) (b : St w0 ros (box g 3 [iV h] :: rs) w) :
  Calls Tryz.prog 141 #[i.v, .func (.func 109) #[] #[(pB g)]] w (fun e w => e = .returned (iV out) ∧ St w0 ros (box g 3 [iV h] :: rs) w) := by
 refine enterQ Tryz.func141 rfl Tryz.ntmps141 rfl fun Q o => sR fun _ C => Ya (iV 0) rfl (wK C (seqQ fun a2 D E => sR fun _ F => Ym i.v e0 (yY (yLen SL_22 e0 b (rdI l)) (Ym (iV 0) rfl (wK F ?_)))))
 refine blockQ fun p q => bE j fun r G j => ?_
 have H : ∀ (f : FV) w, St w0 ros (box g 3 [iV h] :: rs) w → .inl () = r → p (.exit 0) (fr 19 f) w := by
  intro f w b ho
  subst ho
  refine q _ _ _ (D _ _ (sR fun _ I => Ya (iV (-1)) rfl (wK I (wp_ret ?_))))
  cases j
  exact o _ _ _ (fin1r Tryz.results141 ⟨rfl, rfl⟩ ⟨rfl, b⟩)
 have J : ∀ (m : Int) (f : FV) w, f 4 = iV m → St w0 ros (box g 3 [iV h] :: rs) w → .inr m = r → p .ret (fr 19 f) w := by
  intro m f w K b ho
  subst ho
  refine q _ _ _ (E _ _ _ rfl ?_)
  cases j
  exact o _ _ _ (fin1r Tryz.results141 ⟨rfl, K⟩ ⟨rfl, b⟩)
 refine loopQ (fun s a w => ∃ (d : Int) (f : FV), d = s ∧ a = fr 19 f ∧ f 0 = i.v ∧ f 1 = .func (.func 109) #[] #[(pB g)] ∧ f 7 = iV (k.length : Int) ∧ f 8 = iV d ∧ St w0 ros (box g 3 [iV h] :: rs) w) G ⟨_, _, rfl, rfl, rfl, rfl, rfl, rfl, b⟩ ?_
 rintro _ _ w a3 ⟨d, f, rfl, rfl, t, u, x, n, b⟩ c y a4 L z
 refine sR fun _ N => yY (ylss (eh n) (eh x)) (wK N (seqQ fun a5 O R => ?_))
 refine cIf e0 c (fun S c => ?_) fun S c => ?_
 ·refine wp_skip (O _ _ (seqQ fun a6 T U => blockQ fun _ A => sR fun _ V => Ym (iV d) (eh n) (Ya (iV d) e0 (wK V (sR fun _ W => Ym (.func (.func 109) #[] #[(pB g)]) (eh u) (Ym i.v (eh t) ?_))))))
  refine Ym (iV d) e0 (bE c fun a7 B c => yY (yIa SL_22 e0 e0 b (rdI l) B) ?_)
  obtain ⟨a8, b⟩ := iLs b l B
  refine yY (yCt O_32 e0 b F1 rfl) (bE c fun a9 X c => yC (yCallw FN_109 e0 (a1 e0)) (exact_check_1_ok X F0 b) ?_)
  rintro _ w ⟨rfl, b⟩
  refine ⟨_, rfl, ?_⟩
  refine wK W (cB e0 c (fun Z c => ?_) fun Z c => ?_)
  ·refine sR fun _ a0 => Ym (iV d) e0 (Ya (iV d) e0 (wK a0 (wp_ret (A _ _ _ (U _ _ _ rfl ?_)))))
   cases c
   exact z _ _ _ _ rfl rfl (J _ _ _ rfl (b.facts (allT (allT allI))) (y _ rfl))
  ·refine wp_skip (A _ _ _ (T _ _ (wR (yY (yadd (eh n) rfl) (Ym (iV (wa .i64 d 1)) e0 (wN ?_))))))
   cases c
   exact L _ _ _ rfl ⟨_, _, rfl, rfl, t, u, x, rfl, (b.facts (allT (allT allI)))⟩
 ·refine wp_exit (R _ _ _ rfl ?_)
  cases c
  exact z _ _ _ _ rfl rfl (H _ _ b (y _ rfl))
theorem slices_ContainsFunc_apiBig_ok {g : List (List (Bool × LI))} {b : Int} {c : Hdr} {a : Nat} {out : Bool} (d : slices_ContainsFunc_apiBig g b = some out) (h : imm (rS (rP rB (rS (rI .u32)))) c.v g ∈ ros) (f : St w0 ros (box a 3 [iV b] :: rs) w) :
  Calls Tryz.prog 108 #[c.v, .func (.func 109) #[] #[(pB a)]] w (fun e w => e = .returned (.bool out) ∧ St w0 ros (box a 3 [iV b] :: rs) w) := by
 refine enterQ Tryz.func108 rfl Tryz.ntmps108 rfl fun Q i => sR fun _ j => Ya (.bool false) rfl (wK j (sR fun _ k => Ym c.v e0 (Ym (.func (.func 109) #[] #[(pB a)]) e0 (bE d fun l m d => yC (yCall FN_141 (a2 e0 e0)) (slices_IndexFunc_apiBig_ok m h f) ?_))))
 rintro _ w ⟨rfl, f⟩
 refine ⟨_, rfl, ?_⟩
 refine yY (ygeq e0 rfl) (Ya (.bool (decide ((0 : Int) ≤ l))) e0 (wK k (wp_ret ?_)))
 cases d
 exact i _ _ _ (fin1r Tryz.results108 ⟨rfl, rfl⟩ ⟨rfl, f⟩)
theorem exact_check_ok {d : List (List (Bool × LI))} {g : Hdr} {out : Int} (b : exact_check d = some out) (i : imm (rS (rP rB (rS (rI .u32)))) g.v d ∈ ros) (a : St w0 ros rs w) :
  Calls Tryz.prog 64 #[g.v] w (fun e w => e = .returned (iV out) ∧ St w0 ros rs w) := by
 refine enterQ Tryz.func64 rfl Tryz.ntmps64 rfl fun Q j => sR fun _ n => Ya (iV 0) rfl (wK n (sR fun _ o => Ym g.v e0 (bE b fun h p b => yC (yCall FN_65 (a1 e0)) (exact_columns_ok p i a) ?_)))
 rintro _ w ⟨rfl, a⟩
 refine ⟨_, rfl, ?_⟩
 refine yBb (rAl a ZT_3) fun q w a => yT (r_stb1 (vals' := [iV h]) a O_3 e0 e0 rfl rfl rfl rfl) fun w a => wK o (seqQ fun E r l => blockQ fun _ k => sR fun _ s => Ym g.v e0 (yY (ymf (vf := #[]) (vc := #[(pB q)]) a0 (a1 e0)) (bE b fun t u b => yC (yCall FN_108 (a2 e0 e0)) (slices_ContainsFunc_apiBig_ok u i a) ?_)))
 rintro _ w ⟨rfl, a⟩
 refine ⟨_, rfl, ?_⟩
 refine Ya (.bool t) e0 (wK s (cB e0 b (fun x b => ?_) fun x b => ?_))
 ·refine sR fun _ y => Ya (iV 5) rfl (wK y (wp_ret (k _ _ _ (l _ _ _ rfl ?_))))
  cases b
  exact j _ _ _ (fin1r Tryz.results64 ⟨rfl, rfl⟩ ⟨rfl, (a.k10)⟩)
 ·refine sR fun _ z => Ym g.v e0 (yY (yLen SL_22 e0 a (rdI i)) (yY (ygtr e0 rfl) (Ym (.bool (decide ((16 : Int) < (d.length : Int)))) e0 ?_)))
  refine joinW 3 (fun f w => f 17 = .bool ((decide ((16 : Int) < (d.length : Int))) || (decide ((16 : Int) < h))) ∧ St w0 ros rs w) (fun m => ?_) ?_
  ·rcases Bool.eq_false_or_eq_true (decide ((16 : Int) < (d.length : Int))) with c | c
   ·exact gN c (gN c (yY (pt_ (.bool true) e0 c rfl) (m _ _ ⟨(congrArg Value.bool (orT c)), (a.k10)⟩)))
   ·exact yG c (lb_ (iV h) O_3 e0 a R0) (yG c (ygtr e0 rfl) (yY (pf_ (.bool (decide ((16 : Int) < h))) e0 c e0) (m _ _ ⟨(congrArg Value.bool (orF c)), (a.k10)⟩)))
  rintro f w ⟨A, a⟩
  refine Ya (.bool ((decide ((16 : Int) < (d.length : Int))) || (decide ((16 : Int) < h)))) (eh A) (wK z (cB e0 b (fun B b => ?_) fun B b => ?_))
  ·refine sR fun _ C => Ya (iV 6) rfl (wK C (wp_ret (k _ _ _ (l _ _ _ rfl ?_))))
   cases b
   exact j _ _ _ (fin1r Tryz.results64 ⟨rfl, rfl⟩ ⟨rfl, a⟩)
  ·refine wp_skip (k _ _ _ (r _ _ (sR fun _ D => Ya (iV 0) rfl (wK D (wp_ret ?_)))))
   cases b
   exact j _ _ _ (fin1r Tryz.results64 ⟨rfl, rfl⟩ ⟨rfl, a⟩)
end Go.Proofs.YtpfmbaidflhamaaGreatDoor
