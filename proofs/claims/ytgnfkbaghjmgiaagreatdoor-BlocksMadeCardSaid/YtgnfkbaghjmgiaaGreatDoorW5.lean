/- Walks: each function computes its model, printed. -/
import Derived.Test.YtgnfkbaghjmgiaaGreatDoorW4
namespace Go.Proofs.YtgnfkbaghjmgiaaGreatDoor
open Go Sx M
set_option maxRecDepth 100000
set_option maxHeartbeats 40000000
set_option linter.unusedVariables false
attribute [local irreducible] wpList Code.wp Calls DR QR QS LA LS St
variable {w0 : World} {ros : List Fact} {rs : List Res} {w : World}
theorem sparseref01_BitLen_ok {f : Bool} {g : LI} {d : Hdr} {out : Int} (b : sparseref01_BitLen f g = some out) (j : imm (rI .u32) d.v g ∈ ros) (a : St w0 ros rs w) :
  Calls Tryz.prog 104 #[.agg #[.bool f, d.v]] w (fun e w => e = .returned (iV out) ∧ St w0 ros rs w) := by
 refine enterQ Tryz.func104 rfl Tryz.ntmps104 rfl fun Q h => sR fun _ k => yBb (r_box (vals := [.bool f, d.v]) a e0 rfl) fun y w a => Ya (iV 0) rfl (wK k (sR fun _ l => yY (yFb FL_98_1 e0) (yY (lb_ d.v O_96 e0 a R0) (bE b fun m n b => yC (yCall FN_126 (a1 e0)) (sparseref01_trim_ok n j a) ?_))))
 rintro _ w ⟨c, rfl, a⟩
 refine ⟨_, rfl, ?_⟩
 refine Ya c.v e0 (wK l (seqQ fun z o p => sR fun _ q => Ym c.v e0 (yY (yLen SL_96 e0 a rO0) (yY (yeql e0 rfl) (wK q ?_)))))
 refine cIf e0 b (fun r b => ?_) fun r b => ?_
 ·refine sR fun _ s => Ya (iV 0) rfl (wK s (wp_ret (p _ _ _ rfl ?_)))
  cases b
  exact h _ _ _ (fin1r Tryz.results104 ⟨rfl, rfl⟩ ⟨rfl, (a.k1z)⟩)
 ·refine wp_skip (o _ _ (sR fun _ t => Ym c.v e0 (yY (yLen SL_96 e0 a rO0) (yY (ysub e0 rfl) (yY (ymul rfl e0) (Ym c.v e0 (Ym c.v e0 (yY (yLen SL_96 e0 a rO0) (yY (ysub e0 rfl) (bE b fun A i b => yY (yIa SL_96 e0 e0 a rO0 i) ?_))))))))))
  refine yY (yI O_133 e0 a rO0 i) (bE b fun u x b => yC (yCall FN_97 (a1 e0)) (math_bits_Len32_ok x a) ?_)
  rintro _ w ⟨rfl, a⟩
  refine ⟨_, rfl, ?_⟩
  refine yY (yadd e0 e0) (Ya (iV (wa .i64 (wm .i64 32 (ws .i64 (m.length : Int) 1)) u)) e0 (wK t (wp_ret ?_)))
  cases b
  exact h _ _ _ (fin1r Tryz.results104 ⟨rfl, rfl⟩ ⟨rfl, (a.k1z)⟩)
theorem sparseref02_Make_ok {h : Bool} {u : LI} {c : Int} {m : Hdr} {out : Bool × Bool × LI × Int} (b : sparseref02_Make h u c = some out) (D : imm (rI .u32) m.v u ∈ ros) (E : globF ∈ ros) (a : St w0 ros rs w) :
  Calls Tryz.prog 84 #[.agg #[.bool h, m.v], iV c] w (fun e w => ∃ (x : Hdr), e = .returned (.agg #[.bool out.1, .bool out.2.1, x.v, iV out.2.2.2]) ∧ St w0 (imm (rI .u32) x.v out.2.2.1 :: ros) rs w) := by
 refine enterQ Tryz.func84 rfl Tryz.ntmps84 rfl fun Q p => sR fun _ F => yBb (r_box (vals := [.bool h, m.v]) a e0 rfl) fun y w a => yBb (rAl a ZT_100) fun z w a => wK F (sR fun _ G => yY (lbs_ [.bool h, m.v] ST_98 e0 a R1) (bE b fun q H b => yC (yCall FN_103 (a1 e0)) (sparseref01_Norm_ok H D a) ?_))
 rintro _ w ⟨n, rfl, a⟩
 refine ⟨_, rfl, ?_⟩
 refine yBb (rAl a ZT_98) fun A w a => yT (r_stbn (vals' := [.bool q.1, n.v]) (us := [.bool q.1, n.v]) a ST_98 e0 e0 rfl rfl (one_of rfl) rfl) fun w a => wK G (seqQ fun c4 I J => sR fun _ K => yY (yFb FL_98_1 e0) (yY (lb_ n.v O_96 e0 a R0) (yY (yLen SL_96 e0 a rO1) (yY (yeql e0 rfl) (wN ?_)))))
 refine K _ _ ?_
 refine cIf e0 b (fun L b => ?_) fun L b => ?_
 ·refine sR fun _ N => yY (ybuild (us := [.bool false, .bool false, hnil.v, iV 0]) [] SO_100 bp0 rfl) (yT (r_stbn (vals' := [.bool false, .bool false, hnil.v, iV 0]) (us := [.bool false, .bool false, hnil.v, iV 0]) (a.k17) ST_100 e0 e0 rfl rfl (one_of rfl) rfl) fun w a => wK N (wp_ret (J _ _ _ rfl ?_)))
  cases b
  replace a := a.immNh (rI .u32)
  exact p _ _ _ (fin1r Tryz.results84 (rcs2 rfl rfl a R0 ST_100 rfl) ⟨_, rfl, (a.k2h)⟩)
 ·refine wp_skip (I _ _ (seqQ fun c5 O R => sR fun _ S => Ym (iV c) e0 (yY (ygtr e0 rfl) (wK S ?_))))
  refine cIf e0 b (fun T b => ?_) fun T b => ?_
  ·refine sR fun _ U => bE b fun k V b => yC (yCall FN_83 a0) (sparseref02_Bad_ok V a) ?_
   rintro _ w ⟨rfl, a⟩
   refine ⟨_, rfl, ?_⟩
   refine yT (r_stbn (vals' := [.bool k.1, .bool k.2.1, hnil.v, iV k.2.2]) (us := [.bool k.1, .bool k.2.1, hnil.v, iV k.2.2]) (a.k17) ST_100 e0 e0 rfl rfl (one_of rfl) rfl) fun w a => wK U (wp_ret (R _ _ _ rfl ?_))
   cases b
   replace a := a.immNh (rI .u32)
   exact p _ _ _ (fin1r Tryz.results84 (rcs2 rfl rfl a R0 ST_100 rfl) ⟨_, rfl, (a.k2h)⟩)
  ·refine wp_skip (O _ _ (sR fun _ W => yY (lbs_ [.bool q.1, n.v] ST_98 e0 a R0) (bE b fun d X b => ?_)))
   replace a := (a.k11).fz
   refine yC (yCall FN_111 (a1 e0)) (sparseref01_TrailingZeros_ok X F0 (mtF E) a) ?_
   rintro _ w ⟨rfl, a⟩
   refine ⟨_, rfl, ?_⟩
   refine Ya (iV d) e0 (wK W (sR fun _ Z => Ym (iV c) e0 (Ym (iV d) e0 (yY (yadd e0 e0) (Ya (iV (wa .i64 c d)) e0 (wK Z (sR fun _ a3 => yY (lbs_ [.bool q.1, n.v] ST_98 e0 a R0) ?_)))))))
   refine bE b fun s a4 b => yC (yCall FN_82 (a1 e0)) (sparseref01_Abs_ok a4 F0 a) ?_
   rintro _ w ⟨t, rfl, a⟩
   refine ⟨_, rfl, ?_⟩
   refine yT (r_stbn (vals' := [.bool s.1, t.v]) (us := [.bool s.1, t.v]) (a.k11) ST_98 e0 e0 rfl rfl (one_of rfl) rfl) fun w a => wK a3 (sR fun _ a5 => yY (lbs_ [.bool s.1, t.v] ST_98 e0 a R0) (Ym (iV d) e0 (bE b fun o a6 b => ?_)))
   replace a := (a.k11).fz
   refine yC (yCall FN_112 (a2 e0 e0)) (sparseref02_down_ok a6 F0 a) ?_
   rintro _ w ⟨i, rfl, a⟩
   refine ⟨_, rfl, ?_⟩
   refine yT (r_stbn (vals' := [.bool o.1, i.v]) (us := [.bool o.1, i.v]) (a.k11) ST_98 e0 e0 rfl rfl (one_of rfl) rfl) fun w a => wK a5 (seqQ fun c6 a7 a8 => sR fun _ a9 => Ym (iV (wa .i64 c d)) e0 (yY (ylss e0 rfl) (Ym (.bool (decide ((wa .i64 c d) < (-65536)))) e0 (bE b fun b0 j b => ?_))))
   refine joinW 6 (fun f w => f 2 = (pB y) ∧ f 4 = (pB z) ∧ f 5 = (pB A) ∧ f 7 = iV (wa .i64 c d) ∧ f 36 = .bool b0 ∧ St w0 (imm (rI .u32) i.v o.2 :: ros) (box y 98 [.bool h, m.v] :: box z 100 [.bool false, .bool false, hnil.v, iV 0] :: box A 98 [.bool o.1, i.v] :: rs) w) (fun B => ?_) ?_
   ·rcases iteS j with ⟨g, j⟩ | ⟨g, j⟩
    ·refine gN (dT g) (gN (dT g) (gN (dT g) (gN (dT g) (gN (dT g) (yY (pt_ (.bool true) e0 (dT g) rfl) ?_)))))
     cases j
     replace a := (a.k11).fz
     exact B _ _ ⟨rfl, rfl, rfl, rfl, rfl, ((a.k26).facts (allC F0 (allT (allT (allT allI)))))⟩
    ·refine yG (dF g) (m_ (iV (wa .i64 c d)) e0) (yG (dF g) (lbs_ [.bool o.1, i.v] ST_98 e0 a R0) (bE j fun b1 b2 j => ?_))
     replace a := (a.k11).fz
     refine Yc (wG (dF g)) rfl (yCall FN_104 (a1 e0)) (sparseref01_BitLen_ok b2 F0 a) ?_
     rintro _ w ⟨rfl, a⟩
     refine ⟨_, rfl, ?_⟩
     refine yG (dF g) (yadd e0 e0) (yG (dF g) (ygtr e0 rfl) (yY (pf_ (.bool (decide ((65536 : Int) < (wa .i64 (wa .i64 c d) b1)))) e0 (dF g) e0) ?_))
     cases j
     exact B _ _ ⟨rfl, rfl, rfl, rfl, rfl, ((a.k26).facts (allC F0 (allT (allT (allT allI)))))⟩
   rintro f w ⟨b3, r, C, b4, b7, a⟩
   refine wK a9 (cB (eh b7) b (fun b8 b => ?_) fun b8 b => ?_)
   ·refine sR fun _ c0 => bE b fun l c1 b => yC (yCall FN_83 a0) (sparseref02_Bad_ok c1 a) ?_
    rintro _ w ⟨rfl, a⟩
    refine ⟨_, rfl, ?_⟩
    refine yT (r_stbn (vals' := [.bool l.1, .bool l.2.1, hnil.v, iV l.2.2]) (us := [.bool l.1, .bool l.2.1, hnil.v, iV l.2.2]) (a.k11) ST_100 (eh r) e0 rfl rfl (one_of rfl) rfl) fun w a => wK c0 (wp_ret (a8 _ _ _ rfl ?_))
    cases b
    replace a := a.immNh (rI .u32)
    exact p _ _ _ (fin1r Tryz.results84 (rcs2 rfl r a R0 ST_100 rfl) ⟨_, rfl, ((a.k2o).facts (allC F0 (allT (allT allI))))⟩)
   ·refine wp_skip (a7 _ _ (sR fun _ c2 => yY (yFb FL_98_0 (eh b3)) (yY (lb_ (.bool h) O_4 e0 a R0) (yY (yFb FL_98_0 (eh C)) (yT (r_stb1 (vals' := [.bool h, i.v]) (a.k17) O_4 e0 e0 rfl rfl rfl rfl) fun w a => wK c2 (sR fun _ c3 => yY (lbs_ [.bool h, i.v] ST_98 (eh C) a R0) ?_))))))
    refine Ym (iV (wa .i64 c d)) (eh b4) (yY (ybuild (us := [.bool false, .bool h, i.v, iV (wa .i64 c d)]) [(1, .agg #[.bool h, i.v]), (2, iV (wa .i64 c d))] SO_100 (bp2 e0 e0) rfl) (yT (r_stbn (vals' := [.bool false, .bool h, i.v, iV (wa .i64 c d)]) (us := [.bool false, .bool h, i.v, iV (wa .i64 c d)]) (a.k17) ST_100 (eh r) e0 rfl rfl (one_of rfl) rfl) fun w a => wK c3 (wp_ret ?_)))
    cases b
    exact p _ _ _ (fin1r Tryz.results84 (rcs2 rfl r a R0 ST_100 rfl) ⟨_, rfl, (a.k2o)⟩)
theorem sparseref02_FromInt_ok {d : Int} {out : Bool × Bool × LI × Int} (c : sparseref02_FromInt d = some out) (h : globF ∈ ros) (a : St w0 ros rs w) :
  Calls Tryz.prog 60 #[iV d] w (fun e w => ∃ (f : Hdr), e = .returned (.agg #[.bool out.1, .bool out.2.1, f.v, iV out.2.2.2]) ∧ St w0 (imm (rI .u32) f.v out.2.2.1 :: ros) rs w) := by
 refine enterQ Tryz.func60 rfl Tryz.ntmps60 rfl fun Q i => sR fun _ j => yBb (rAl a ZT_100) fun n w a => wK j (sR fun _ k => Ym (iV d) e0 (bE c fun o l c => yC (yCall FN_85 (a1 e0)) (sparseref01_FromInt_ok l a) ?_))
 rintro _ w ⟨p, rfl, a⟩
 refine ⟨_, rfl, ?_⟩
 refine bE c fun b m c => ?_
 replace a := a.fz
 refine yC (yCall FN_84 (a2 e0 rfl)) (sparseref02_Make_ok m F0 (mtF h) a) ?_
 rintro _ w ⟨g, rfl, a⟩
 refine ⟨_, rfl, ?_⟩
 refine yT (r_stbn (vals' := [.bool b.1, .bool b.2.1, g.v, iV b.2.2.2]) (us := [.bool b.1, .bool b.2.1, g.v, iV b.2.2.2]) a ST_100 e0 e0 rfl rfl (one_of rfl) rfl) fun w a => wK k (wp_ret ?_)
 cases c
 exact i _ _ _ (fin1r Tryz.results60 (rcs2 rfl rfl a R0 ST_100 rfl) ⟨_, rfl, ((a.k10).facts (allC F0 (allT (allT allI))))⟩)
theorem sparseref02_Norm_ok {f g : Bool} {j : LI} {h : Int} {i : Hdr} {out : Bool × Bool × LI × Int} (b : sparseref02_Norm f g j h = some out) (n : imm (rI .u32) i.v j ∈ ros) (o : globF ∈ ros) (a : St w0 ros rs w) :
  Calls Tryz.prog 79 #[.agg #[.bool f, .bool g, i.v, iV h]] w (fun e w => ∃ (k : Hdr), e = .returned (.agg #[.bool out.1, .bool out.2.1, k.v, iV out.2.2.2]) ∧ St w0 (imm (rI .u32) k.v out.2.2.1 :: ros) rs w) := by
 refine enterQ Tryz.func79 rfl Tryz.ntmps79 rfl fun Q l => sR fun _ p => yBb (r_box (vals := [.bool f, .bool g, i.v, iV h]) a e0 rfl) fun A w a => yBb (rAl a ZT_100) fun B w a => wK p (seqQ fun C q r => sR fun _ s => yY (yFb FL_100_0 e0) (yY (lb_ (.bool f) O_4 e0 a R1) ?_))
 refine wK s (cB e0 b (fun t b => ?_) fun t b => ?_)
 ·refine sR fun _ u => bE b fun c x b => yC (yCall FN_83 a0) (sparseref02_Bad_ok x a) ?_
  rintro _ w ⟨rfl, a⟩
  refine ⟨_, rfl, ?_⟩
  refine yT (r_stbn (vals' := [.bool c.1, .bool c.2.1, hnil.v, iV c.2.2]) (us := [.bool c.1, .bool c.2.1, hnil.v, iV c.2.2]) a ST_100 e0 e0 rfl rfl (one_of rfl) rfl) fun w a => wK u (wp_ret (r _ _ _ rfl ?_))
  cases b
  replace a := a.immNh (rI .u32)
  exact l _ _ _ (fin1r Tryz.results79 (rcs2 rfl rfl a R0 ST_100 rfl) ⟨_, rfl, (a.k1z)⟩)
 ·refine wp_skip (q _ _ (sR fun _ y => yY (yFb FL_100_1 e0) (yY (lbs_ [.bool g, i.v] ST_98 e0 a R1) (yY (yFb FL_100_2 e0) (yY (lb_ (iV h) O_3 e0 a R1) (bE b fun d z b => yC (yCall FN_84 (a2 e0 e0)) (sparseref02_Make_ok z n o a) ?_))))))
  rintro _ w ⟨m, rfl, a⟩
  refine ⟨_, rfl, ?_⟩
  refine yT (r_stbn (vals' := [.bool d.1, .bool d.2.1, m.v, iV d.2.2.2]) (us := [.bool d.1, .bool d.2.1, m.v, iV d.2.2.2]) a ST_100 e0 e0 rfl rfl (one_of rfl) rfl) fun w a => wK y (wp_ret ?_)
  cases b
  exact l _ _ _ (fin1r Tryz.results79 (rcs2 rfl rfl a R0 ST_100 rfl) ⟨_, rfl, (a.k1z)⟩)
theorem sparseref01_Sign_ok {d : Bool} {j : LI} {f : Hdr} {out : Int} (b : sparseref01_Sign d j = some out) (l : imm (rI .u32) f.v j ∈ ros) (a : St w0 ros rs w) :
  Calls Tryz.prog 80 #[.agg #[.bool d, f.v]] w (fun e w => e = .returned (iV out) ∧ St w0 ros rs w) := by
 refine enterQ Tryz.func80 rfl Tryz.ntmps80 rfl fun Q g => sR fun _ m => yBb (r_box (vals := [.bool d, f.v]) a e0 rfl) fun z w a => Ya (iV 0) rfl (wK m (sR fun _ n => yY (lbs_ [.bool d, f.v] ST_98 e0 a R0) (bE b fun c o b => yC (yCall FN_103 (a1 e0)) (sparseref01_Norm_ok o l a) ?_)))
 rintro _ w ⟨h, rfl, a⟩
 refine ⟨_, rfl, ?_⟩
 refine yT (r_stbn (vals' := [.bool c.1, h.v]) (us := [.bool c.1, h.v]) (a.k11) ST_98 e0 e0 rfl rfl (one_of rfl) rfl) fun w a => wK n (seqQ fun A p k => blockQ fun _ i => sR fun _ q => yY (yFb FL_98_1 e0) (yY (lb_ h.v O_96 e0 a R0) (yY (yLen SL_96 e0 a rO1) (yY (yeql e0 rfl) (Ya (.bool (decide ((c.2.length : Int) = 0))) e0 (wN ?_))))))
 refine q _ _ ?_
 refine cIf e0 b (fun r b => ?_) fun r b => ?_
 ·refine sR fun _ s => Ya (iV 0) rfl (wK s (wp_ret (i _ _ _ (k _ _ _ rfl ?_))))
  cases b
  exact g _ _ _ (fin1r Tryz.results80 ⟨rfl, rfl⟩ ⟨rfl, (a.k1z)⟩)
 ·refine sR fun _ t => yY (yFb FL_98_0 e0) (yY (lb_ (.bool c.1) O_4 e0 a R0) (Ya (.bool c.1) e0 (wK t (cB e0 b (fun u b => ?_) fun u b => ?_))))
  ·refine sR fun _ x => Ya (iV (-1)) rfl (wK x (wp_ret (i _ _ _ (k _ _ _ rfl ?_))))
   cases b
   exact g _ _ _ (fin1r Tryz.results80 ⟨rfl, rfl⟩ ⟨rfl, (a.k1z)⟩)
  ·refine wp_skip (i _ _ _ (p _ _ (sR fun _ y => Ya (iV 1) rfl (wK y (wp_ret ?_)))))
   cases b
   exact g _ _ _ (fin1r Tryz.results80 ⟨rfl, rfl⟩ ⟨rfl, (a.k1z)⟩)
theorem sparseref02_Scale_ok {m n : Bool} {z : LI} {o d : Int} {p : Hdr} {out : Bool × Bool × LI × Int} (c : sparseref02_Scale m n z o d = some out) (G : imm (rI .u32) p.v z ∈ ros) (A : globF ∈ ros) (a : St w0 ros rs w) :
  Calls Tryz.prog 59 #[.agg #[.bool m, .bool n, p.v, iV o], iV d] w (fun e w => ∃ (B : Hdr), e = .returned (.agg #[.bool out.1, .bool out.2.1, B.v, iV out.2.2.2]) ∧ St w0 (imm (rI .u32) B.v out.2.2.1 :: ros) rs w) := by
 refine enterQ Tryz.func59 rfl Tryz.ntmps59 rfl fun Q x => sR fun _ H => yBb (r_box (vals := [.bool m, .bool n, p.v, iV o]) a e0 rfl) fun q w a => yBb (rAl a ZT_100) fun r w a => wK H (sR fun _ I => yY (lbs_ [.bool m, .bool n, p.v, iV o] ST_100 e0 a R1) (bE c fun b J c => yC (yCall FN_79 (a1 e0)) (sparseref02_Norm_ok J G A a) ?_))
 rintro _ w ⟨g, rfl, a⟩
 refine ⟨_, rfl, ?_⟩
 refine yT (r_stbn (vals' := [.bool b.1, .bool b.2.1, g.v, iV b.2.2.2]) (us := [.bool b.1, .bool b.2.1, g.v, iV b.2.2.2]) (a.k11) ST_100 e0 e0 rfl rfl (one_of rfl) rfl) fun w a => wK I (seqQ fun b0 K L => sR fun _ N => yY (yFb FL_100_0 e0) (yY (lb_ (.bool b.1) O_4 e0 a R0) (Ym (.bool b.1) e0 (bE c fun O j c => ?_))))
 refine joinW 5 (fun f w => f 1 = iV d ∧ f 2 = (pB q) ∧ f 4 = (pB r) ∧ f 14 = .bool O ∧ St w0 (imm (rI .u32) g.v b.2.2.1 :: ros) (box q 100 [.bool b.1, .bool b.2.1, g.v, iV b.2.2.2] :: box r 100 [.bool false, .bool false, hnil.v, iV 0] :: rs) w) (fun C => ?_) ?_
 ·rcases iteS j with ⟨h, j⟩ | ⟨h, j⟩
  ·refine gN h (gN h (gN h (gN h (yY (pt_ (.bool true) e0 h rfl) ?_))))
   cases j
   exact C _ _ ⟨rfl, rfl, rfl, rfl, a⟩
  ·refine yG (bfalse h) (yFb FL_100_1 e0) (yG (bfalse h) (lbs_ [.bool b.2.1, g.v] ST_98 e0 a R0) (bE j fun R S j => Yc (wG (bfalse h)) rfl (yCall FN_80 (a1 e0)) (sparseref01_Sign_ok S F0 a) ?_))
   rintro _ w ⟨rfl, a⟩
   refine ⟨_, rfl, ?_⟩
   refine yG (bfalse h) (yeql e0 rfl) (yY (pf_ (.bool (decide (R = 0))) e0 (bfalse h) e0) ?_)
   cases j
   exact C _ _ ⟨rfl, rfl, rfl, rfl, a⟩
 rintro f w ⟨s, y, t, T, a⟩
 refine wK N (cB (eh T) c (fun U c => ?_) fun U c => ?_)
 ·refine sR fun _ V => yY (lbs_ [.bool b.1, .bool b.2.1, g.v, iV b.2.2.2] ST_100 (eh y) a R0) (yT (r_stbn (vals' := [.bool b.1, .bool b.2.1, g.v, iV b.2.2.2]) (us := [.bool b.1, .bool b.2.1, g.v, iV b.2.2.2]) (a.k11) ST_100 (eh t) e0 rfl rfl (one_of rfl) rfl) fun w a => wK V (wp_ret (L _ _ _ rfl ?_)))
  cases c
  exact x _ _ _ (fin1r Tryz.results59 (rcs2 rfl t a R0 ST_100 rfl) ⟨_, rfl, (a.k1z)⟩)
 ·refine wp_skip (K _ _ (seqQ fun b1 W X => sR fun _ Z => Ym (iV d) (eh s) (yY (ygtr e0 rfl) (Ym (.bool (decide ((262144 : Int) < d))) e0 ?_))))
  refine joinW 3 (fun f w => f 1 = iV d ∧ f 2 = (pB q) ∧ f 4 = (pB r) ∧ f 21 = .bool ((decide ((262144 : Int) < d)) || (decide (d < (-262144)))) ∧ St w0 (imm (rI .u32) g.v b.2.2.1 :: ros) (box q 100 [.bool b.1, .bool b.2.1, g.v, iV b.2.2.2] :: box r 100 [.bool false, .bool false, hnil.v, iV 0] :: rs) w) (fun D => ?_) ?_
  ·rcases Bool.eq_false_or_eq_true (decide ((262144 : Int) < d)) with i | i
   ·exact gN i (gN i (yY (pt_ (.bool true) e0 i rfl) (D _ _ ⟨s, y, t, (congrArg Value.bool (orT i)), a⟩)))
   ·exact yG i (m_ (iV d) (eh s)) (yG i (ylss e0 rfl) (yY (pf_ (.bool (decide (d < (-262144)))) e0 i e0) (D _ _ ⟨s, y, t, (congrArg Value.bool (orF i)), a⟩)))
  rintro f w ⟨a3, E, u, a4, a⟩
  refine wK Z (cB (eh a4) c (fun a5 c => ?_) fun a5 c => ?_)
  ·refine sR fun _ a6 => bE c fun k a7 c => yC (yCall FN_83 a0) (sparseref02_Bad_ok a7 a) ?_
   rintro _ w ⟨rfl, a⟩
   refine ⟨_, rfl, ?_⟩
   refine yT (r_stbn (vals' := [.bool k.1, .bool k.2.1, hnil.v, iV k.2.2]) (us := [.bool k.1, .bool k.2.1, hnil.v, iV k.2.2]) (a.k11) ST_100 (eh u) e0 rfl rfl (one_of rfl) rfl) fun w a => wK a6 (wp_ret (X _ _ _ rfl ?_))
   cases c
   replace a := a.immNh (rI .u32)
   exact x _ _ _ (fin1r Tryz.results59 (rcs2 rfl u a R0 ST_100 rfl) ⟨_, rfl, ((a.k1z).facts (allC F0 (allT (allT allI))))⟩)
  ·refine wp_skip (W _ _ (sR fun _ a8 => yY (yFb FL_100_1 (eh E)) (yY (lbs_ [.bool b.2.1, g.v] ST_98 e0 a R0) (yY (yFb FL_100_2 (eh E)) (yY (lb_ (iV b.2.2.2) O_3 e0 a R0) (Ym (iV d) (eh a3) (yY (yadd e0 e0) (bE c fun l a9 c => yC (yCall FN_84 (a2 e0 e0)) (sparseref02_Make_ok a9 F0 (mtF A) a) ?_))))))))
   rintro _ w ⟨F, rfl, a⟩
   refine ⟨_, rfl, ?_⟩
   refine yT (r_stbn (vals' := [.bool l.1, .bool l.2.1, F.v, iV l.2.2.2]) (us := [.bool l.1, .bool l.2.1, F.v, iV l.2.2.2]) (a.k11) ST_100 (eh u) e0 rfl rfl (one_of rfl) rfl) fun w a => wK a8 (wp_ret ?_)
   cases c
   exact x _ _ _ (fin1r Tryz.results59 (rcs2 rfl u a R0 ST_100 rfl) ⟨_, rfl, ((a.k1z).facts (allC F0 (allT (allT allI))))⟩)
theorem sparseref03_signed_ok {c : Bool} {a out : Int} (b : sparseref03_signed c a = some out) (d : St w0 ros rs w) :
  Calls Tryz.prog 109 #[.bool c, .int .u64 a] w (fun e w => e = .returned (.int .u64 out) ∧ St w0 ros rs w) := by
 refine enterQ Tryz.func109 rfl Tryz.ntmps109 rfl fun Q f => sR fun _ g => Ya (.int .u64 0) rfl (wK g (seqQ fun n h i => sR fun _ j => Ym (.bool c) e0 (wK j (cB e0 b (fun k b => ?_) fun k b => ?_))))
 ·refine sR fun _ l => Ym (.int .u64 a) e0 (yY (yor e0 rfl) (Ya (.int .u64 (wor .u64 a 9223372036854775808)) e0 (wK l (wp_ret (i _ _ _ rfl ?_)))))
  cases b
  exact f _ _ _ (fin1r Tryz.results109 ⟨rfl, rfl⟩ ⟨rfl, d⟩)
 ·refine wp_skip (h _ _ (sR fun _ m => Ym (.int .u64 a) e0 (Ya (.int .u64 a) e0 (wK m (wp_ret ?_)))))
  cases b
  exact f _ _ _ (fin1r Tryz.results109 ⟨rfl, rfl⟩ ⟨rfl, d⟩)
theorem sparseref03_over_ok {b : Bool} {a out : Int} (h : sparseref03_over b a = some out) (c : St w0 ros rs w) :
  Calls Tryz.prog 105 #[.bool b, iV a] w (fun e w => e = .returned (.int .u64 out) ∧ St w0 ros rs w) := by
 refine enterQ Tryz.func105 rfl Tryz.ntmps105 rfl fun Q l => sR fun _ r => Ya (.int .u64 0) rfl (wK r (seqQ fun O s t => sR fun _ u => Ym (iV a) e0 (yY (yeql e0 rfl) (Ym (.bool (decide (a = 3))) e0 ?_))))
 refine joinW 7 (fun f w => f 0 = .bool b ∧ f 1 = iV a ∧ f 14 = .bool ((decide (a = 3)) || ((decide (a = 1)) && (!b))) ∧ St w0 ros rs w) (fun m => ?_) ?_
 ·rcases Bool.eq_false_or_eq_true (decide (a = 3)) with d | d
  ·exact gN d (gN d (gN d (Gn (wxu rfl rfl rfl) rfl (Gn (wxu rfl rfl rfl) rfl (gN d (yY (pt_ (.bool true) e0 d rfl) (m _ _ ⟨rfl, rfl, (congrArg Value.bool (orT d)), c⟩)))))))
  ·refine yG d (m_ (iV a) e0) (yG d (yeql e0 rfl) (yG d (m_ (.bool (decide (a = 1))) e0) ?_))
   refine joinW 3 (fun f w => f 0 = .bool b ∧ f 1 = iV a ∧ f 7 = .bool (decide (a = 3)) ∧ f 13 = .bool ((decide (a = 1)) && (!b)) ∧ St w0 ros rs w) (fun n => ?_) ?_
   ·rcases Bool.eq_false_or_eq_true (decide (a = 1)) with i | i
    ·exact yG i (m_ (.bool b) e0) (yG i (ynot e0) (yG d (pt_ (.bool (!b)) e0 i e0) (n _ _ ⟨rfl, rfl, rfl, (congrArg Value.bool (andT i)), c⟩)))
    ·exact gN i (gN i (yG d (pf_ (.bool false) e0 i rfl) (n _ _ ⟨rfl, rfl, rfl, (congrArg Value.bool (andF i)), c⟩)))
   rintro f w ⟨v, x, y, z, c⟩
   exact yY (pf_ (.bool ((decide (a = 1)) && (!b))) (eh y) d (eh z)) (m _ _ ⟨v, x, (congrArg Value.bool (orF d)), c⟩)
 rintro f w ⟨k, A, B, c⟩
 refine Ym (.bool ((decide (a = 3)) || ((decide (a = 1)) && (!b)))) (eh B) ?_
 refine joinW 6 (fun f w => f 0 = .bool b ∧ f 21 = .bool (((decide (a = 3)) || ((decide (a = 1)) && (!b))) || ((decide (a = 2)) && b)) ∧ St w0 ros rs w) (fun o => ?_) ?_
 ·rcases Bool.eq_false_or_eq_true ((decide (a = 3)) || ((decide (a = 1)) && (!b))) with g | g
  ·exact gN g (gN g (gN g (Gn (wxu rfl rfl rfl) rfl (gN g (yY (pt_ (.bool true) e0 g rfl) (o _ _ ⟨k, (congrArg Value.bool (orT g)), c⟩))))))
  ·refine yG g (m_ (iV a) (eh A)) (yG g (yeql e0 rfl) (yG g (m_ (.bool (decide (a = 2))) e0) ?_))
   refine joinW 2 (fun f w => f 0 = .bool b ∧ f 15 = .bool ((decide (a = 3)) || ((decide (a = 1)) && (!b))) ∧ f 20 = .bool ((decide (a = 2)) && b) ∧ St w0 ros rs w) (fun p => ?_) ?_
   ·rcases Bool.eq_false_or_eq_true (decide (a = 2)) with j | j
    ·exact yG j (m_ (.bool b) (eh k)) (yG g (pt_ (.bool b) e0 j e0) (p _ _ ⟨k, rfl, (congrArg Value.bool (andT j)), c⟩))
    ·exact gN j (yG g (pf_ (.bool false) e0 j rfl) (p _ _ ⟨k, rfl, (congrArg Value.bool (andF j)), c⟩))
   rintro f w ⟨C, D, E, c⟩
   exact yY (pf_ (.bool ((decide (a = 2)) && b)) (eh D) g (eh E)) (o _ _ ⟨C, (congrArg Value.bool (orF g)), c⟩)
 rintro f w ⟨q, F, c⟩
 refine wK u (cB (eh F) h (fun G h => ?_) fun G h => ?_)
 ·refine sR fun _ H => Ym (.bool b) (eh q) (bE h fun I J h => yC (yCall FN_109 (a2 e0 rfl)) (sparseref03_signed_ok J c) ?_)
  rintro _ w ⟨rfl, c⟩
  refine ⟨_, rfl, ?_⟩
  refine Ya (.int .u64 I) e0 (wK H (wp_ret (t _ _ _ rfl ?_)))
  cases h
  exact l _ _ _ (fin1r Tryz.results105 ⟨rfl, rfl⟩ ⟨rfl, c⟩)
 ·refine wp_skip (s _ _ (sR fun _ K => Ym (.bool b) (eh q) (bE h fun L N h => yC (yCall FN_109 (a2 e0 rfl)) (sparseref03_signed_ok N c) ?_)))
  rintro _ w ⟨rfl, c⟩
  refine ⟨_, rfl, ?_⟩
  refine Ya (.int .u64 L) e0 (wK K (wp_ret ?_))
  cases h
  exact l _ _ _ (fin1r Tryz.results105 ⟨rfl, rfl⟩ ⟨rfl, c⟩)
theorem sparseref01_Lost_ok {f : Bool} {i : LI} {g : Int} {d : Hdr} {out : Bool} (b : sparseref01_Lost f i g = some out) (j : imm (rI .u32) d.v i ∈ ros) (a : St w0 ros rs w) :
  Calls Tryz.prog 127 #[.agg #[.bool f, d.v], iV g] w (fun e w => e = .returned (.bool out) ∧ St w0 ros rs w) := by
 refine enterQ Tryz.func127 rfl Tryz.ntmps127 rfl fun Q k => sR fun _ l => yBb (r_box (vals := [.bool f, d.v]) a e0 rfl) fun q w a => Ya (.bool false) rfl (wK l (sR fun _ m => yY (yFb FL_98_1 e0) (yY (lb_ d.v O_96 e0 a R0) (bE b fun r n b => yC (yCall FN_126 (a1 e0)) (sparseref01_trim_ok n j a) ?_))))
 rintro _ w ⟨s, rfl, a⟩
 refine ⟨_, rfl, ?_⟩
 refine Ym (iV g) e0 (bE b fun c o b => ?_)
 replace a := a.fz
 refine yC (yCall FN_131 (a2 e0 e0)) (sparseref01_shr_ok o F0 a) ?_
 rintro _ w ⟨h, rfl, a⟩
 refine ⟨_, rfl, ?_⟩
 refine Ym (.tuple #[h.v, .bool c.2]) e0 (yY (x_ h.v e0) (yY (x_ (.bool c.2) e0) (Ya h.v e0 (Ya (.bool c.2) e0 (wK m (sR fun _ p => Ym (.bool c.2) e0 (Ya (.bool c.2) e0 (wK p (wp_ret ?_)))))))))
 cases b
 exact k _ _ _ (fin1r Tryz.results127 ⟨rfl, rfl⟩ ⟨rfl, ((a.k1z).facts (allT allI))⟩)
theorem sparseref02_Up_ok {i : Bool} {a : Int} {g : Bool} {j : Int} {out : Bool} (c : sparseref02_Up i a g j = some out) (d : St w0 ros rs w) :
  Calls Tryz.prog 128 #[.bool i, iV a, .bool g, iV j] w (fun e w => e = .returned (.bool out) ∧ St w0 ros rs w) := by
 refine enterQ Tryz.func128 rfl Tryz.ntmps128 rfl fun Q k => sR fun _ p => Ya (.bool false) rfl (wK p (seqQ fun G q m => sR fun _ r => Ym (iV j) e0 (wK r (blockQ fun _ l => sQ fun _ s => ?_))))
 refine wR (yY (yeql e0 rfl) (Ya (.bool (decide (j = 1))) e0 (wK s ?_)))
 refine cIf e0 c (fun t c => ?_) fun t c => ?_
 ·refine sR fun _ u => Ym (.bool i) e0 (Ya (.bool i) e0 (wK u (wp_ret (l _ _ _ (m _ _ _ rfl ?_)))))
  cases c
  exact k _ _ _ (fin1r Tryz.results128 ⟨rfl, rfl⟩ ⟨rfl, d⟩)
 ·refine sR fun _ v => yY (yeql e0 rfl) (Ya (.bool (decide (j = 2))) e0 (wK v ?_))
  refine cIf e0 c (fun x c => ?_) fun x c => ?_
  ·refine sR fun _ y => Ym (.bool i) e0 (yY (ynot e0) (Ya (.bool (!i)) e0 (wK y (wp_ret (l _ _ _ (m _ _ _ rfl ?_))))))
   cases c
   exact k _ _ _ (fin1r Tryz.results128 ⟨rfl, rfl⟩ ⟨rfl, d⟩)
  ·refine sR fun _ z => yY (yeql e0 rfl) (Ya (.bool (decide (j = 3))) e0 (wK z ?_))
   refine cIf e0 c (fun A c => ?_) fun A c => ?_
   ·refine sR fun _ B => Ya (.bool false) rfl (wK B (wp_ret (l _ _ _ (m _ _ _ rfl ?_))))
    cases c
    exact k _ _ _ (fin1r Tryz.results128 ⟨rfl, rfl⟩ ⟨rfl, d⟩)
   ·refine wp_skip (l _ _ _ (q _ _ (sR fun _ C => Ym (iV a) e0 (yY (ygtr e0 rfl) (Ym (.bool (decide ((0 : Int) < a))) e0 ?_)))))
    refine joinW 6 (fun f w => f 27 = .bool ((decide ((0 : Int) < a)) || ((decide (a = 0)) && g)) ∧ St w0 ros rs w) (fun n => ?_) ?_
    ·rcases Bool.eq_false_or_eq_true (decide ((0 : Int) < a)) with b | b
     ·exact gN b (gN b (gN b (Gn (wxu rfl rfl rfl) rfl (gN b (yY (pt_ (.bool true) e0 b rfl) (n _ _ ⟨(congrArg Value.bool (orT b)), d⟩))))))
     ·refine yG b (m_ (iV a) e0) (yG b (yeql e0 rfl) (yG b (m_ (.bool (decide (a = 0))) e0) ?_))
      refine joinW 2 (fun f w => f 21 = .bool (decide ((0 : Int) < a)) ∧ f 26 = .bool ((decide (a = 0)) && g) ∧ St w0 ros rs w) (fun o => ?_) ?_
      ·rcases Bool.eq_false_or_eq_true (decide (a = 0)) with h | h
       ·exact yG h (m_ (.bool g) e0) (yG b (pt_ (.bool g) e0 h e0) (o _ _ ⟨rfl, (congrArg Value.bool (andT h)), d⟩))
       ·exact gN h (yG b (pf_ (.bool false) e0 h rfl) (o _ _ ⟨rfl, (congrArg Value.bool (andF h)), d⟩))
      rintro f w ⟨D, E, d⟩
      exact yY (pf_ (.bool ((decide (a = 0)) && g)) (eh D) b (eh E)) (n _ _ ⟨(congrArg Value.bool (orF b)), d⟩)
    rintro f w ⟨F, d⟩
    refine Ya (.bool ((decide ((0 : Int) < a)) || ((decide (a = 0)) && g))) (eh F) (wK C (wp_ret ?_))
    cases c
    exact k _ _ _ (fin1r Tryz.results128 ⟨rfl, rfl⟩ ⟨rfl, d⟩)
theorem sparseref02_Cut_ok {i l : Bool} {a0 : LI} {m : Int} {n : Bool} {j : Int} {o : Hdr} {out : Bool × LI} (b : sparseref02_Cut i l a0 m n j = some out) (D : imm (rI .u32) o.v a0 ∈ ros) (a3 : globF ∈ ros) (a : St w0 ros rs w) :
  Calls Tryz.prog 106 #[.bool i, .agg #[.bool l, o.v], iV m, .bool n, iV j] w (fun e w => ∃ (a5 : Hdr), e = .returned (.agg #[.bool out.1, a5.v]) ∧ St w0 (imm (rI .u32) a5.v out.2 :: ros) rs w) := by
 refine enterQ Tryz.func106 rfl Tryz.ntmps106 rfl fun Q a6 => sR fun _ d0 => yBb (r_box (vals := [.bool l, o.v]) a e0 rfl) fun E w a => yBb (rAl a ZT_98) fun g w a => wK d0 (sR fun _ d1 => yY (lbs_ [.bool l, o.v] ST_98 e0 a R1) (Ym (iV m) e0 (bE b fun c d2 b => ?_)))
 refine yC (yCall FN_112 (a2 e0 e0)) (sparseref02_down_ok d2 D a) ?_
 rintro _ w ⟨d, rfl, a⟩
 refine ⟨_, rfl, ?_⟩
 refine yBb (rAl a ZT_98) fun h w a => yT (r_stbn (vals' := [.bool c.1, d.v]) (us := [.bool c.1, d.v]) a ST_98 e0 e0 rfl rfl (one_of rfl) rfl) fun w a => wK d1 (sR fun _ d3 => yY (lbs_ [.bool l, o.v] ST_98 e0 a R3) (Ym (iV m) e0 (bE b fun z d4 b => yC (yCall FN_127 (a2 e0 e0)) (sparseref01_Lost_ok d4 D a) ?_)))
 rintro _ w ⟨rfl, a⟩
 refine ⟨_, rfl, ?_⟩
 refine Ya (.bool z) e0 (wK d3 (seqQ fun k0 d5 d6 => sR fun _ d7 => Ym (.bool z) e0 (yY (ynot e0) (Ym (.bool (!z)) e0 ?_))))
 refine joinW 3 (fun f w => f 0 = .bool i ∧ f 2 = iV m ∧ f 3 = .bool n ∧ f 4 = iV j ∧ f 6 = (pB E) ∧ f 10 = (pB g) ∧ f 11 = (pB h) ∧ f 27 = .bool ((!z) && (!n)) ∧ St w0 ros (box E 98 [.bool l, o.v] :: box g 98 [.bool false, hnil.v] :: row 133 (rI .u32) d.v c.2 :: box h 98 [.bool c.1, d.v] :: rs) w) (fun a7 => ?_) ?_
 ·rcases Bool.eq_false_or_eq_true (!z) with p | p
  ·exact yG p (m_ (.bool n) e0) (yG p (ynot e0) (yY (pt_ (.bool (!n)) e0 p e0) (a7 _ _ ⟨rfl, rfl, rfl, rfl, rfl, rfl, rfl, (congrArg Value.bool (andT p)), (a.k2g)⟩)))
  ·exact gN p (gN p (yY (pf_ (.bool false) e0 p rfl) (a7 _ _ ⟨rfl, rfl, rfl, rfl, rfl, rfl, rfl, (congrArg Value.bool (andF p)), (a.k2g)⟩)))
 rintro f w ⟨K, F, a8, L, N, A, G, d8, a⟩
 refine wK d7 (cB (eh d8) b (fun d9 b => ?_) fun d9 b => ?_)
 ·refine sR fun _ e1 => yY (lbs_ [.bool c.1, d.v] ST_98 (eh G) a R3) (yT (r_stbn (vals' := [.bool c.1, d.v]) (us := [.bool c.1, d.v]) (a.k11) ST_98 (eh A) e0 rfl rfl (one_of rfl) rfl) fun w a => wK e1 (wp_ret (d6 _ _ _ rfl ?_)))
  cases b
  replace a := (a.k17).fz
  exact a6 _ _ _ (fin1r Tryz.results106 (rcs2 rfl A a R0 ST_98 rfl) ⟨_, rfl, (a.k2o)⟩)
 ·refine wp_skip (d5 _ _ (sR fun _ e2 => Ya (iV (-1)) rfl (wK e2 (sQ fun O e3 => sR fun _ e4 => Ym (iV m) (eh F) (yY (ygtr e0 rfl) (wK e4 ?_))))))
  have a9 : ∀ (B : Int) (f : FV) w, f 0 = .bool i → f 4 = iV j → f 10 = (pB g) → f 11 = (pB h) → f 13 = iV B → St w0 ros (box g 98 [.bool false, hnil.v] :: row 133 (rI .u32) d.v c.2 :: box h 98 [.bool c.1, d.v] :: rs) w → sparseref02_Cut_j8 c i j B = some out → O .normal (fr 67 f) w := by
   intro B f w b0 b1 b2 H b3 a b
   refine e3 _ _ (sR fun _ e5 => yY (lbs_ [.bool c.1, d.v] ST_98 (eh H) a R2) (bE b fun e6 e7 b => ?_))
   replace a := (a.k11).fz
   refine yC (yCall FN_80 (a1 e0)) (sparseref01_Sign_ok e7 F0 a) ?_
   rintro _ w ⟨rfl, a⟩
   refine ⟨_, rfl, ?_⟩
   refine yY (yneq e0 rfl) (Ym (.bool (!(decide (e6 = 0)))) e0 (bE b fun R s b => ?_))
   refine joinW 4 (fun f w => f 0 = .bool i ∧ f 4 = iV j ∧ f 10 = (pB g) ∧ f 11 = (pB h) ∧ f 13 = iV B ∧ f 57 = .bool R ∧ St w0 (imm (rI .u32) d.v c.2 :: ros) (box g 98 [.bool false, hnil.v] :: box h 98 [.bool c.1, d.v] :: rs) w) (fun b4 => ?_) ?_
   ·rcases iteS s with ⟨q, s⟩ | ⟨q, s⟩
    ·refine gN (nF (dT q)) (gN (nF (dT q)) (gN (nF (dT q)) (yY (pf_ (.bool false) e0 (nF (dT q)) rfl) ?_)))
     cases s
     exact b4 _ _ ⟨b0, b1, b2, H, b3, rfl, a⟩
    ·refine yG (nT (dF q)) (lbs_ [.bool c.1, d.v] ST_98 (eh H) a R1) (bE s fun e8 e9 s => Yc (wG (nT (dF q))) rfl (yCall FN_111 (a1 e0)) (sparseref01_TrailingZeros_ok e9 F0 (mtF a3) a) ?_)
     rintro _ w ⟨rfl, a⟩
     refine ⟨_, rfl, ?_⟩
     refine yG (nT (dF q)) (yeql e0 rfl) (yY (pt_ (.bool (decide (e8 = 0))) e0 (nT (dF q)) e0) ?_)
     cases s
     exact b4 _ _ ⟨b0, b1, b2, H, b3, rfl, a⟩
   rintro f w ⟨f0, f1, b5, C, f2, f3, a⟩
   refine Ya (.bool R) (eh f3) (wK e5 (sQ fun f4 f5 => sR fun _ f6 => Ym (.bool i) (eh f0) (Ym (iV B) (eh f2) (Ym (.bool R) e0 (Ym (iV j) (eh f1) (bE b fun l0 f7 b => yC (yCall FN_128 (a4 e0 e0 e0 e0)) (sparseref02_Up_ok f7 a) ?_))))))
   rintro _ w ⟨rfl, a⟩
   refine ⟨_, rfl, ?_⟩
   refine wK f6 ?_
   have b6 : ∀ (x : Bool) (S : LI) (y : Hdr) (f : FV) w, f 10 = (pB g) → f 11 = (pB h) → St w0 (imm (rI .u32) y.v S :: ros) (box g 98 [.bool false, hnil.v] :: box h 98 [.bool x, y.v] :: rs) w → sparseref02_Cut_j10 x S = some out → f4 .normal (fr 67 f) w := by
    intro x S y f w b7 f8 a b
    refine f5 _ _ (sR fun _ f9 => yY (lbs_ [.bool x, y.v] ST_98 (eh f8) a R1) (yT (r_stbn (vals' := [.bool x, y.v]) (us := [.bool x, y.v]) a ST_98 (eh b7) e0 rfl rfl (one_of rfl) rfl) fun w a => wK f9 (wp_ret ?_)))
    cases b
    exact a6 _ _ _ (fin1r Tryz.results106 (rcs2 rfl b7 a R0 ST_98 rfl) ⟨_, rfl, (a.k1z)⟩)
   refine cB e0 b (fun g0 b => ?_) fun g0 b => ?_
   ·refine bE b fun l1 g1 b => bE b fun c0 g2 b => dR [0, 0, 3, 7] [1, 2, 3] 3 folM ?_
    replace a := a.drew
    refine Dn [0] [] [1] (yR rfl (lbs_ [.bool c.1, d.v] ST_98 (eh C) a R1) (Rn QSn ?_))
    refine Lc1 rfl ?_
    refine Lk wn (yCall FN_85 (a1 rfl)) (sparseref01_FromInt_ok g1 a) ?_
    rintro _ w ⟨l2, rfl, a⟩
    refine ⟨_, rfl, ?_⟩
    refine Dn [] [0] [2] (Rn (yS rfl (lbs_ [.bool c.1, d.v] ST_98 (eh C) a R2) QSn) ?_)
    refine Lc1 rfl ?_
    replace a := a.fz
    refine Lk wn (yCall FN_129 (a2 e0 e0)) (sparseref01_Add_ok g2 F1 F0 a) ?_
    rintro _ w ⟨c1, rfl, a⟩
    refine ⟨_, rfl, ?_⟩
    refine Dn [] [] [3] (Rn QSn ?_)
    refine Lc1 rfl ?_
    replace a := a.k17
    refine LT wn (r_stbn (vals' := [.bool c0.1, c1.v]) (us := [.bool c0.1, c1.v]) a ST_98 (eh C) e0 rfl rfl (one_of rfl) rfl) fun w a => Dz [] [] (Rn QSn ?_)
    replace a := (a.k11).fz
    exact b6 _ _ _ _ _ b5 C ((a.k11).facts (allC F0 (allT (allT (allT allI))))) b
   ·exact wp_skip (b6 _ _ _ _ _ b5 C a b)
  refine cIf e0 b (fun g3 b => ?_) fun g3 b => ?_
  ·refine sR fun _ g4 => yY (lbs_ [.bool l, o.v] ST_98 (eh N) a R0) (Ym (iV m) (eh F) (yY (ysub e0 rfl) (bE b fun I g5 b => yC (yCall FN_112 (a2 e0 e0)) (sparseref02_down_ok g5 D a) ?_)))
   rintro _ w ⟨J, rfl, a⟩
   refine ⟨_, rfl, ?_⟩
   refine yBb (rAl a ZT_98) fun l3 w a => yT (r_stbn (vals' := [.bool I.1, J.v]) (us := [.bool I.1, J.v]) a ST_98 e0 e0 rfl rfl (one_of rfl) rfl) fun w a => wK g4 (sR fun _ g6 => yY (lbs_ [.bool I.1, J.v] ST_98 e0 a R0) (bE b fun g7 g8 b => ?_))
   replace a := (a.k11).fz
   refine yC (yCall FN_111 (a1 e0)) (sparseref01_TrailingZeros_ok g8 F0 (mtF a3) a) ?_
   rintro _ w ⟨rfl, a⟩
   refine ⟨_, rfl, ?_⟩
   refine yY (yeql e0 rfl) (Ym (.bool (decide (g7 = 0))) e0 (bE b fun g9 t b => ?_))
   refine joinW 4 (fun f w => f 0 = .bool i ∧ f 2 = iV m ∧ f 3 = .bool n ∧ f 4 = iV j ∧ f 6 = (pB E) ∧ f 10 = (pB g) ∧ f 11 = (pB h) ∧ f 13 = iV (-1) ∧ f 42 = .bool g9 ∧ St w0 ros (box E 98 [.bool l, o.v] :: box g 98 [.bool false, hnil.v] :: row 133 (rI .u32) d.v c.2 :: box h 98 [.bool c.1, d.v] :: rs) w) (fun c2 => ?_) ?_
   ·rcases iteS t with ⟨r, t⟩ | ⟨r, t⟩
    ·refine yG (dT r) (lbs_ [.bool I.1, J.v] ST_98 e0 a R0) (bE t fun h0 h1 t => Yc (wG (dT r)) rfl (yCall FN_80 (a1 e0)) (sparseref01_Sign_ok h1 F0 a) ?_)
     rintro _ w ⟨rfl, a⟩
     refine ⟨_, rfl, ?_⟩
     refine yG (dT r) (yneq e0 rfl) (yY (pt_ (.bool (!(decide (h0 = 0)))) e0 (dT r) e0) ?_)
     cases t
     exact c2 _ _ ⟨K, F, a8, L, N, A, G, rfl, rfl, ((a.k2k).facts (allT allI))⟩
    ·refine gN (dF r) (gN (dF r) (gN (dF r) (yY (pf_ (.bool false) e0 (dF r) rfl) ?_)))
     cases t
     exact c2 _ _ ⟨K, F, a8, L, N, A, G, rfl, rfl, ((a.k2k).facts (allT allI))⟩
   rintro f w ⟨T, h2, h3, U, h5, V, W, h6, h7, a⟩
   refine wK g6 ?_
   have c3 : ∀ (X : Int) (f : FV) w, f 0 = .bool i → f 4 = iV j → f 10 = (pB g) → f 11 = (pB h) → f 13 = iV X → St w0 ros (box g 98 [.bool false, hnil.v] :: row 133 (rI .u32) d.v c.2 :: box h 98 [.bool c.1, d.v] :: rs) w → sparseref02_Cut_j14 c i j X = some out → O .normal (fr 67 f) w := by
    intro X f w h8 h9 i0 i1 i2 a b
    exact a9 _ _ _ h8 h9 i0 i1 i2 a b
   refine cB (eh h7) b (fun i3 b => ?_) fun i3 b => ?_
   ·refine sR fun _ i4 => Ya (iV 0) rfl (wK i4 (sR fun _ i5 => Ym (.bool n) (eh h3) (Ym (.bool n) e0 (bE b fun i6 u b => ?_))))
    refine joinW 5 (fun f w => f 0 = .bool i ∧ f 4 = iV j ∧ f 10 = (pB g) ∧ f 11 = (pB h) ∧ f 13 = iV 0 ∧ f 49 = .bool i6 ∧ St w0 ros (box g 98 [.bool false, hnil.v] :: row 133 (rI .u32) d.v c.2 :: box h 98 [.bool c.1, d.v] :: rs) w) (fun c4 => ?_) ?_
    ·rcases iteS u with ⟨k, u⟩ | ⟨k, u⟩
     ·refine gN k (gN k (gN k (gN k (yY (pt_ (.bool true) e0 k rfl) ?_))))
      cases u
      exact c4 _ _ ⟨T, U, V, W, rfl, rfl, (a.k2s)⟩
     ·refine yG (bfalse k) (lbs_ [.bool l, o.v] ST_98 (eh h5) a R0) (yG (bfalse k) (m_ (iV m) (eh h2)) (yG (bfalse k) (ysub e0 rfl) (bE u fun i7 i8 u => Yc (wG (bfalse k)) rfl (yCall FN_127 (a2 e0 e0)) (sparseref01_Lost_ok i8 D a) ?_)))
      rintro _ w ⟨rfl, a⟩
      refine ⟨_, rfl, ?_⟩
      refine yY (pf_ (.bool i7) e0 (bfalse k) e0) ?_
      cases u
      exact c4 _ _ ⟨T, U, V, W, rfl, rfl, (a.k2s)⟩
    rintro f w ⟨c5, c6, c7, c8, i9, j0, a⟩
    refine wK i5 ?_
    have c9 : ∀ (Z : Int) (f : FV) w, f 0 = .bool i → f 4 = iV j → f 10 = (pB g) → f 11 = (pB h) → f 13 = iV Z → St w0 ros (box g 98 [.bool false, hnil.v] :: row 133 (rI .u32) d.v c.2 :: box h 98 [.bool c.1, d.v] :: rs) w → sparseref02_Cut_j16 c i j Z = some out → O .normal (fr 67 f) w := by
     intro Z f w j2 j3 j4 j5 j6 a b
     exact c3 _ _ _ j2 j3 j4 j5 j6 a b
    refine cB (eh j0) b (fun j7 b => ?_) fun j7 b => ?_
    ·exact wR (Ya (iV 1) rfl (wN (c9 _ _ _ c5 c6 c7 c8 rfl a b)))
    ·exact wp_skip (c9 _ _ _ c5 c6 c7 c8 i9 a b)
   ·exact wp_skip (c3 _ _ _ T U V W h6 (a.k2s) b)
  ·exact wp_skip (a9 _ _ _ K L A G rfl (a.k2s) b)
theorem sparseref01_Int_ok {m : Bool} {t : LI} {n : Hdr} {out : Int × Bool} (c : sparseref01_Int m t = some out) (z : imm (rI .u32) n.v t ∈ ros) (b : St w0 ros rs w) :
  Calls Tryz.prog 108 #[.agg #[.bool m, n.v]] w (fun e w => e = .returned (.tuple #[iV out.1, .bool out.2]) ∧ St w0 ros rs w) := by
 refine enterQ Tryz.func108 rfl Tryz.ntmps108 rfl fun Q k => sR fun _ A => yBb (r_box (vals := [.bool m, n.v]) b e0 rfl) fun o w b => Ya (iV 0) rfl (Ya (.bool false) rfl (wK A (sR fun _ B => yY (lbs_ [.bool m, n.v] ST_98 e0 b R0) (bE c fun j C c => yC (yCall FN_103 (a1 e0)) (sparseref01_Norm_ok C z b) ?_))))
 rintro _ w ⟨d, rfl, b⟩
 refine ⟨_, rfl, ?_⟩
 refine yT (r_stbn (vals' := [.bool j.1, d.v]) (us := [.bool j.1, d.v]) (b.k11) ST_98 e0 e0 rfl rfl (one_of rfl) rfl) fun w b => wK B (seqQ fun c3 D E => sR fun _ F => yY (yFb FL_98_1 e0) (yY (lb_ d.v O_96 e0 b R0) (yY (yLen SL_96 e0 b rO1) (yY (ygtr e0 rfl) (wK F ?_)))))
 refine cIf e0 c (fun G c => ?_) fun G c => ?_
 ·refine sR fun _ H => Ya (iV 0) rfl (Ya (.bool false) rfl (wK H (wp_ret (E _ _ _ rfl ?_))))
  cases c
  exact k _ _ _ (fin2r Tryz.results108 ⟨rfl, rfl⟩ ⟨rfl, rfl⟩ ⟨rfl, (b.k1z)⟩)
 ·refine wp_skip (D _ _ (sR fun _ I => Ya (.int .u64 0) rfl (wK I (sQ fun _ J => sR fun _ K => Ya (iV 0) rfl (wK K (blockQ fun L N => ?_))))))
  refine bE c fun O R c => ?_
  have S : ∀ (g : Int) (f : FV) w, f 1 = (pB o) → f 4 = .int .u64 g → St w0 ros (row 133 (rI .u32) d.v j.2 :: box o 98 [.bool j.1, d.v] :: rs) w → g = O → L (.exit 0) (fr 43 f) w := by
   intro g f w T p b ho
   subst ho
   refine N _ _ _ (J _ _ (seqQ fun c4 U u => sR fun _ V => yY (yFb FL_98_0 (eh T)) (yY (lb_ (.bool j.1) O_4 e0 b R1) (wK V (cB e0 c (fun W c => ?_) fun W c => ?_)))))
   ·refine seqQ fun c5 X Z => sR fun _ a0 => Ym (.int .u64 g) (eh p) (yY (ygtr e0 rfl) (wK a0 ?_))
    refine cIf e0 c (fun a2 c => ?_) fun a2 c => ?_
    ·refine sR fun _ a3 => Ya (iV 0) rfl (Ya (.bool false) rfl (wK a3 (wp_ret (Z _ _ _ rfl (u _ _ _ rfl ?_)))))
     cases c
     exact k _ _ _ (fin2r Tryz.results108 ⟨rfl, rfl⟩ ⟨rfl, rfl⟩ ⟨rfl, (b.k1z)⟩)
    ·refine wp_skip (X _ _ (sR fun _ a4 => Ym (.int .u64 g) (eh p) (yY (ysub e0 rfl) (yY (ycv (k' := .i64) (by kernel_rfl) (by kernel_rfl) e0) (yY (yneg e0) (yY (ysub e0 rfl) (Ya (iV (ws .i64 (wneg .i64 (wc .i64 (ws .u64 g 1))) 1)) e0 (Ya (.bool true) rfl (wK a4 (wp_ret ?_))))))))))
     refine u _ _ _ rfl ?_
     cases c
     exact k _ _ _ (fin2r Tryz.results108 ⟨rfl, rfl⟩ ⟨rfl, rfl⟩ ⟨rfl, (b.k1z)⟩)
   ·refine wp_skip (U _ _ (seqQ fun c6 a5 a6 => sR fun _ a7 => Ym (.int .u64 g) (eh p) (yY (ygtr e0 rfl) (wK a7 ?_))))
    refine cIf e0 c (fun a8 c => ?_) fun a8 c => ?_
    ·refine sR fun _ a9 => Ya (iV 0) rfl (Ya (.bool false) rfl (wK a9 (wp_ret (a6 _ _ _ rfl ?_))))
     cases c
     exact k _ _ _ (fin2r Tryz.results108 ⟨rfl, rfl⟩ ⟨rfl, rfl⟩ ⟨rfl, (b.k1z)⟩)
    ·refine wp_skip (a5 _ _ (sR fun _ b0 => Ym (.int .u64 g) (eh p) (yY (ycv (k' := .i64) (by kernel_rfl) (by kernel_rfl) e0) (Ya (iV (wc .i64 g)) e0 (Ya (.bool true) rfl (wK b0 (wp_ret ?_)))))))
     cases c
     exact k _ _ _ (fin2r Tryz.results108 ⟨rfl, rfl⟩ ⟨rfl, rfl⟩ ⟨rfl, (b.k1z)⟩)
  refine loopQ (fun s a w => ∃ (l i : Int) (f : FV), (l, i) = s ∧ a = fr 43 f ∧ f 1 = (pB o) ∧ f 4 = .int .u64 l ∧ f 5 = iV i ∧ St w0 ros (row 133 (rI .u32) d.v j.2 :: box o 98 [.bool j.1, d.v] :: rs) w) R ⟨_, _, _, rfl, rfl, rfl, rfl, rfl, (b.k11)⟩ ?_
  rintro _ _ w c8 ⟨l, i, f, rfl, rfl, q, x, r, b⟩ h b1 c9 b2 b3
  refine seqQ fun d0 b5 b6 => sR fun _ b7 => Ym (iV i) (eh r) (yY (yFb FL_98_1 (eh q)) (yY (lb_ d.v O_96 e0 b R1) (yY (yLen SL_96 e0 b rO0) (yY (ylss e0 e0) (wK b7 ?_)))))
  refine cIf e0 h (fun b8 h => ?_) fun b8 h => ?_
  ·refine wp_skip (b5 _ _ (sQ fun _ b9 => blockQ fun _ c0 => wR (Ym (.int .u64 l) (eh x) (yY (yFb FL_98_1 (eh q)) (yY (lb_ d.v O_96 e0 b R1) (Ym (iV i) (eh r) (bE h fun d1 y h => yY (yIa SL_96 e0 e0 b rO0 y) (yY (yI O_133 e0 b rO0 y) (yY (ycv (k' := .u64) (by kernel_rfl) (by kernel_rfl) e0) (Ym (iV i) (eh r) ?_))))))))))
   refine yY (ymul rfl e0) (bE h fun c1 c2 h => yY (yshl e0 e0 c2) (yY (yor e0 e0) (Ya (.int .u64 (wor .u64 l c1)) e0 (wN (c0 _ _ _ (b9 _ _ (wR (Ym (iV i) (eh r) (yY (yadd e0 rfl) (Ya (iV (wa .i64 i 1)) e0 (wN ?_)))))))))))
   cases h
   exact b2 _ _ _ rfl ⟨_, _, _, rfl, rfl, q, rfl, rfl, b⟩
  ·refine wp_exit (b6 _ _ _ rfl ?_)
   cases h
   exact b3 _ _ _ _ rfl rfl (S _ _ _ q x b (b1 _ rfl))
theorem sparseref03_rounded_ok {g m : Bool} {B : LI} {c : Int} {r : Bool} {j : Int} {n : Hdr} {out : Int} (b : sparseref03_rounded g m B c r j = some out) (s : imm (rI .u32) n.v B ∈ ros) (T : globF ∈ ros) (a : St w0 ros rs w) :
  Calls Tryz.prog 81 #[.bool g, .agg #[.bool m, n.v], iV c, .bool r, iV j] w (fun e w => e = .returned (.int .u64 out) ∧ St w0 ros rs w) := by
 refine enterQ Tryz.func81 rfl Tryz.ntmps81 rfl fun Q o => sR fun _ U => yBb (r_box (vals := [.bool m, n.v]) a e0 rfl) fun e3 w a => Ya (.int .u64 0) rfl (wK U (sR fun _ V => Ym (iV c) e0 (yY (lbs_ [.bool m, n.v] ST_98 e0 a R0) (bE b fun h W b => yC (yCall FN_104 (a1 e0)) (sparseref01_BitLen_ok W s a) ?_))))
 rintro _ w ⟨rfl, a⟩
 refine ⟨_, rfl, ?_⟩
 refine yY (yadd e0 e0) (yY (ysub e0 rfl) (Ya (iV (ws .i64 (wa .i64 c h) 1)) e0 (wK V (seqQ fun e4 X Z => sR fun _ a0 => Ym (iV (ws .i64 (wa .i64 c h) 1)) e0 (yY (ygeq e0 rfl) (wK a0 ?_))))))
 refine cIf e0 b (fun a3 b => ?_) fun a3 b => ?_
 ·refine sR fun _ a4 => Ym (.bool g) e0 (Ym (iV j) e0 (bE b fun a6 a7 b => yC (yCall FN_105 (a2 e0 e0)) (sparseref03_over_ok a7 a) ?_))
  rintro _ w ⟨rfl, a⟩
  refine ⟨_, rfl, ?_⟩
  refine Ya (.int .u64 a6) e0 (wK a4 (wp_ret (Z _ _ _ rfl ?_)))
  cases b
  exact o _ _ _ (fin1r Tryz.results81 ⟨rfl, rfl⟩ ⟨rfl, (a.k10)⟩)
 ·refine wp_skip (X _ _ (sR fun _ a8 => Ym (iV (ws .i64 (wa .i64 c h) 1)) e0 (yY (ysub e0 rfl) (yY (ymax e0 rfl) (Ya (iV (imax (ws .i64 (ws .i64 (wa .i64 c h) 1) 52) (-1074))) e0 (wK a8 (sR fun _ a9 => yBb (rAl a ZT_98) fun C w a => ?_)))))))
  refine wK a9 (sQ fun b0 b1 => sR fun _ b2 => Ym (iV (imax (ws .i64 (ws .i64 (wa .i64 c h) 1) 52) (-1074))) e0 (Ym (iV c) e0 (yY (ygeq e0 e0) (wK b2 ?_))))
  have D : ∀ (p : Bool) (t : LI) (q : Hdr) (f : FV) w, f 0 = .bool g → f 4 = iV j → f 12 = iV (imax (ws .i64 (ws .i64 (wa .i64 c h) 1) 52) (-1074)) → f 13 = (pB C) → St w0 (imm (rI .u32) q.v t :: ros) (box C 98 [.bool p, q.v] :: rs) w → sparseref03_rounded_j1 g j c h p t = some out → b0 .normal (fr 82 f) w := by
   intro p t q f w E F G b3 a b
   refine b1 _ _ (sR fun _ b4 => yY (lbs_ [.bool p, q.v] ST_98 (eh b3) a R0) (bE b fun l b5 b => yC (yCall FN_108 (a1 e0)) (sparseref01_Int_ok b5 F0 a) ?_))
   rintro _ w ⟨rfl, a⟩
   refine ⟨_, rfl, ?_⟩
   refine Ym (.tuple #[iV l.1, .bool l.2]) e0 (yY (x_ (iV l.1) e0) (yY (x_ (.bool l.2) e0) (Ya (iV l.1) e0 (Ya (.bool l.2) e0 (wK b4 (sQ fun b6 b7 => sR fun _ b9 => Ym (iV l.1) e0 (yY (yeql e0 rfl) (wK b9 ?_))))))))
   have H : ∀ (k d : Int) (f : FV) w, f 0 = .bool g → f 4 = iV j → f 12 = iV k → f 14 = iV d → St w0 ros rs w → sparseref03_rounded_j2 g j k d = some out → b6 .normal (fr 82 f) w := by
    intro k d f w I J u x a b
    refine b7 _ _ (seqQ fun e5 c0 K => blockQ fun _ y => sR fun _ c1 => Ym (iV d) (eh x) (yY (ygeq e0 rfl) (Ym (.bool (decide ((4503599627370496 : Int) ≤ d))) e0 ?_)))
    refine joinW 4 (fun f w => f 0 = .bool g ∧ f 4 = iV j ∧ f 12 = iV k ∧ f 14 = iV d ∧ f 61 = .bool ((decide ((4503599627370496 : Int) ≤ d)) && (decide ((1024 : Int) < (wa .i64 k 53)))) ∧ St w0 ros rs w) (fun L => ?_) ?_
    ·rcases Bool.eq_false_or_eq_true (decide ((4503599627370496 : Int) ≤ d)) with i | i
     ·exact yG i (m_ (iV k) (eh u)) (yG i (yadd e0 rfl) (yG i (ygtr e0 rfl) (yY (pt_ (.bool (decide ((1024 : Int) < (wa .i64 k 53)))) e0 i e0) (L _ _ ⟨I, J, u, x, (congrArg Value.bool (andT i)), a⟩))))
     ·exact gN i (gN i (gN i (yY (pf_ (.bool false) e0 i rfl) (L _ _ ⟨I, J, u, x, (congrArg Value.bool (andF i)), a⟩))))
    rintro f w ⟨z, c2, c3, A, c4, a⟩
    refine Ya (.bool ((decide ((4503599627370496 : Int) ≤ d)) && (decide ((1024 : Int) < (wa .i64 k 53))))) (eh c4) (wK c1 (cB e0 b (fun c5 b => ?_) fun c5 b => ?_))
    ·refine sR fun _ c6 => Ym (.bool g) (eh z) (Ym (iV j) (eh c2) (bE b fun c7 c8 b => yC (yCall FN_105 (a2 e0 e0)) (sparseref03_over_ok c8 a) ?_))
     rintro _ w ⟨rfl, a⟩
     refine ⟨_, rfl, ?_⟩
     refine Ya (.int .u64 c7) e0 (wK c6 (wp_ret (y _ _ _ (K _ _ _ rfl ?_))))
     cases b
     exact o _ _ _ (fin1r Tryz.results81 ⟨rfl, rfl⟩ ⟨rfl, a⟩)
    ·refine sR fun _ c9 => Ym (iV d) (eh A) (yY (ygeq e0 rfl) (Ya (.bool (decide ((4503599627370496 : Int) ≤ d))) e0 (wK c9 ?_)))
     refine cIf e0 b (fun d0 b => ?_) fun d0 b => ?_
     ·refine sR fun _ d1 => Ym (.bool g) (eh z) (Ym (iV k) (eh c3) (yY (yadd e0 rfl) (yY (ycv (k' := .u64) (by kernel_rfl) (by kernel_rfl) e0) (yY (yshlc e0 rfl) (Ym (iV d) (eh A) (yY (ysub e0 rfl) (yY (ycv (k' := .u64) (by kernel_rfl) (by kernel_rfl) e0) (yY (yor e0 e0) (bE b fun d2 d3 b => yC (yCall FN_109 (a2 e0 e0)) (sparseref03_signed_ok d3 a) ?_)))))))))
      rintro _ w ⟨rfl, a⟩
      refine ⟨_, rfl, ?_⟩
      refine Ya (.int .u64 d2) e0 (wK d1 (wp_ret (y _ _ _ (K _ _ _ rfl ?_))))
      cases b
      exact o _ _ _ (fin1r Tryz.results81 ⟨rfl, rfl⟩ ⟨rfl, a⟩)
     ·refine wp_skip (y _ _ _ (c0 _ _ (sR fun _ d4 => Ym (.bool g) (eh z) (Ym (iV d) (eh A) (yY (ycv (k' := .u64) (by kernel_rfl) (by kernel_rfl) e0) (bE b fun d5 d6 b => yC (yCall FN_109 (a2 e0 e0)) (sparseref03_signed_ok d6 a) ?_))))))
      rintro _ w ⟨rfl, a⟩
      refine ⟨_, rfl, ?_⟩
      refine Ya (.int .u64 d5) e0 (wK d4 (wp_ret ?_))
      cases b
      exact o _ _ _ (fin1r Tryz.results81 ⟨rfl, rfl⟩ ⟨rfl, a⟩)
   refine cIf e0 b (fun d7 b => ?_) fun d7 b => ?_
   ·exact sR fun _ d8 => Ya (iV 4503599627370496) rfl (wK d8 (wR (Ym (iV (imax (ws .i64 (ws .i64 (wa .i64 c h) 1) 52) (-1074))) (eh G) (yY (yadd e0 rfl) (Ya (iV (wa .i64 (imax (ws .i64 (ws .i64 (wa .i64 c h) 1) 52) (-1074)) 1)) e0 (wN (H _ _ _ _ E F rfl rfl ((a.k10).facts (allT allI)) b)))))))
   ·exact wp_skip (H _ _ _ _ E F G rfl ((a.k10).facts (allT allI)) b)
  refine cIf e0 b (fun d9 b => ?_) fun d9 b => ?_
  ·refine wR (Ym (.bool g) e0 (yY (lbs_ [.bool m, n.v] ST_98 e0 a R1) (Ym (iV (imax (ws .i64 (ws .i64 (wa .i64 c h) 1) 52) (-1074))) e0 (Ym (iV c) e0 (yY (ysub e0 e0) (Ym (.bool r) e0 (Ym (iV j) e0 (bE b fun N e1 b => yC (yCall FN_106 (a5 e0 e0 e0 e0 e0)) (sparseref02_Cut_ok e1 s T a) ?_))))))))
   rintro _ w ⟨O, rfl, a⟩
   refine ⟨_, rfl, ?_⟩
   exact yT (r_stbn (vals' := [.bool N.1, O.v]) (us := [.bool N.1, O.v]) a ST_98 e0 e0 rfl rfl (one_of rfl) rfl) fun w a => wN (D _ _ _ _ _ rfl rfl rfl rfl (a.k1f) b)
  ·refine wR (yY (lbs_ [.bool m, n.v] ST_98 e0 a R1) (Ym (iV c) e0 (Ym (iV (imax (ws .i64 (ws .i64 (wa .i64 c h) 1) 52) (-1074))) e0 (yY (ysub e0 e0) (bE b fun R e2 b => yC (yCall FN_107 (a2 e0 e0)) (sparseref01_Shift_ok e2 s a) ?_)))))
   rintro _ w ⟨S, rfl, a⟩
   refine ⟨_, rfl, ?_⟩
   refine yT (r_stbn (vals' := [.bool R.1, S.v]) (us := [.bool R.1, S.v]) (a.k11) ST_98 e0 e0 rfl rfl (one_of rfl) rfl) fun w a => wN ?_
   replace a := (a.k11).fz
   exact D _ _ _ _ _ rfl rfl rfl rfl (a.k1f) b
theorem sparseref03_Round_ok {d f : Bool} {l : LI} {g h : Int} {i : Hdr} {out : Int} (b : sparseref03_Round d f l g h = some out) (n : imm (rI .u32) i.v l ∈ ros) (m : globF ∈ ros) (a : St w0 ros rs w) :
  Calls Tryz.prog 58 #[.agg #[.bool d, .bool f, i.v, iV g], iV h] w (fun e w => e = .returned (.int .u64 out) ∧ St w0 ros rs w) := by
 refine enterQ Tryz.func58 rfl Tryz.ntmps58 rfl fun Q k => sR fun _ o => yBb (r_box (vals := [.bool d, .bool f, i.v, iV g]) a e0 rfl) fun I w a => Ya (.int .u64 0) rfl (wK o (sR fun _ p => yY (lbs_ [.bool d, .bool f, i.v, iV g] ST_100 e0 a R0) (bE b fun c q b => yC (yCall FN_79 (a1 e0)) (sparseref02_Norm_ok q n m a) ?_)))
 rintro _ w ⟨j, rfl, a⟩
 refine ⟨_, rfl, ?_⟩
 refine yT (r_stbn (vals' := [.bool c.1, .bool c.2.1, j.v, iV c.2.2.2]) (us := [.bool c.1, .bool c.2.1, j.v, iV c.2.2.2]) a ST_100 e0 e0 rfl rfl (one_of rfl) rfl) fun w a => wK p (seqQ fun J r s => sR fun _ t => yY (yFb FL_100_0 e0) (yY (lb_ (.bool c.1) O_4 e0 a R0) (wK t (cB e0 b (fun u b => ?_) fun u b => ?_))))
 ·refine sR fun _ x => Ya (.int .u64 9221120237041090560) rfl (wK x (wp_ret (s _ _ _ rfl ?_)))
  cases b
  exact k _ _ _ (fin1r Tryz.results58 ⟨rfl, rfl⟩ ⟨rfl, ((a.k10).facts (allT allI))⟩)
 ·refine wp_skip (r _ _ (seqQ fun K y z => sR fun _ A => yY (yFb FL_100_1 e0) (yY (lbs_ [.bool c.2.1, j.v] ST_98 e0 a R0) (bE b fun L B b => yC (yCall FN_80 (a1 e0)) (sparseref01_Sign_ok B F0 a) ?_))))
  rintro _ w ⟨rfl, a⟩
  refine ⟨_, rfl, ?_⟩
  refine yY (yeql e0 rfl) (wK A ?_)
  refine cIf e0 b (fun C b => ?_) fun C b => ?_
  ·refine sR fun _ D => Ya (.int .u64 0) rfl (wK D (wp_ret (z _ _ _ rfl ?_)))
   cases b
   exact k _ _ _ (fin1r Tryz.results58 ⟨rfl, rfl⟩ ⟨rfl, ((a.k10).facts (allT allI))⟩)
  ·refine wp_skip (y _ _ (sQ fun _ E => bE b fun N F b => bE b fun G H b => dR [0, 1, 3, 0, 8, 24, 0, 64, 0, 511, 1023] [5, 9, 10] 3 folM ?_))
   replace a := a.drew
   refine Dn [0, 1, 2, 3, 4, 6, 7, 8] [] [5] (yR rfl (yFb FL_100_1 e0) (yR rfl (yFb FL_98_0 e0) (yR rfl (lb_ (.bool c.2.1) O_4 e0 a R0) (yR rfl (yFb FL_100_1 e0) (yR rfl (lbs_ [.bool c.2.1, j.v] ST_98 e0 a R0) (yR rfl (yFb FL_100_2 e0) (yR rfl (lb_ (iV c.2.2.2) O_3 e0 a R0) (yR rfl (m_ (iV h) e0) (Rn QSn ?_)))))))))
   refine Lc1 rfl ?_
   refine Lk wn (yCall FN_82 (a1 e0)) (sparseref01_Abs_ok F F0 a) ?_
   rintro _ w ⟨O, rfl, a⟩
   refine ⟨_, rfl, ?_⟩
   refine Dn [] [0, 1, 2, 6, 7, 8] [9] (Rn (yS rfl (yFb FL_100_1 e0) (yS rfl (yFb FL_98_0 e0) (yS rfl (lb_ (.bool c.2.1) O_4 e0 a R1) (yS rfl (yFb FL_100_2 e0) (yS rfl (lb_ (iV c.2.2.2) O_3 e0 a R1) (yS rfl (m_ (iV h) e0) QSn)))))) ?_)
   refine Lc1 rfl ?_
   replace a := a.fz
   refine Lk wn (yCall FN_81 (a5 e0 e0 e0 rfl e0)) (sparseref03_rounded_ok H F0 (F_2 m) a) ?_
   rintro _ w ⟨rfl, a⟩
   refine ⟨_, rfl, ?_⟩
   refine Dn [] [] [10] (Rn QSn ?_)
   refine Lc1 rfl ?_
   refine Ly wn (a_ (.int .u64 G) e0) (Dz [] [] (Rn QSn (E _ _ (wp_ret ?_))))
   cases b
   exact k _ _ _ (fin1r Tryz.results58 ⟨rfl, rfl⟩ ⟨rfl, ((a.k10).facts (allT (allT allI)))⟩)
end Go.Proofs.YtgnfkbaghjmgiaaGreatDoor
