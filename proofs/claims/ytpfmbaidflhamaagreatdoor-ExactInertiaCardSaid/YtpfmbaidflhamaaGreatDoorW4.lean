/- Walks: each function computes its model, printed. -/
import Derived.Test.YtpfmbaidflhamaaGreatDoorW3
namespace Go.Proofs.YtpfmbaidflhamaaGreatDoor
open Go Sx M
set_option maxRecDepth 100000
set_option maxHeartbeats 40000000
set_option linter.unusedVariables false
attribute [local irreducible] wpList Code.wp Calls DR QR QS LA LS St
variable {w0 : World} {ros : List Fact} {rs : List Res} {w : World}
theorem sparseref01_Add_ok {c : Bool} {k : LI} {d : Bool} {l : LI} {i f : Hdr} {out : Bool × LI} (b : sparseref01_Add c k d l = some out) (t : imm (rI .u32) i.v k ∈ ros) (u : imm (rI .u32) f.v l ∈ ros) (a : St w0 ros rs w) :
  Calls Tryz.prog 111 #[.agg #[.bool c, i.v], .agg #[.bool d, f.v]] w (fun e w => ∃ (m : Hdr), e = .returned (.agg #[.bool out.1, m.v]) ∧ St w0 ros (row 103 (rI .u32) m.v out.2 :: rs) w) := by
 refine enterQ Tryz.func111 rfl Tryz.ntmps111 rfl fun Q j => sR fun _ x => yBb (r_box (vals := [.bool c, i.v]) a e0 rfl) fun W w a => yBb (r_box (vals := [.bool d, f.v]) a e0 rfl) fun X w a => yBb (rAl a ZT_31) fun Z w a => wK x (sQ fun _ y => bE b fun a0 z b => bE b fun a3 A b => ?_)
 refine dR [0, 1, 3, 0, 8, 31, 63, 127] [2, 5, 6, 7] 4 folM ?_
 replace a := a.drew
 refine Dn [0, 1, 3, 4] [] [2] (yR rfl (yFb FL_31_1 e0) (yR rfl (lb_ i.v O_29 e0 a R2) (yR rfl (yFb FL_31_1 e0) (yR rfl (lb_ f.v O_29 e0 a R1) (Rn QSn ?_)))))
 refine Lc1 rfl ?_
 refine Lk wn (yCall FN_116 (a1 e0)) (sparseref01_trim_ok z t a) ?_
 rintro _ w ⟨g, rfl, a⟩
 refine ⟨_, rfl, ?_⟩
 refine Dn [] [3, 4] [5] (Rn (yS rfl (yFb FL_31_1 e0) (yS rfl (lb_ f.v O_29 e0 a R2) QSn)) ?_)
 refine Lc1 rfl ?_
 refine Lk wn (yCall FN_116 (a1 e0)) (sparseref01_trim_ok A u a) ?_
 rintro _ w ⟨h, rfl, a⟩
 refine ⟨_, rfl, ?_⟩
 refine Dn [] [] [6] (Rn QSn ?_)
 refine Lc1 rfl ?_
 refine Ly wn (a_ g.v e0) (Dn [] [] [7] (Rn QSn ?_))
 refine Lc1 rfl ?_
 refine Ly wn (a_ h.v e0) (Dz [] [] (Rn QSn (y _ _ (seqQ fun a4 B C => sR fun _ D => yY (yFb FL_31_0 e0) (yY (lb_ (.bool c) O_4 e0 a R4) (yY (yFb FL_31_0 e0) (yY (lb_ (.bool d) O_4 e0 a R3) (yY (yeqb (by kernel_rfl) e0 e0) (wK D (cB e0 b (fun E b => ?_) fun E b => ?_))))))))))
 ·refine sQ fun _ F => bE b fun a5 G b => bE b fun n H b => dR [0, 1, 0, 0, 12, 31, 63] [4, 5, 6] 3 folM ?_
  replace a := a.drew
  refine Dn [0, 1, 2, 3] [] [4] (yR rfl (yFb FL_31_0 e0) (yR rfl (lb_ (.bool c) O_4 e0 a R4) (yR rfl (m_ g.v e0) (yR rfl (m_ h.v e0) (Rn QSn ?_)))))
  refine Lc1 rfl ?_
  replace a := ((a.k17).fz).fz
  refine Lk wn (yCall FN_142 (a2 e0 e0)) (sparseref01_addMag_ok G F1 F0 a) ?_
  rintro _ w ⟨a6, rfl, a⟩
  refine ⟨_, rfl, ?_⟩
  refine Dn [] [0, 1] [5] (Rn (yS rfl (yFb FL_31_0 e0) (yS rfl (lb_ (.bool c) O_4 e0 a R3) QSn)) ?_)
  refine Lc1 rfl ?_
  replace a := a.fz
  refine Lk wn (yCall FN_110 (a2 e0 e0)) (sparseref01_make1_ok H F0 a) ?_
  rintro _ w ⟨o, rfl, a⟩
  refine ⟨_, rfl, ?_⟩
  refine Dn [] [] [6] (Rn QSn ?_)
  refine Lc1 rfl ?_
  replace a := a.k17
  refine LT wn (r_stbn (vals' := [.bool n.1, o.v]) (us := [.bool n.1, o.v]) a ST_31 e0 e0 rfl rfl (one_of rfl) rfl) fun w a => Dz [] [] (Rn QSn (F _ _ (wp_ret (C _ _ _ rfl ?_))))
  cases b
  exact j _ _ _ (fin1r Tryz.results111 (rcs2 rfl rfl a R0 ST_31 rfl) ⟨_, rfl, ((a.k21).facts (allT (allT (allT allI))))⟩)
 ·refine wp_skip (B _ _ (seqQ fun a7 I J => sR fun _ K => Ym g.v e0 (Ym h.v e0 (bE b fun a8 L b => ?_))))
  replace a := ((a.k17).fz).fz
  refine yC (yCall FN_143 (a2 e0 e0)) (sparseref01_cmpMag_ok L F1 F0 a) ?_
  rintro _ w ⟨rfl, a⟩
  refine ⟨_, rfl, ?_⟩
  refine yY (ygeq e0 rfl) (wK K ?_)
  refine cIf e0 b (fun N b => ?_) fun N b => ?_
  ·refine sQ fun _ O => bE b fun a9 R b => bE b fun p S b => dR [0, 1, 0, 0, 12, 31, 63] [4, 5, 6] 3 folM ?_
   replace a := a.drew
   refine Dn [0, 1, 2, 3] [] [4] (yR rfl (yFb FL_31_0 e0) (yR rfl (lb_ (.bool c) O_4 e0 a R2) (yR rfl (m_ g.v e0) (yR rfl (m_ h.v e0) (Rn QSn ?_)))))
   refine Lc1 rfl ?_
   refine Lk wn (yCall FN_144 (a2 e0 e0)) (sparseref01_subMag_ok R F1 F0 a) ?_
   rintro _ w ⟨b0, rfl, a⟩
   refine ⟨_, rfl, ?_⟩
   refine Dn [] [0, 1] [5] (Rn (yS rfl (yFb FL_31_0 e0) (yS rfl (lb_ (.bool c) O_4 e0 a R3) QSn)) ?_)
   refine Lc1 rfl ?_
   replace a := a.fz
   refine Lk wn (yCall FN_110 (a2 e0 e0)) (sparseref01_make1_ok S F0 a) ?_
   rintro _ w ⟨q, rfl, a⟩
   refine ⟨_, rfl, ?_⟩
   refine Dn [] [] [6] (Rn QSn ?_)
   refine Lc1 rfl ?_
   replace a := a.k17
   refine LT wn (r_stbn (vals' := [.bool p.1, q.v]) (us := [.bool p.1, q.v]) a ST_31 e0 e0 rfl rfl (one_of rfl) rfl) fun w a => Dz [] [] (Rn QSn (O _ _ (wp_ret (J _ _ _ rfl ?_))))
   cases b
   exact j _ _ _ (fin1r Tryz.results111 (rcs2 rfl rfl a R0 ST_31 rfl) ⟨_, rfl, ((a.k21).facts (allT (allT (allT allI))))⟩)
  ·refine wp_skip (I _ _ (sQ fun _ T => bE b fun b1 U b => bE b fun r V b => dR [0, 1, 0, 0, 12, 31, 63] [4, 5, 6] 3 folM ?_))
   replace a := a.drew
   refine Dn [0, 1, 2, 3] [] [4] (yR rfl (yFb FL_31_0 e0) (yR rfl (lb_ (.bool d) O_4 e0 a R1) (yR rfl (m_ h.v e0) (yR rfl (m_ g.v e0) (Rn QSn ?_)))))
   refine Lc1 rfl ?_
   refine Lk wn (yCall FN_144 (a2 e0 e0)) (sparseref01_subMag_ok U F0 F1 a) ?_
   rintro _ w ⟨b2, rfl, a⟩
   refine ⟨_, rfl, ?_⟩
   refine Dn [] [0, 1] [5] (Rn (yS rfl (yFb FL_31_0 e0) (yS rfl (lb_ (.bool d) O_4 e0 a R2) QSn)) ?_)
   refine Lc1 rfl ?_
   replace a := a.fz
   refine Lk wn (yCall FN_110 (a2 e0 e0)) (sparseref01_make1_ok V F0 a) ?_
   rintro _ w ⟨s, rfl, a⟩
   refine ⟨_, rfl, ?_⟩
   refine Dn [] [] [6] (Rn QSn ?_)
   refine Lc1 rfl ?_
   replace a := a.k17
   refine LT wn (r_stbn (vals' := [.bool r.1, s.v]) (us := [.bool r.1, s.v]) a ST_31 e0 e0 rfl rfl (one_of rfl) rfl) fun w a => Dz [] [] (Rn QSn (T _ _ (wp_ret ?_)))
   cases b
   exact j _ _ _ (fin1r Tryz.results111 (rcs2 rfl rfl a R0 ST_31 rfl) ⟨_, rfl, ((a.k21).facts (allT (allT (allT allI))))⟩)
theorem sparseref01_Sub_ok {b : Bool} {h : LI} {f : Bool} {i : LI} {c g : Hdr} {out : Bool × LI} (d : sparseref01_Sub b h f i = some out) (m : imm (rI .u32) c.v h ∈ ros) (n : imm (rI .u32) g.v i ∈ ros) (a : St w0 ros rs w) :
  Calls Tryz.prog 105 #[.agg #[.bool b, c.v], .agg #[.bool f, g.v]] w (fun e w => ∃ (j : Hdr), e = .returned (.agg #[.bool out.1, j.v]) ∧ St w0 ros (row 103 (rI .u32) j.v out.2 :: rs) w) := by
 refine enterQ Tryz.func105 rfl Tryz.ntmps105 rfl fun Q o => sR fun _ p => yBb (r_box (vals := [.bool b, c.v]) a e0 rfl) fun t w a => yBb (r_box (vals := [.bool f, g.v]) a e0 rfl) fun u w a => yBb (rAl a ZT_31) fun x w a => wK p (sQ fun _ q => bE d fun y r d => bE d fun k s d => ?_)
 refine dR [0, 0, 2, 7, 15] [2, 3, 4] 3 folM ?_
 replace a := a.drew
 refine Dn [0, 1] [] [2] (yR rfl (lbs_ [.bool b, c.v] ST_31 e0 a R2) (yR rfl (lbs_ [.bool f, g.v] ST_31 e0 a R1) (Rn QSn ?_)))
 refine Lc1 rfl ?_
 refine Lk wn (yCall FN_71 (a1 e0)) (sparseref01_Neg_ok r n a) ?_
 rintro _ w ⟨z, rfl, a⟩
 refine ⟨_, rfl, ?_⟩
 refine Dn [] [0] [3] (Rn (yS rfl (lbs_ [.bool b, c.v] ST_31 e0 a R3) QSn) ?_)
 refine Lc1 rfl ?_
 replace a := a.fz
 refine Lk wn (yCall FN_111 (a2 e0 e0)) (sparseref01_Add_ok s (mtF m) F0 a) ?_
 rintro _ w ⟨l, rfl, a⟩
 refine ⟨_, rfl, ?_⟩
 refine Dn [] [] [4] (Rn QSn ?_)
 refine Lc1 rfl ?_
 replace a := a.k17
 refine LT wn (r_stbn (vals' := [.bool k.1, l.v]) (us := [.bool k.1, l.v]) a ST_31 e0 e0 rfl rfl (one_of rfl) rfl) fun w a => Dz [] [] (Rn QSn (q _ _ (wp_ret ?_)))
 cases d
 exact o _ _ _ (fin1r Tryz.results105 (rcs2 rfl rfl a R0 ST_31 rfl) ⟨_, rfl, ((a.k21).facts (allT allI))⟩)
theorem sparseref01_Norm_ok {b : Bool} {f : LI} {c : Hdr} {out : Bool × LI} (d : sparseref01_Norm b f = some out) (j : imm (rI .u32) c.v f ∈ ros) (a : St w0 ros rs w) :
  Calls Tryz.prog 78 #[.agg #[.bool b, c.v]] w (fun e w => ∃ (g : Hdr), e = .returned (.agg #[.bool out.1, g.v]) ∧ St w0 ros (row 103 (rI .u32) g.v out.2 :: rs) w) := by
 refine enterQ Tryz.func78 rfl Tryz.ntmps78 rfl fun Q k => sR fun _ l => yBb (r_box (vals := [.bool b, c.v]) a e0 rfl) fun o w a => yBb (rAl a ZT_31) fun p w a => wK l (sR fun _ m => yY (yFb FL_31_0 e0) (yY (lb_ (.bool b) O_4 e0 a R1) (yY (yFb FL_31_1 e0) ?_)))
 refine yY (lb_ c.v O_29 e0 a R1) (bE d fun h n d => yC (yCall FN_110 (a2 e0 e0)) (sparseref01_make1_ok n j a) ?_)
 rintro _ w ⟨i, rfl, a⟩
 refine ⟨_, rfl, ?_⟩
 refine yT (r_stbn (vals' := [.bool h.1, i.v]) (us := [.bool h.1, i.v]) (a.k17) ST_31 e0 e0 rfl rfl (one_of rfl) rfl) fun w a => wK m (wp_ret ?_)
 cases d
 exact k _ _ _ (fin1r Tryz.results78 (rcs2 rfl rfl a R0 ST_31 rfl) ⟨_, rfl, (a.k11)⟩)
theorem sparseref01_Sign_ok {d : Bool} {j : LI} {f : Hdr} {out : Int} (b : sparseref01_Sign d j = some out) (l : imm (rI .u32) f.v j ∈ ros) (a : St w0 ros rs w) :
  Calls Tryz.prog 34 #[.agg #[.bool d, f.v]] w (fun e w => e = .returned (iV out) ∧ St w0 ros rs w) := by
 refine enterQ Tryz.func34 rfl Tryz.ntmps34 rfl fun Q g => sR fun _ m => yBb (r_box (vals := [.bool d, f.v]) a e0 rfl) fun z w a => Ya (iV 0) rfl (wK m (sR fun _ n => yY (lbs_ [.bool d, f.v] ST_31 e0 a R0) (bE b fun c o b => yC (yCall FN_78 (a1 e0)) (sparseref01_Norm_ok o l a) ?_)))
 rintro _ w ⟨h, rfl, a⟩
 refine ⟨_, rfl, ?_⟩
 refine yT (r_stbn (vals' := [.bool c.1, h.v]) (us := [.bool c.1, h.v]) (a.k17) ST_31 e0 e0 rfl rfl (one_of rfl) rfl) fun w a => wK n (seqQ fun A p k => blockQ fun _ i => sR fun _ q => yY (yFb FL_31_1 e0) (yY (lb_ h.v O_29 e0 a R0) (yY (yLen SL_29 e0 a rO1) (yY (yeql e0 rfl) (Ya (.bool (decide ((c.2.length : Int) = 0))) e0 (wN ?_))))))
 refine q _ _ ?_
 refine cIf e0 b (fun r b => ?_) fun r b => ?_
 ·refine sR fun _ s => Ya (iV 0) rfl (wK s (wp_ret (i _ _ _ (k _ _ _ rfl ?_))))
  cases b
  exact g _ _ _ (fin1r Tryz.results34 ⟨rfl, rfl⟩ ⟨rfl, (a.k1c)⟩)
 ·refine sR fun _ t => yY (yFb FL_31_0 e0) (yY (lb_ (.bool c.1) O_4 e0 a R0) (Ya (.bool c.1) e0 (wK t (cB e0 b (fun u b => ?_) fun u b => ?_))))
  ·refine sR fun _ x => Ya (iV (-1)) rfl (wK x (wp_ret (i _ _ _ (k _ _ _ rfl ?_))))
   cases b
   exact g _ _ _ (fin1r Tryz.results34 ⟨rfl, rfl⟩ ⟨rfl, (a.k1c)⟩)
  ·refine wp_skip (i _ _ _ (p _ _ (sR fun _ y => Ya (iV 1) rfl (wK y (wp_ret ?_)))))
   cases b
   exact g _ _ _ (fin1r Tryz.results34 ⟨rfl, rfl⟩ ⟨rfl, (a.k1c)⟩)
theorem sparseref01_Cmp_ok {c : Bool} {h : LI} {d : Bool} {i : LI} {f g : Hdr} {out : Int} (b : sparseref01_Cmp c h d i = some out) (j : imm (rI .u32) f.v h ∈ ros) (k : imm (rI .u32) g.v i ∈ ros) (a : St w0 ros rs w) :
  Calls Tryz.prog 55 #[.agg #[.bool c, f.v], .agg #[.bool d, g.v]] w (fun e w => e = .returned (iV out) ∧ St w0 ros rs w) := by
 refine enterQ Tryz.func55 rfl Tryz.ntmps55 rfl fun Q l => sR fun _ m => yBb (r_box (vals := [.bool c, f.v]) a e0 rfl) fun r w a => yBb (r_box (vals := [.bool d, g.v]) a e0 rfl) fun s w a => Ya (iV 0) rfl (wK m (sR fun _ n => yY (lbs_ [.bool c, f.v] ST_31 e0 a R1) (yY (lbs_ [.bool d, g.v] ST_31 e0 a R0) ?_)))
 refine bE b fun t o b => yC (yCall FN_105 (a2 e0 e0)) (sparseref01_Sub_ok o j k a) ?_
 rintro _ w ⟨u, rfl, a⟩
 refine ⟨_, rfl, ?_⟩
 refine bE b fun p q b => ?_
 replace a := a.fz
 refine yC (yCall FN_34 (a1 e0)) (sparseref01_Sign_ok q F0 a) ?_
 rintro _ w ⟨rfl, a⟩
 refine ⟨_, rfl, ?_⟩
 refine Ya (iV p) e0 (wK n (wp_ret ?_))
 cases b
 exact l _ _ _ (fin1r Tryz.results55 ⟨rfl, rfl⟩ ⟨rfl, ((a.k1c).facts (allT allI))⟩)
theorem sparseref08_Symmetric_ok {p : List (List (Bool × LI))} {g : Hdr} {out : Bool} (l : sparseref08_Symmetric p = some out) (j : imm (rS (rP rB (rS (rI .u32)))) g.v p ∈ ros) (b : St w0 ros rs w) :
  Calls Tryz.prog 15 #[g.v] w (fun e w => e = .returned (.bool out) ∧ St w0 ros rs w) := by
 refine enterQ Tryz.func15 rfl Tryz.ntmps15 rfl fun Q q => sR fun _ N => Ya (.bool false) rfl (wK N (seqQ fun c8 O R => sR fun _ S => Ya (iV 0) rfl (wK S (blockQ fun r t => bE l fun u T l => ?_))))
 have U : ∀ (f : FV) w, St w0 ros rs w → .inl () = u → r (.exit 0) (fr 32 f) w := by
  intro f w b ho
  subst ho
  refine t _ _ _ (O _ _ (sR fun _ V => Ya (.bool true) rfl (wK V (wp_ret ?_))))
  cases l
  exact q _ _ _ (fin1r Tryz.results15 ⟨rfl, rfl⟩ ⟨rfl, b⟩)
 have W : ∀ (f : FV) w, f 2 = .bool false → St w0 ros rs w → .inr () = u → r .ret (fr 32 f) w := by
  intro f w X b ho
  subst ho
  refine t _ _ _ (R _ _ _ rfl ?_)
  cases l
  exact q _ _ _ (fin1r Tryz.results15 ⟨rfl, X⟩ ⟨rfl, b⟩)
 refine loopQ (fun s a w => ∃ (d : Int) (f : FV), d = s ∧ a = fr 32 f ∧ f 0 = g.v ∧ f 3 = iV d ∧ St w0 ros rs w) T ⟨_, _, rfl, rfl, rfl, rfl, b⟩ ?_
 rintro _ _ w c9 ⟨d, f, rfl, rfl, x, y, b⟩ h z d0 Z A
 refine seqQ fun d1 a0 a1 => sR fun _ a3 => Ym (iV d) (eh y) (Ym g.v (eh x) (yY (yLen SL_22 e0 b (rdI j)) (yY (ylss e0 e0) (wK a3 ?_))))
 refine cIf e0 h (fun a4 h => ?_) fun a4 h => ?_
 ·refine wp_skip (a0 _ _ (seqQ fun d2 a5 a6 => blockQ fun _ B => sR fun _ a7 => Ya (iV 0) rfl (wK a7 (blockQ fun C D => bE h fun E a8 h => ?_))))
  have a9 : ∀ (f : FV) w, f 0 = g.v → f 3 = iV d → St w0 ros rs w → .inl () = E → C (.exit 2) (fr 32 f) w := by
   intro f w b0 b1 b ho
   subst ho
   refine D _ _ _ (B _ _ _ (a5 _ _ (wR (Ym (iV d) (eh b1) (yY (yadd e0 rfl) (Ya (iV (wa .i64 d 1)) e0 (wN ?_)))))))
   cases h
   exact Z _ _ _ rfl ⟨_, _, rfl, rfl, b0, rfl, b⟩
  have b2 : ∀ (f : FV) w, f 2 = .bool false → St w0 ros rs w → .inr () = E → C .ret (fr 32 f) w := by
   intro f w b3 b ho
   subst ho
   refine D _ _ _ (B _ _ _ (a6 _ _ _ rfl ?_))
   cases h
   exact A _ _ _ _ rfl rfl (W _ _ b3 b (z _ rfl))
  refine loopQ (fun s a w => ∃ (i : Int) (f : FV), i = s ∧ a = fr 32 f ∧ f 0 = g.v ∧ f 3 = iV d ∧ f 4 = iV i ∧ St w0 ros rs w) a8 ⟨_, _, rfl, rfl, x, y, rfl, b⟩ ?_
  rintro _ _ w d3 ⟨i, f, rfl, rfl, m, k, n, b⟩ c F d4 b4 G
  refine seqQ fun d5 b5 b6 => sR fun _ b7 => Ym (iV i) (eh n) (Ym (iV d) (eh k) (yY (ylss e0 e0) (wK b7 ?_)))
  refine cIf e0 c (fun b8 c => ?_) fun b8 c => ?_
  ·refine wp_skip (b5 _ _ (seqQ fun d6 b9 c0 => blockQ fun _ H => sQ fun _ c1 => bE c fun d7 I c => bE c fun c2 J c => bE c fun d8 K c => bE c fun c3 L c => bE c fun d9 c4 c => dR [0, 0, 3, 7, 0, 31, 63, 0, 0, 384, 896, 0, 3968, 8064, 16383, 32767] [14] 1 folM ?_))
   replace b := b.drew
   refine Dn [0, 1, 2, 3, 4, 5, 6, 7, 8, 9, 10, 11, 12, 13] [] [14] (yR rfl (m_ g.v (eh m)) (yR rfl (m_ (iV d) (eh k)) (yR rfl (yIa SL_22 e0 e0 b (rdI j) I) ?_)))
   obtain ⟨e1, b⟩ := iLs b j I
   refine yR rfl (yCt O_32 e0 b F1 rfl) (yR rfl (m_ (iV i) (eh n)) (yR rfl (yIa SL_32 e0 e0 b (rdI F0) J) ?_))
   obtain ⟨e2, e3, b⟩ := iLd b F0 J
   obtain ⟨e4, e5, rfl, b⟩ := b.eltP
   obtain ⟨rfl, b⟩ := b.eltB
   obtain ⟨c5, rfl, b⟩ := b.eltS
   refine yR rfl (yCtn (cs := [.bool c2.1, c5.v]) ST_31 rfl e0 b F1) (yR rfl (m_ g.v (eh m)) (yR rfl (m_ (iV i) (eh n)) (yR rfl (yIa SL_22 e0 e0 b (rdI (F_4 j)) K) ?_)))
   obtain ⟨e6, b⟩ := iLs b (F_4 j) K
   refine yR rfl (yCt O_32 e0 b F1 rfl) (yR rfl (m_ (iV d) (eh k)) (yR rfl (yIa SL_32 e0 e0 b (rdI F0) L) ?_))
   obtain ⟨e7, e8, b⟩ := iLd b F0 L
   obtain ⟨e9, f0, rfl, b⟩ := b.eltP
   obtain ⟨rfl, b⟩ := b.eltB
   obtain ⟨c6, rfl, b⟩ := b.eltS
   refine yR rfl (yCtn (cs := [.bool c3.1, c6.v]) ST_31 rfl e0 b F1) (Rn QSn ?_)
   refine Lc1 rfl ?_
   refine Lk wn (yCall FN_55 (a2 e0 e0)) (sparseref01_Cmp_ok c4 F4 F0 b) ?_
   rintro _ w ⟨rfl, b⟩
   refine ⟨_, rfl, ?_⟩
   refine Dz [15] [] (yR rfl (yneq e0 rfl) (Rn QSn (c1 _ _ ?_)))
   rcases iteS c with ⟨o, c⟩ | ⟨o, c⟩
   ·refine condF e0 (nF (dT o)) (wp_skip (H _ _ _ (b9 _ _ (wR (Ym (iV i) (eh n) (yY (yadd e0 rfl) (Ya (iV (wa .i64 i 1)) e0 (wN ?_))))))))
    cases c
    exact b4 _ _ _ rfl ⟨_, _, rfl, rfl, m, k, rfl, (b.facts (allT (allT (allT (allT (allT (allT (allT (allT allI)))))))))⟩
   ·refine condT e0 (nT (dF o)) (sR fun _ c7 => Ya (.bool false) rfl (wK c7 (wp_ret (H _ _ _ (c0 _ _ _ rfl ?_)))))
    cases c
    exact G _ _ _ _ rfl rfl (b2 _ _ rfl (b.facts (allT (allT (allT (allT (allT (allT (allT (allT allI))))))))) (F _ rfl))
  ·refine wp_exit (b6 _ _ _ rfl ?_)
   cases c
   exact G _ _ _ _ rfl rfl (a9 _ _ m k b (F _ rfl))
 ·refine wp_exit (a1 _ _ _ rfl ?_)
  cases h
  exact A _ _ _ _ rfl rfl (U _ _ b (z _ rfl))
theorem sparseref01_FromInt_ok {c : Int} {out : Bool × LI} (d : sparseref01_FromInt c = some out) (a : St w0 ros rs w) :
  Calls Tryz.prog 84 #[iV c] w (fun e w => ∃ (g : Hdr), e = .returned (.agg #[.bool out.1, g.v]) ∧ St w0 ros (row 103 (rI .u32) g.v out.2 :: rs) w) := by
 refine enterQ Tryz.func84 rfl Tryz.ntmps84 rfl fun Q p => sR fun _ q => yBb (rAl a ZT_31) fun h w a => wK q (sR fun _ r => Ym (iV c) e0 (yY (ycv (k' := .u64) (by kernel_rfl) (by kernel_rfl) e0) (Ya (.int .u64 (wc .u64 c)) e0 (wK r ?_))))
 refine sQ fun s t => sR fun _ u => Ym (iV c) e0 (yY (ylss e0 rfl) (wK u ?_))
 have i : ∀ (b : Int) (f : FV) w, f 0 = iV c → f 2 = (pB h) → f 3 = .int .u64 b → St w0 ros (box h 31 [.bool false, hnil.v] :: rs) w → sparseref01_FromInt_j1 c b = some out → s .normal (fr 22 f) w := by
  intro b f w x j k a d
  refine t _ _ (sR fun _ y => Ym (iV c) (eh x) (yY (ylss e0 rfl) (Ym (.int .u64 b) (eh k) (yY (ycv (k' := .u32) (by kernel_rfl) (by kernel_rfl) e0) (Ym (.int .u64 b) (eh k) (yY (yshrc e0 rfl) (yY (ycv (k' := .u32) (by kernel_rfl) (by kernel_rfl) e0) (yH (rLt (n := 2) (l := [wc .u32 b, wc .u32 (wsrc .u64 b 32)]) a SL_29 [.int .u32 (wc .u32 b), .int .u32 (wc .u32 (wsrc .u64 b 32))] (bp2 e0 e0) rfl rfl (mks1 (cs := [.int .u32 (wc .u32 b)]) rfl mkI (mks1 (cs := [.int .u32 (wc .u32 (wsrc .u64 b 32))]) rfl mkI mks0))) fun B w a => bE d fun m z d => ?_))))))))
  replace a := a.fz
  refine yC (yCall FN_110 (a2 e0 e0)) (sparseref01_make1_ok z F0 a) ?_
  rintro _ w ⟨o, rfl, a⟩
  refine ⟨_, rfl, ?_⟩
  refine yT (r_stbn (vals' := [.bool m.1, o.v]) (us := [.bool m.1, o.v]) (a.k17) ST_31 (eh j) e0 rfl rfl (one_of rfl) rfl) fun w a => wK y (wp_ret ?_)
  cases d
  exact p _ _ _ (fin1r Tryz.results84 (rcs2 rfl j a R0 ST_31 rfl) ⟨_, rfl, ((a.k20).facts (allT allI))⟩)
 refine cIf e0 d (fun A d => ?_) fun A d => ?_
 ·exact wR (Ym (iV c) e0 (yY (yadd e0 rfl) (yY (yneg e0) (yY (ycv (k' := .u64) (by kernel_rfl) (by kernel_rfl) e0) (yY (yadd e0 rfl) (Ya (.int .u64 (wa .u64 (wc .u64 (wneg .i64 (wa .i64 c 1))) 1)) e0 (wN (i _ _ _ rfl rfl rfl a d))))))))
 ·exact wp_skip (i _ _ _ rfl rfl rfl a d)
theorem sparseref08_fracs_ok {H : List (List (Bool × LI))} {h : Hdr} {out : (List (List (Bool × LI × Bool × LI)))} (C : sparseref08_fracs H = some out) (q : imm (rS (rP rB (rS (rI .u32)))) h.v H ∈ ros) (b : St w0 ros rs w) :
  Calls Tryz.prog 56 #[h.v] w (fun e w => ∃ (I : Hdr) (J : List Hdr), e = .returned (I.v) ∧ St w0 ros (row 81 rH I.v J :: fam 80 (rP rB (rP (rS (rI .u32)) (rP rB (rS (rI .u32))))) J out :: rs) w) := by
 refine enterQ Tryz.func56 rfl Tryz.ntmps56 rfl fun Q W => sR fun _ X => Ya hnil.v rfl (wK X (sR fun _ Z => Ya hnil.v rfl (wK Z (sQ fun _ a0 => sR fun _ a2 => ?_))))
 refine Ya (iV 0) rfl (wK a2 (blockQ fun a3 a4 => bE C fun a5 a6 C => ?_))
 have a7 : ∀ (D : List (List (Bool × LI × Bool × LI))) (r : Hdr) (E : List Hdr) (f : FV) w, f 3 = r.v → St w0 ros (row 81 rH r.v E :: fam 80 (rP rB (rP (rS (rI .u32)) (rP rB (rS (rI .u32))))) E D :: rs) w → D = a5 → a3 (.exit 0) (fr 40 f) w := by
  intro D r E f w a8 b ho
  subst ho
  refine a4 _ _ _ (a0 _ _ (sR fun _ a9 => Ym r.v (eh a8) (Ya r.v e0 (wK a9 (wp_ret ?_)))))
  cases C
  exact W _ _ _ (fin1r Tryz.results56 ⟨rfl, rfl⟩ ⟨_, _, rfl, b⟩)
 replace b := ((b.rowNh 81 rH).fNew 80 (rP rB (rP (rS (rI .u32)) (rP rB (rS (rI .u32)))))).k17
 refine loopQ (fun s a w => ∃ (t : List (List (Bool × LI × Bool × LI))) (d : Int) (f : FV) (i : Hdr) (j : List Hdr), (t, d) = s ∧ a = fr 40 f ∧ f 0 = h.v ∧ f 3 = i.v ∧ f 4 = iV d ∧ St w0 ros (row 81 rH i.v j :: fam 80 (rP rB (rP (rS (rI .u32)) (rP rB (rS (rI .u32))))) j t :: rs) w) a6 ⟨_, _, _, _, _, rfl, rfl, rfl, rfl, rfl, b⟩ ?_
 rintro _ _ w e9 ⟨t, d, f, i, j, rfl, rfl, K, L, N, b⟩ g b0 f0 b1 b2
 refine seqQ fun f1 b3 b4 => sR fun _ b5 => Ym (iV d) (eh N) (Ym h.v (eh K) (yY (yLen SL_22 e0 b (rdI q)) (yY (ylss e0 e0) (wK b5 ?_))))
 refine cIf e0 g (fun b6 g => ?_) fun b6 g => ?_
 ·refine wp_skip (b3 _ _ (sQ fun _ b7 => blockQ fun _ b8 => sR fun _ b9 => Ya hnil.v rfl (wK b9 (sQ fun _ c0 => sR fun _ c1 => Ya (iV 0) rfl (wN ?_)))))
  refine c1 _ _ (blockQ fun c2 c3 => bE g fun c4 c5 g => ?_)
  have c6 : ∀ (u : List (Bool × LI × Bool × LI)) (k : Hdr) (f : FV) w, f 0 = h.v → f 3 = i.v → f 4 = iV d → f 5 = k.v → St w0 ros (row 81 rH i.v j :: fam 80 (rP rB (rP (rS (rI .u32)) (rP rB (rS (rI .u32))))) j t :: row 80 (rP rB (rP (rS (rI .u32)) (rP rB (rS (rI .u32))))) k.v u :: rs) w → u = c4 → c2 (.exit 2) (fr 40 f) w := by
   intro u k f w c7 c8 c9 d0 b ho
   subst ho
   refine c3 _ _ _ (c0 _ _ (wR (Ym i.v (eh c8) (Ym k.v (eh d0) (yH (rLt (n := 1) (l := [k]) b SLH_75 [k.v] (bp1 e0) rfl rfl (mks1 rfl (mkF rfl) mks0)) fun f2 w b => bE g fun f3 O g => ?_)))))
   replace b := b.k17
   obtain ⟨f4, ey191, d1⟩ := app_rep O (b.famL R2) (show [k].length = [u].length from rfl)
   refine yH (rAp b SLH_75 e0 e0 rO1 d1) fun d2 w b => ?_
   replace b := (b.k12).fPush
   rw [← ey191, ← (app_some O).1] at b
   refine Ya d2.v e0 (wN (b8 _ _ _ (b7 _ _ (wR (Ym (iV d) (eh c9) (yY (yadd e0 rfl) (Ya (iV (wa .i64 d 1)) e0 (wN ?_))))))))
   cases g
   exact b1 _ _ _ rfl ⟨_, _, _, _, _, rfl, rfl, c7, rfl, rfl, (b.k1b)⟩
  replace b := b.rowNh 80 (rP rB (rP (rS (rI .u32)) (rP rB (rS (rI .u32)))))
  refine loopQ (fun s a w => ∃ (F : List (Bool × LI × Bool × LI)) (m : Int) (f : FV) (x : Hdr), (F, m) = s ∧ a = fr 40 f ∧ f 0 = h.v ∧ f 3 = i.v ∧ f 4 = iV d ∧ f 5 = x.v ∧ f 6 = iV m ∧ St w0 ros (row 81 rH i.v j :: fam 80 (rP rB (rP (rS (rI .u32)) (rP rB (rS (rI .u32))))) j t :: row 80 (rP rB (rP (rS (rI .u32)) (rP rB (rS (rI .u32))))) x.v F :: rs) w) c5 ⟨_, _, _, _, rfl, rfl, K, L, N, rfl, rfl, (b.k1e)⟩ ?_
  rintro _ _ w f5 ⟨F, m, f, x, rfl, rfl, y, R, z, S, G, b⟩ c d3 f6 d4 d5
  refine seqQ fun f7 d6 d7 => sR fun _ d8 => Ym (iV m) (eh G) (Ym h.v (eh y) (Ym (iV d) (eh z) (bE c fun f8 T c => yY (yIa SL_22 e0 e0 b (rdI q) T) ?_)))
  obtain ⟨f9, b⟩ := iLs b q T
  refine yY (yCt O_32 e0 b F1 rfl) (yY (yLen SL_32 e0 b (rdI F0)) (yY (ylss e0 e0) (wK d8 ?_)))
  refine cIf e0 c (fun d9 c => ?_) fun d9 c => ?_
  ·refine wp_skip (d6 _ _ (sQ fun _ e1 => blockQ fun _ e2 => wR (Ym x.v (eh S) (Ym h.v (eh y) (Ym (iV d) (eh z) (bE c fun g0 U c => yY (yIa SL_22 e0 e0 b (rdI (F_2 q)) U) ?_))))))
   obtain ⟨g1, b⟩ := iLs b (F_2 q) U
   refine yY (yCt O_32 e0 b F1 rfl) (Ym (iV m) (eh G) (bE c fun e3 V c => yY (yIa SL_32 e0 e0 b (rdI F0) V) ?_))
   obtain ⟨g2, g3, b⟩ := iLd b F0 V
   obtain ⟨g4, g5, rfl, b⟩ := b.eltP
   obtain ⟨rfl, b⟩ := b.eltB
   obtain ⟨e4, rfl, b⟩ := b.eltS
   refine yY (yCtn (cs := [.bool e3.1, e4.v]) ST_31 rfl e0 b F1) (bE c fun o e5 c => yC (yCall FN_78 (a1 e0)) (sparseref01_Norm_ok e5 F0 b) ?_)
   rintro _ w ⟨A, rfl, b⟩
   refine ⟨_, rfl, ?_⟩
   refine bE c fun p e6 c => yC (yCall FN_84 (a1 rfl)) (sparseref01_FromInt_ok e6 b) ?_
   rintro _ w ⟨B, rfl, b⟩
   refine ⟨_, rfl, ?_⟩
   refine yY (ybuild (us := [.bool o.1, A.v, .bool p.1, B.v]) [(0, .agg #[.bool o.1, A.v]), (1, .agg #[.bool p.1, B.v])] SO_80 (bp2 e0 e0) rfl) (yH (rLt (n := 1) (l := [(o.1, o.2, p.1, p.2)]) (((b.k17).fz).fz) SL_81 [.agg #[.bool o.1, A.v, .bool p.1, B.v]] (bp1 e0) rfl rfl (mks1 (cs := [.bool o.1, A.v, .bool p.1, B.v]) rfl (mkP mkB (mkP (mkS F1) (mkP mkB (mkS F0)))) mks0)) fun g6 w b => bE c fun g7 e7 c => yH (rAp (b.k13) SL_81 e0 e0 rO1 e7) fun e8 w b => Ya e8.v e0 (wN (e2 _ _ _ (e1 _ _ (wR (Ym (iV m) (eh G) (yY (yadd e0 rfl) (Ya (iV (wa .i64 m 1)) e0 ?_))))))))
   refine wN ?_
   cases c
   exact d4 _ _ _ rfl ⟨_, _, _, _, rfl, rfl, y, R, z, rfl, rfl, ((b.k1d).facts (allT (allT (allT (allT (allT (allT (allT (allT allI)))))))))⟩
  ·refine wp_exit (d7 _ _ _ rfl ?_)
   cases c
   exact d5 _ _ _ _ rfl rfl (c6 _ _ _ _ y R z S (b.facts (allT (allT allI))) (d3 _ rfl))
 ·refine wp_exit (b4 _ _ _ rfl ?_)
  cases g
  exact b2 _ _ _ _ rfl rfl (a7 _ _ _ _ _ L b (b0 _ rfl))
theorem sparseref08_zero_ok {b : Bool} {h : LI} {d : Bool} {i : LI} {c f : Hdr} {out : Bool} (g : sparseref08_zero b h d i = some out) (j : imm (rI .u32) c.v h ∈ ros) (p : imm (rI .u32) f.v i ∈ ros) (a : St w0 ros rs w) :
  Calls Tryz.prog 106 #[.agg #[.bool b, c.v, .bool d, f.v]] w (fun e w => e = .returned (.bool out) ∧ St w0 ros rs w) := by
 refine enterQ Tryz.func106 rfl Tryz.ntmps106 rfl fun Q k => sR fun _ l => yBb (r_box (vals := [.bool b, c.v, .bool d, f.v]) a e0 rfl) fun q w a => Ya (.bool false) rfl (wK l (sR fun _ m => yY (yFb FL_80_0 e0) (yY (lbs_ [.bool b, c.v] ST_31 e0 a R0) (bE g fun n o g => yC (yCall FN_34 (a1 e0)) (sparseref01_Sign_ok o j a) ?_))))
 rintro _ w ⟨rfl, a⟩
 refine ⟨_, rfl, ?_⟩
 refine yY (yeql e0 rfl) (Ya (.bool (decide (n = 0))) e0 (wK m (wp_ret ?_)))
 cases g
 exact k _ _ _ (fin1r Tryz.results106 ⟨rfl, rfl⟩ ⟨rfl, (a.k10)⟩)
theorem sparseref08_pivot_ok {K : List (List (Bool × LI × Bool × LI))} {L : LI} {k h : Hdr} {out : Int × Int} (o : sparseref08_pivot K L = some out) (u : imm (rS (rP rB (rP (rS (rI .u32)) (rP rB (rS (rI .u32)))))) k.v K ∈ ros) (g : imm I1 h.v L ∈ ros) (b : St w0 ros rs w) :
  Calls Tryz.prog 57 #[k.v, h.v] w (fun e w => e = .returned (.tuple #[iV out.1, iV out.2]) ∧ St w0 ros rs w) := by
 refine enterQ Tryz.func57 rfl Tryz.ntmps57 rfl fun Q z => sR fun _ c3 => Ya (iV 0) rfl (Ya (iV 0) rfl (wK c3 (seqQ fun j1 c4 c5 => sR fun _ c6 => Ya (iV 0) rfl (wK c6 (blockQ fun N O => ?_)))))
 refine bE o fun R c7 o => ?_
 have c8 : ∀ (f : FV) w, f 0 = k.v → f 1 = h.v → St w0 ros rs w → .inl () = R → N (.exit 0) (fr 72 f) w := by
  intro f w c9 d0 b ho
  subst ho
  refine O _ _ _ (c4 _ _ (seqQ fun j2 d1 d2 => sR fun _ d3 => Ya (iV 0) rfl (wK d3 (blockQ fun S T => bE o fun U d4 o => ?_))))
  have d5 : ∀ (f : FV) w, St w0 ros rs w → .inl () = U → S (.exit 2) (fr 72 f) w := by
   intro f w b ho
   subst ho
   refine T _ _ _ (d1 _ _ (sR fun _ d6 => Ya (iV (-1)) rfl (Ya (iV (-1)) rfl (wK d6 (wp_ret ?_)))))
   cases o
   exact z _ _ _ (fin2r Tryz.results57 ⟨rfl, rfl⟩ ⟨rfl, rfl⟩ ⟨rfl, b⟩)
  have d7 : ∀ (A B : Int) (f : FV) w, f 4 = iV A → f 5 = iV B → St w0 ros rs w → .inr (A, B) = U → S .ret (fr 72 f) w := by
   intro A B f w d8 d9 b ho
   subst ho
   refine T _ _ _ (d2 _ _ _ rfl ?_)
   cases o
   exact z _ _ _ (fin2r Tryz.results57 ⟨rfl, d8⟩ ⟨rfl, d9⟩ ⟨rfl, b⟩)
  refine loopQ (fun s a w => ∃ (i : Int) (f : FV), i = s ∧ a = fr 72 f ∧ f 0 = k.v ∧ f 1 = h.v ∧ f 7 = iV i ∧ St w0 ros rs w) d4 ⟨_, _, rfl, rfl, c9, d0, rfl, b⟩ ?_
  rintro _ _ w j3 ⟨i, f, rfl, rfl, e1, V, W, b⟩ m X j4 e2 Z
  refine seqQ fun j5 e3 e4 => sR fun _ e5 => Ym (iV i) (eh W) (Ym h.v (eh V) (yY (yLen SL_48 e0 b (rdI g)) (yY (ylss e0 e0) (wK e5 ?_))))
  refine cIf e0 m (fun e6 m => ?_) fun e6 m => ?_
  ·refine wp_skip (e3 _ _ (seqQ fun j6 e7 e8 => blockQ fun _ a0 => sR fun _ e9 => Ya (iV 0) rfl (wK e9 (blockQ fun a2 a3 => bE m fun a4 f0 m => ?_))))
   have f1 : ∀ (f : FV) w, f 0 = k.v → f 1 = h.v → f 7 = iV i → St w0 ros rs w → .inl () = a4 → a2 (.exit 4) (fr 72 f) w := by
    intro f w f2 f3 f4 b ho
    subst ho
    refine a3 _ _ _ (a0 _ _ _ (e7 _ _ (wR (Ym (iV i) (eh f4) (yY (yadd e0 rfl) (Ya (iV (wa .i64 i 1)) e0 (wN ?_)))))))
    cases m
    exact e2 _ _ _ rfl ⟨_, _, rfl, rfl, f2, f3, rfl, b⟩
   have f5 : ∀ (C D : Int) (f : FV) w, f 4 = iV C → f 5 = iV D → St w0 ros rs w → .inr (C, D) = a4 → a2 .ret (fr 72 f) w := by
    intro C D f w f6 f7 b ho
    subst ho
    refine a3 _ _ _ (a0 _ _ _ (e8 _ _ _ rfl ?_))
    cases m
    exact Z _ _ _ _ rfl rfl (d7 _ _ _ _ f6 f7 b (X _ rfl))
   refine loopQ (fun s a w => ∃ (l : Int) (f : FV), l = s ∧ a = fr 72 f ∧ f 0 = k.v ∧ f 1 = h.v ∧ f 7 = iV i ∧ f 8 = iV l ∧ St w0 ros rs w) f0 ⟨_, _, rfl, rfl, e1, V, W, rfl, b⟩ ?_
   rintro _ _ w j7 ⟨l, f, rfl, rfl, E, p, r, t, b⟩ c a5 j8 f8 a6
   refine seqQ fun j9 f9 g0 => sR fun _ g1 => Ym (iV l) (eh t) (Ym (iV i) (eh r) (yY (ylss e0 e0) (wK g1 ?_)))
   refine cIf e0 c (fun g2 c => ?_) fun g2 c => ?_
   ·refine wp_skip (f9 _ _ (seqQ fun k0 g3 g4 => blockQ fun _ a7 => sQ fun _ g5 => bE c fun k4 a8 c => bE c fun k5 a9 c => bE c fun k6 b0 c => bE c fun b1 b2 c => bE c fun k7 g6 c => dR [0, 0, 0, 6, 14, 31, 63, 0, 0, 384, 896, 2047, 4095, 8191, 16383] [13] 1 folM ?_))
    replace b := b.drew
    refine Dn [0, 1, 2, 3, 4, 5, 6, 7, 8, 9, 10, 11, 12] [] [13] (yR rfl (m_ k.v (eh E)) (yR rfl (m_ h.v (eh p)) (yR rfl (m_ (iV i) (eh r)) (yR rfl (yIa SL_48 e0 e0 b (rdI g) a8) (yR rfl (yI O_3 e0 b (rdI g) a8) (yR rfl (yIa SL_75 e0 e0 b (rdI u) a9) ?_))))))
    obtain ⟨k8, b⟩ := iLs b u a9
    refine yR rfl (yCt O_81 e0 b F1 rfl) (yR rfl (m_ h.v (eh p)) (yR rfl (m_ (iV l) (eh t)) (yR rfl (yIa SL_48 e0 e0 b (rdI (F_2 g)) b0) (yR rfl (yI O_3 e0 b (rdI (F_2 g)) b0) (yR rfl (yIa SL_81 e0 e0 b (rdI F0) b2) ?_)))))
    obtain ⟨k9, l0, b⟩ := iLd b F0 b2
    obtain ⟨l1, l2, rfl, b⟩ := b.eltP
    obtain ⟨rfl, b⟩ := b.eltB
    obtain ⟨l3, l4, rfl, b⟩ := b.eltP
    obtain ⟨g7, rfl, b⟩ := b.eltS
    replace b := b.swf
    obtain ⟨l5, l6, rfl, b⟩ := b.eltP
    obtain ⟨rfl, b⟩ := b.eltB
    obtain ⟨g8, rfl, b⟩ := b.eltS
    refine yR rfl (yCtn (cs := [.bool b1.1, g7.v, .bool b1.2.2.1, g8.v]) ST_80 rfl e0 b F2) (Rn QSn ?_)
    refine Lc1 rfl ?_
    refine Lk wn (yCall FN_106 (a1 e0)) (sparseref08_zero_ok g6 F1 F0 b) ?_
    rintro _ w ⟨rfl, b⟩
    refine ⟨_, rfl, ?_⟩
    refine Dz [14] [] (yR rfl (ynot e0) (Rn QSn (g5 _ _ ?_)))
    rcases iteS c with ⟨F, c⟩ | ⟨F, c⟩
    ·refine condF e0 (nF F) (wp_skip (a7 _ _ _ (g3 _ _ (wR (Ym (iV l) (eh t) (yY (yadd e0 rfl) (Ya (iV (wa .i64 l 1)) e0 (wN ?_))))))))
     cases c
     exact f8 _ _ _ rfl ⟨_, _, rfl, rfl, E, p, r, rfl, (b.facts (allT (allT (allT (allT (allT allI))))))⟩
    ·refine condT e0 (nT (bfalse F)) (sQ fun _ g9 => bE c fun h0 b3 c => bE c fun h1 x c => dR [0, 0, 3, 7, 0, 0, 48, 112, 15, 511] [8, 9] 2 folM ?_)
     replace b := b.drew
     refine Dn [0, 1, 2, 3, 4, 5, 6, 7] [] [8] (yR rfl (m_ h.v (eh p)) (yR rfl (m_ (iV i) (eh r)) (yR rfl (yIa SL_48 e0 e0 b (rdI (F_5 g)) b3) (yR rfl (yI O_3 e0 b (rdI (F_5 g)) b3) (yR rfl (m_ h.v (eh p)) (yR rfl (m_ (iV l) (eh t)) (yR rfl (yIa SL_48 e0 e0 b (rdI (F_5 g)) x) (yR rfl (yI O_3 e0 b (rdI (F_5 g)) x) (Rn QSn ?_)))))))))
     refine Lc1 rfl ?_
     refine Ly wn (a_ (iV h0) e0) (Dn [] [4, 5, 6, 7] [9] (Rn (yS rfl (m_ h.v (eh p)) (yS rfl (m_ (iV l) (eh t)) (yS rfl (yIa SL_48 e0 e0 b (rdI (F_5 g)) x) (yS rfl (yI O_3 e0 b (rdI (F_5 g)) x) QSn)))) ?_))
     refine Lc1 rfl ?_
     refine Ly wn (a_ (iV h1) e0) (Dz [] [] (Rn QSn (g9 _ _ (wp_ret (a7 _ _ _ (g4 _ _ _ rfl ?_))))))
     cases c
     exact a6 _ _ _ _ rfl rfl (f5 _ _ _ _ rfl rfl (b.facts (allT (allT (allT (allT (allT allI)))))) (a5 _ rfl))
   ·refine wp_exit (g0 _ _ _ rfl ?_)
    cases c
    exact a6 _ _ _ _ rfl rfl (f1 _ _ E p r b (a5 _ rfl))
  ·refine wp_exit (e4 _ _ _ rfl ?_)
   cases m
   exact Z _ _ _ _ rfl rfl (d5 _ _ b (X _ rfl))
 have h3 : ∀ (G H : Int) (f : FV) w, f 4 = iV G → f 5 = iV H → St w0 ros rs w → .inr (G, H) = R → N .ret (fr 72 f) w := by
  intro G H f w h5 h6 b ho
  subst ho
  refine O _ _ _ (c5 _ _ _ rfl ?_)
  cases o
  exact z _ _ _ (fin2r Tryz.results57 ⟨rfl, h5⟩ ⟨rfl, h6⟩ ⟨rfl, b⟩)
 refine loopQ (fun s a w => ∃ (j : Int) (f : FV), j = s ∧ a = fr 72 f ∧ f 0 = k.v ∧ f 1 = h.v ∧ f 6 = iV j ∧ St w0 ros rs w) c7 ⟨_, _, rfl, rfl, rfl, rfl, rfl, b⟩ ?_
 rintro _ _ w l7 ⟨j, f, rfl, rfl, I, n, q, b⟩ d b4 l8 h7 b5
 refine seqQ fun l9 h8 h9 => sR fun _ i0 => Ym (iV j) (eh q) (Ym h.v (eh n) (yY (yLen SL_48 e0 b (rdI g)) (yY (ylss e0 e0) (wK i0 ?_))))
 refine cIf e0 d (fun i1 d => ?_) fun i1 d => ?_
 ·refine wp_skip (h8 _ _ (seqQ fun m0 i2 i3 => blockQ fun _ b6 => sQ fun _ i4 => bE d fun m1 b7 d => bE d fun m2 b8 d => bE d fun m3 b9 d => bE d fun c0 c1 d => bE d fun m4 i5 d => dR [0, 0, 0, 6, 14, 31, 63, 0, 0, 384, 896, 2047, 4095, 8191, 16383] [13] 1 folM ?_))
  replace b := b.drew
  refine Dn [0, 1, 2, 3, 4, 5, 6, 7, 8, 9, 10, 11, 12] [] [13] (yR rfl (m_ k.v (eh I)) (yR rfl (m_ h.v (eh n)) (yR rfl (m_ (iV j) (eh q)) (yR rfl (yIa SL_48 e0 e0 b (rdI g) b7) (yR rfl (yI O_3 e0 b (rdI g) b7) (yR rfl (yIa SL_75 e0 e0 b (rdI u) b8) ?_))))))
  obtain ⟨m5, b⟩ := iLs b u b8
  refine yR rfl (yCt O_81 e0 b F1 rfl) (yR rfl (m_ h.v (eh n)) (yR rfl (m_ (iV j) (eh q)) (yR rfl (yIa SL_48 e0 e0 b (rdI (F_2 g)) b9) (yR rfl (yI O_3 e0 b (rdI (F_2 g)) b9) (yR rfl (yIa SL_81 e0 e0 b (rdI F0) c1) ?_)))))
  obtain ⟨m6, m7, b⟩ := iLd b F0 c1
  obtain ⟨m8, m9, rfl, b⟩ := b.eltP
  obtain ⟨rfl, b⟩ := b.eltB
  obtain ⟨n0, n2, rfl, b⟩ := b.eltP
  obtain ⟨i6, rfl, b⟩ := b.eltS
  replace b := b.swf
  obtain ⟨n3, n6, rfl, b⟩ := b.eltP
  obtain ⟨rfl, b⟩ := b.eltB
  obtain ⟨i7, rfl, b⟩ := b.eltS
  refine yR rfl (yCtn (cs := [.bool c0.1, i6.v, .bool c0.2.2.1, i7.v]) ST_80 rfl e0 b F2) (Rn QSn ?_)
  refine Lc1 rfl ?_
  refine Lk wn (yCall FN_106 (a1 e0)) (sparseref08_zero_ok i5 F1 F0 b) ?_
  rintro _ w ⟨rfl, b⟩
  refine ⟨_, rfl, ?_⟩
  refine Dz [14] [] (yR rfl (ynot e0) (Rn QSn (i4 _ _ ?_)))
  rcases iteS d with ⟨J, d⟩ | ⟨J, d⟩
  ·refine condF e0 (nF J) (wp_skip (b6 _ _ _ (i2 _ _ (wR (Ym (iV j) (eh q) (yY (yadd e0 rfl) (Ya (iV (wa .i64 j 1)) e0 (wN ?_))))))))
   cases d
   exact h7 _ _ _ rfl ⟨_, _, rfl, rfl, I, n, rfl, (b.facts (allT (allT (allT (allT (allT allI))))))⟩
  ·refine condT e0 (nT (bfalse J)) (sQ fun _ i8 => bE d fun i9 c2 d => bE d fun j0 y d => dR [0, 0, 3, 7, 0, 0, 48, 112, 15, 511] [8, 9] 2 folM ?_)
   replace b := b.drew
   refine Dn [0, 1, 2, 3, 4, 5, 6, 7] [] [8] (yR rfl (m_ h.v (eh n)) (yR rfl (m_ (iV j) (eh q)) (yR rfl (yIa SL_48 e0 e0 b (rdI (F_5 g)) c2) (yR rfl (yI O_3 e0 b (rdI (F_5 g)) c2) (yR rfl (m_ h.v (eh n)) (yR rfl (m_ (iV j) (eh q)) (yR rfl (yIa SL_48 e0 e0 b (rdI (F_5 g)) y) (yR rfl (yI O_3 e0 b (rdI (F_5 g)) y) (Rn QSn ?_)))))))))
   refine Lc1 rfl ?_
   refine Ly wn (a_ (iV i9) e0) (Dn [] [4, 5, 6, 7] [9] (Rn (yS rfl (m_ h.v (eh n)) (yS rfl (m_ (iV j) (eh q)) (yS rfl (yIa SL_48 e0 e0 b (rdI (F_5 g)) y) (yS rfl (yI O_3 e0 b (rdI (F_5 g)) y) QSn)))) ?_))
   refine Lc1 rfl ?_
   refine Ly wn (a_ (iV j0) e0) (Dz [] [] (Rn QSn (i8 _ _ (wp_ret (b6 _ _ _ (i3 _ _ _ rfl ?_))))))
   cases d
   exact b5 _ _ _ _ rfl rfl (h3 _ _ _ _ rfl rfl (b.facts (allT (allT (allT (allT (allT allI)))))) (b4 _ rfl))
 ·refine wp_exit (h9 _ _ _ rfl ?_)
  cases d
  exact b5 _ _ _ _ rfl rfl (c8 _ _ I n b (b4 _ rfl))
theorem sparseref01_mulMag_ok {F G : LI} {l h : Hdr} {out : LI} (m : sparseref01_mulMag F G = some out) (x : imm (rI .u32) l.v F ∈ ros) (n : imm (rI .u32) h.v G ∈ ros) (b : St w0 ros rs w) :
  Calls Tryz.prog 115 #[l.v, h.v] w (fun e w => ∃ (H : Hdr), e = .returned (H.v) ∧ St w0 ros (row 103 (rI .u32) H.v out :: rs) w) := by
 refine enterQ Tryz.func115 rfl Tryz.ntmps115 rfl fun Q X => sR fun _ Z => Ya hnil.v rfl (wK Z (sR fun _ a0 => Ym l.v e0 (yY (yLen SL_29 e0 b (rdI x)) (Ym h.v e0 (yY (yLen SL_29 e0 b (rdI n)) (yY (yadd e0 e0) (bE m fun e3 a1 m => ?_)))))))
 refine yH (rMk b SL_29 e0 a1) fun c w b => Ya c.v e0 (wK a0 (sQ fun _ a2 => sR fun _ a3 => Ya (iV 0) rfl (wK a3 (blockQ fun a4 a5 => bE m fun a6 a7 m => ?_))))
 have a8 : ∀ (A : LI) (f : FV) w, f 5 = c.v → St w0 ros (row 103 (rI .u32) c.v A :: rs) w → A = a6 → a4 (.exit 0) (fr 66 f) w := by
  intro A f w a9 b ho
  subst ho
  refine a5 _ _ _ (a2 _ _ (sR fun _ b0 => Ym c.v (eh a9) (Ya c.v e0 (wK b0 (wp_ret ?_)))))
  cases m
  exact X _ _ _ (fin1r Tryz.results115 ⟨rfl, rfl⟩ ⟨_, rfl, b⟩)
 refine loopQ (fun s a w => ∃ (B : LI) (g : Int) (f : FV), (B, g) = s ∧ a = fr 66 f ∧ f 0 = l.v ∧ f 1 = h.v ∧ f 5 = c.v ∧ f 6 = iV g ∧ St w0 ros (row 103 (rI .u32) c.v B :: rs) w) a7 ⟨_, _, _, rfl, rfl, rfl, rfl, rfl, rfl, b⟩ ?_
 rintro _ _ w e4 ⟨B, g, f, rfl, rfl, I, b1, J, K, b⟩ i b2 e5 b3 b4
 refine seqQ fun e6 b5 b6 => sR fun _ b7 => Ym (iV g) (eh K) (Ym l.v (eh I) (yY (yLen SL_29 e0 b (rdI x)) (yY (ylss e0 e0) (wK b7 ?_))))
 refine cIf e0 i (fun b8 i => ?_) fun b8 i => ?_
 ·refine wp_skip (b5 _ _ (sQ fun _ b9 => blockQ fun _ c0 => sR fun _ c1 => Ya (.int .u64 0) rfl (wK c1 (sQ fun _ c2 => sR fun _ c3 => Ya (iV 0) rfl (wN ?_)))))
  refine c3 _ _ (blockQ fun c4 c5 => bE i fun c6 c7 i => ?_)
  have c8 : ∀ (C : LI) (o : Int) (f : FV) w, f 0 = l.v → f 1 = h.v → f 5 = c.v → f 6 = iV g → f 7 = .int .u64 o → St w0 ros (row 103 (rI .u32) c.v C :: rs) w → (C, o) = c6 → c4 (.exit 2) (fr 66 f) w := by
   intro C o f w c9 L N O d0 b ho
   subst ho
   refine c5 _ _ _ (c2 _ _ (wR (Ym c.v (eh N) (Ym (iV g) (eh O) (Ym h.v (eh L) (yY (yLen SL_29 e0 b (rdI n)) (yY (yadd e0 e0) (Ym (.int .u64 o) (eh d0) (yY (ycv (k' := .u32) (by kernel_rfl) (by kernel_rfl) e0) (bE i fun e7 R i => yY (yIs SL_29 e0 e0 b rO0 R) (yT (r_sti (cs := [.int .u32 (wc .u32 o)]) b O_103 rfl e0 e0 rfl mkI R) fun w b => ?_)))))))))))
   refine wN (c0 _ _ _ (b9 _ _ (wR (Ym (iV g) (eh O) (yY (yadd e0 rfl) (Ya (iV (wa .i64 g 1)) e0 (wN ?_)))))))
   cases i
   exact b3 _ _ _ rfl ⟨_, _, _, rfl, rfl, c9, L, N, rfl, b⟩
  refine loopQ (fun s a w => ∃ (D : LI) (j k : Int) (f : FV), (D, j, k) = s ∧ a = fr 66 f ∧ f 0 = l.v ∧ f 1 = h.v ∧ f 5 = c.v ∧ f 6 = iV g ∧ f 7 = .int .u64 j ∧ f 8 = iV k ∧ St w0 ros (row 103 (rI .u32) c.v D :: rs) w) c7 ⟨_, _, _, _, rfl, rfl, I, b1, J, K, rfl, rfl, b⟩ ?_
  rintro _ _ w e8 ⟨D, j, k, f, rfl, rfl, E, y, z, p, S, q, b⟩ d d1 e9 d2 d3
  refine seqQ fun f0 d4 d5 => sR fun _ d6 => Ym (iV k) (eh q) (Ym h.v (eh y) (yY (yLen SL_29 e0 b (rdI n)) (yY (ylss e0 e0) (wK d6 ?_))))
  refine cIf e0 d (fun d7 d => ?_) fun d7 d => ?_
  ·refine wp_skip (d4 _ _ (sQ fun _ d8 => blockQ fun _ d9 => sQ fun _ e1 => bE d fun r T d => bE d fun t U d => bE d fun u V d => dR [0, 0, 0, 6, 14, 30, 0, 0, 192, 448, 960, 2046, 4095, 0, 0, 0, 49152, 122880, 253952, 516096, 1048575, 2097151] [21] 1 folM ?_))
   replace b := b.drew
   refine Dn [0, 1, 2, 3, 4, 5, 6, 7, 8, 9, 10, 11, 12, 13, 14, 15, 16, 17, 18, 19, 20] [] [21] (yR rfl (m_ (.int .u64 j) (eh S)) (yR rfl (m_ l.v (eh E)) (yR rfl (m_ (iV g) (eh p)) (yR rfl (yIa SL_29 e0 e0 b (rdI x) T) (yR rfl (yI O_103 e0 b (rdI x) T) (yR rfl (ycv (k' := .u64) (by kernel_rfl) (by kernel_rfl) e0) (yR rfl (m_ h.v (eh y)) (yR rfl (m_ (iV k) (eh q)) (yR rfl (yIa SL_29 e0 e0 b (rdI n) U) (yR rfl (yI O_103 e0 b (rdI n) U) (yR rfl (ycv (k' := .u64) (by kernel_rfl) (by kernel_rfl) e0) (yR rfl (ymul e0 e0) (yR rfl (yadd e0 e0) ?_)))))))))))))
   refine yR rfl (m_ c.v (eh z)) (yR rfl (m_ (iV g) (eh p)) (yR rfl (m_ (iV k) (eh q)) (yR rfl (yadd e0 e0) (yR rfl (yIa SL_29 e0 e0 b rO0 V) (yR rfl (yI O_103 e0 b rO0 V) (yR rfl (ycv (k' := .u64) (by kernel_rfl) (by kernel_rfl) e0) (yR rfl (yadd e0 e0) (Rn QSn ?_))))))))
   refine Lc1 rfl ?_
   refine Ly wn (a_ (.int .u64 (wa .u64 (wa .u64 j (wm .u64 (wc .u64 r) (wc .u64 t))) (wc .u64 u))) e0) (Dz [] [] (Rn QSn (e1 _ _ (sR fun _ e2 => Ym c.v (eh z) (Ym (iV g) (eh p) (Ym (iV k) (eh q) (yY (yadd e0 e0) (Ym (.int .u64 (wa .u64 (wa .u64 j (wm .u64 (wc .u64 r) (wc .u64 t))) (wc .u64 u))) e0 (yY (ycv (k' := .u32) (by kernel_rfl) (by kernel_rfl) e0) (bE d fun f1 W d => yY (yIs SL_29 e0 e0 b rO0 W) ?_))))))))))
   refine yT (r_sti (cs := [.int .u32 (wc .u32 (wa .u64 (wa .u64 j (wm .u64 (wc .u64 r) (wc .u64 t))) (wc .u64 u)))]) b O_103 rfl e0 e0 rfl mkI W) fun w b => wK e2 (wR (Ym (.int .u64 (wa .u64 (wa .u64 j (wm .u64 (wc .u64 r) (wc .u64 t))) (wc .u64 u))) e0 (yY (yshrc e0 rfl) (Ya (.int .u64 (wsrc .u64 (wa .u64 (wa .u64 j (wm .u64 (wc .u64 r) (wc .u64 t))) (wc .u64 u)) 32)) e0 (wN (d9 _ _ _ (d8 _ _ (wR (Ym (iV k) (eh q) (yY (yadd e0 rfl) ?_))))))))))
   refine Ya (iV (wa .i64 k 1)) e0 (wN ?_)
   cases d
   exact d2 _ _ _ rfl ⟨_, _, _, _, rfl, rfl, E, y, z, p, rfl, rfl, b⟩
  ·refine wp_exit (d5 _ _ _ rfl ?_)
   cases d
   exact d3 _ _ _ _ rfl rfl (c8 _ _ _ _ E y z p S b (d1 _ rfl))
 ·refine wp_exit (b6 _ _ _ rfl ?_)
  cases i
  exact b4 _ _ _ _ rfl rfl (a8 _ _ _ J b (b2 _ rfl))
theorem sparseref01_Mul_ok {c : Bool} {h : LI} {d : Bool} {i : LI} {g f : Hdr} {out : Bool × LI} (b : sparseref01_Mul c h d i = some out) (m : imm (rI .u32) g.v h ∈ ros) (n : imm (rI .u32) f.v i ∈ ros) (a : St w0 ros rs w) :
  Calls Tryz.prog 86 #[.agg #[.bool c, g.v], .agg #[.bool d, f.v]] w (fun e w => ∃ (j : Hdr), e = .returned (.agg #[.bool out.1, j.v]) ∧ St w0 ros (row 103 (rI .u32) j.v out.2 :: rs) w) := by
 refine enterQ Tryz.func86 rfl Tryz.ntmps86 rfl fun Q o => sR fun _ p => yBb (r_box (vals := [.bool c, g.v]) a e0 rfl) fun x w a => yBb (r_box (vals := [.bool d, f.v]) a e0 rfl) fun y w a => yBb (rAl a ZT_31) fun z w a => wK p (sQ fun _ q => bE b fun A r b => bE b fun B s b => ?_)
 refine bE b fun C t b => bE b fun k u b => dR [0, 1, 0, 4, 15, 0, 32, 96, 0, 256, 992, 2016, 4095, 8191] [7, 10, 11, 12, 13] 5 folM ?_
 replace a := a.drew
 refine Dn [0, 1, 2, 3, 4, 5, 6, 8, 9] [] [7] (yR rfl (yFb FL_31_0 e0) (yR rfl (lb_ (.bool c) O_4 e0 a R2) (yR rfl (yFb FL_31_0 e0) (yR rfl (lb_ (.bool d) O_4 e0 a R1) (yR rfl (yneb (by kernel_rfl) e0 e0) (yR rfl (yFb FL_31_1 e0) (yR rfl (lb_ g.v O_29 e0 a R2) (yR rfl (yFb FL_31_1 e0) (yR rfl (lb_ f.v O_29 e0 a R1) (Rn QSn ?_))))))))))
 refine Lc1 rfl ?_
 refine Lk wn (yCall FN_116 (a1 e0)) (sparseref01_trim_ok r m a) ?_
 rintro _ w ⟨D, rfl, a⟩
 refine ⟨_, rfl, ?_⟩
 refine Dn [] [0, 1, 2, 3, 4, 8, 9] [10] (Rn (yS rfl (yFb FL_31_0 e0) (yS rfl (lb_ (.bool c) O_4 e0 a R3) (yS rfl (yFb FL_31_0 e0) (yS rfl (lb_ (.bool d) O_4 e0 a R2) (yS rfl (yneb (by kernel_rfl) e0 e0) (yS rfl (yFb FL_31_1 e0) (yS rfl (lb_ f.v O_29 e0 a R2) QSn))))))) ?_)
 refine Lc1 rfl ?_
 refine Lk wn (yCall FN_116 (a1 e0)) (sparseref01_trim_ok s n a) ?_
 rintro _ w ⟨E, rfl, a⟩
 refine ⟨_, rfl, ?_⟩
 refine Dn [] [0, 1, 2, 3, 4] [11] (Rn (yS rfl (yFb FL_31_0 e0) (yS rfl (lb_ (.bool c) O_4 e0 a R4) (yS rfl (yFb FL_31_0 e0) (yS rfl (lb_ (.bool d) O_4 e0 a R3) (yS rfl (yneb (by kernel_rfl) e0 e0) QSn))))) ?_)
 refine Lc1 rfl ?_
 replace a := ((a.k17).fz).fz
 refine Lk wn (yCall FN_115 (a2 e0 e0)) (sparseref01_mulMag_ok t F1 F0 a) ?_
 rintro _ w ⟨F, rfl, a⟩
 refine ⟨_, rfl, ?_⟩
 refine Dn [] [0, 1, 2, 3, 4] [12] (Rn (yS rfl (yFb FL_31_0 e0) (yS rfl (lb_ (.bool c) O_4 e0 a R3) (yS rfl (yFb FL_31_0 e0) (yS rfl (lb_ (.bool d) O_4 e0 a R2) (yS rfl (yneb (by kernel_rfl) e0 e0) QSn))))) ?_)
 refine Lc1 rfl ?_
 replace a := a.fz
 refine Lk wn (yCall FN_110 (a2 e0 e0)) (sparseref01_make1_ok u F0 a) ?_
 rintro _ w ⟨l, rfl, a⟩
 refine ⟨_, rfl, ?_⟩
 refine Dn [] [] [13] (Rn QSn ?_)
 refine Lc1 rfl ?_
 replace a := a.k17
 refine LT wn (r_stbn (vals' := [.bool k.1, l.v]) (us := [.bool k.1, l.v]) a ST_31 e0 e0 rfl rfl (one_of rfl) rfl) fun w a => Dz [] [] (Rn QSn (q _ _ (wp_ret ?_)))
 cases b
 exact o _ _ _ (fin1r Tryz.results86 (rcs2 rfl rfl a R0 ST_31 rfl) ⟨_, rfl, ((a.k21).facts (allT (allT (allT allI))))⟩)
theorem sparseref01_Abs_ok {c : Bool} {f : LI} {b : Hdr} {out : Bool × LI} (d : sparseref01_Abs c f = some out) (j : imm (rI .u32) b.v f ∈ ros) (a : St w0 ros rs w) :
  Calls Tryz.prog 72 #[.agg #[.bool c, b.v]] w (fun e w => ∃ (g : Hdr), e = .returned (.agg #[.bool out.1, g.v]) ∧ St w0 ros (row 103 (rI .u32) g.v out.2 :: rs) w) := by
 refine enterQ Tryz.func72 rfl Tryz.ntmps72 rfl fun Q k => sR fun _ l => yBb (r_box (vals := [.bool c, b.v]) a e0 rfl) fun o w a => yBb (rAl a ZT_31) fun p w a => wK l (sR fun _ m => yY (yFb FL_31_1 e0) (yY (lb_ b.v O_29 e0 a R1) (bE d fun h n d => ?_)))
 refine yC (yCall FN_110 (a2 rfl e0)) (sparseref01_make1_ok n j a) ?_
 rintro _ w ⟨i, rfl, a⟩
 refine ⟨_, rfl, ?_⟩
 refine yT (r_stbn (vals' := [.bool h.1, i.v]) (us := [.bool h.1, i.v]) (a.k17) ST_31 e0 e0 rfl rfl (one_of rfl) rfl) fun w a => wK m (wp_ret ?_)
 cases d
 exact k _ _ _ (fin1r Tryz.results72 (rcs2 rfl rfl a R0 ST_31 rfl) ⟨_, rfl, (a.k11)⟩)
theorem sparseref01_shl_ok {y : LI} {k : Int} {m : Hdr} {out : LI} (g : sparseref01_shl y k = some out) (q : imm (rI .u32) m.v y ∈ ros) (b : St w0 ros rs w) :
  Calls Tryz.prog 158 #[m.v, iV k] w (fun e w => ∃ (z : Hdr), e = .returned (z.v) ∧ St w0 ros (row 103 (rI .u32) z.v out :: rs) w) := by
 refine enterQ Tryz.func158 rfl Tryz.ntmps158 rfl fun Q E => sR fun _ F => Ya hnil.v rfl (wK F (sR fun _ G => Ym (iV k) e0 (yY (yquoc e0 rfl (by decide)) (bE g fun b4 H g => yH (rMk b SL_29 e0 H) fun I w b => Ya I.v e0 ?_))))
 refine wK G (sR fun _ J => Ya (.int .u64 0) rfl (wK J (sQ fun _ K => sR fun _ L => Ya (iV 0) rfl (wK L (blockQ fun N O => ?_)))))
 refine bE g fun R S g => ?_
 have T : ∀ (r : LI) (h : Int) (o : Hdr) (f : FV) w, f 5 = o.v → f 6 = .int .u64 h → St w0 ros (row 103 (rI .u32) o.v r :: rs) w → (r, h) = R → N (.exit 0) (fr 39 f) w := by
  intro r h o f w U V b ho
  subst ho
  refine O _ _ _ (K _ _ (sR fun _ W => Ym o.v (eh U) (Ym (.int .u64 h) (eh V) (yY (ycv (k' := .u32) (by kernel_rfl) (by kernel_rfl) e0) (yH (rLt (n := 1) (l := [wc .u32 h]) b SL_29 [.int .u32 (wc .u32 h)] (bp1 e0) rfl rfl (mks1 (cs := [.int .u32 (wc .u32 h)]) rfl mkI mks0)) fun b5 w b => bE g fun b6 X g => yH (rAp (b.k17) SL_29 e0 e0 rO1 X) fun Z w b => Ya Z.v e0 (wN ?_))))))
  refine W _ _ (wp_ret ?_)
  cases g
  exact E _ _ _ (fin1r Tryz.results158 ⟨rfl, rfl⟩ ⟨_, rfl, (b.k18)⟩)
 refine loopQ (fun s a w => ∃ (t : LI) (c i : Int) (f : FV) (p : Hdr), (t, c, i) = s ∧ a = fr 39 f ∧ f 0 = m.v ∧ f 1 = iV k ∧ f 5 = p.v ∧ f 6 = .int .u64 c ∧ f 7 = iV i ∧ St w0 ros (row 103 (rI .u32) p.v t :: rs) w) S ⟨_, _, _, _, _, rfl, rfl, rfl, rfl, rfl, rfl, rfl, b⟩ ?_
 rintro _ _ w b7 ⟨t, c, i, f, p, rfl, rfl, u, A, B, C, x, b⟩ d a0 b8 a1 a2
 refine seqQ fun b9 a3 a4 => sR fun _ a5 => Ym (iV i) (eh x) (Ym m.v (eh u) (yY (yLen SL_29 e0 b (rdI q)) (yY (ylss e0 e0) (wK a5 ?_))))
 refine cIf e0 d (fun a6 d => ?_) fun a6 d => ?_
 ·refine wp_skip (a3 _ _ (sQ fun _ a7 => blockQ fun _ a8 => sR fun _ a9 => Ym (.int .u64 c) (eh C) (Ym m.v (eh u) (Ym (iV i) (eh x) (bE d fun c0 D d => yY (yIa SL_29 e0 e0 b (rdI q) D) (yY (yI O_103 e0 b (rdI q) D) (yY (ycv (k' := .u64) (by kernel_rfl) (by kernel_rfl) e0) (Ym (iV k) (eh A) ?_))))))))
  refine yY (yremc e0 rfl (by decide)) (bE d fun j b0 d => yY (yshl e0 e0 b0) (yY (yor e0 e0) (Ya (.int .u64 (wor .u64 c j)) e0 (wK a9 (sR fun _ b1 => Ym p.v (eh B) (Ym (.int .u64 (wor .u64 c j)) e0 (yY (ycv (k' := .u32) (by kernel_rfl) (by kernel_rfl) e0) (yH (rLt (n := 1) (l := [wc .u32 (wor .u64 c j)]) b SL_29 [.int .u32 (wc .u32 (wor .u64 c j))] (bp1 e0) rfl rfl (mks1 (cs := [.int .u32 (wc .u32 (wor .u64 c j))]) rfl mkI mks0)) fun c1 w b => ?_))))))))
  refine bE d fun c2 b2 d => yH (rAp (b.k17) SL_29 e0 e0 rO1 b2) fun b3 w b => Ya b3.v e0 (wK b1 (wR (Ym (.int .u64 (wor .u64 c j)) e0 (yY (yshrc e0 rfl) (Ya (.int .u64 (wsrc .u64 (wor .u64 c j) 32)) e0 (wN (a8 _ _ _ (a7 _ _ (wR ?_)))))))))
  refine Ym (iV i) (eh x) (yY (yadd e0 rfl) (Ya (iV (wa .i64 i 1)) e0 (wN ?_)))
  cases d
  exact a1 _ _ _ rfl ⟨_, _, _, _, _, rfl, rfl, u, A, rfl, rfl, rfl, (b.k18)⟩
 ·refine wp_exit (a4 _ _ _ rfl ?_)
  cases d
  exact a2 _ _ _ _ rfl rfl (T _ _ _ _ _ B C b (a0 _ rfl))
end Go.Proofs.YtpfmbaidflhamaaGreatDoor
