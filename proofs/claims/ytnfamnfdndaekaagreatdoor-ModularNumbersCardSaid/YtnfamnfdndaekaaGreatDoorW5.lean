/- Walks: each function computes its model, printed. -/
import Derived.Test.YtnfamnfdndaekaaGreatDoorW4
namespace Go.Proofs.YtnfamnfdndaekaaGreatDoor
open Go Sx M
set_option maxRecDepth 100000
set_option maxHeartbeats 40000000
set_option linter.unusedVariables false
attribute [local irreducible] wpList Code.wp Calls DR QR QS LA LS St
variable {w0 : World} {ros : List Fact} {rs : List Res} {w : World}
theorem sparseref01_Sign_ok {d : Bool} {j : LI} {f : Hdr} {out : Int} (b : sparseref01_Sign d j = some out) (l : imm (rI .u32) f.v j ∈ ros) (a : St w0 ros rs w) :
  Calls Tryz.prog 89 #[.agg #[.bool d, f.v]] w (fun e w => e = .returned (iV out) ∧ St w0 ros rs w) := by
 refine enterQ Tryz.func89 rfl Tryz.ntmps89 rfl fun Q g => sR fun _ m => yBb (r_box (vals := [.bool d, f.v]) a e0 rfl) fun z w a => Ya (iV 0) rfl (wK m (sR fun _ n => yY (lbs_ [.bool d, f.v] ST_27 e0 a R0) (bE b fun c o b => yC (yCall FN_91 (a1 e0)) (sparseref01_Norm_ok o l a) ?_)))
 rintro _ w ⟨h, rfl, a⟩
 refine ⟨_, rfl, ?_⟩
 refine yT (r_stbn (vals' := [.bool c.1, h.v]) (us := [.bool c.1, h.v]) (a.k11) ST_27 e0 e0 rfl rfl (one_of rfl) rfl) fun w a => wK n (seqQ fun A p k => blockQ fun _ i => sR fun _ q => yY (yFb FL_27_1 e0) (yY (lb_ h.v O_25 e0 a R0) (yY (yLen SL_25 e0 a rO1) (yY (yeql e0 rfl) (Ya (.bool (decide ((c.2.length : Int) = 0))) e0 (wN ?_))))))
 refine q _ _ ?_
 refine cIf e0 b (fun r b => ?_) fun r b => ?_
 ·refine sR fun _ s => Ya (iV 0) rfl (wK s (wp_ret (i _ _ _ (k _ _ _ rfl ?_))))
  cases b
  exact g _ _ _ (fin1r Tryz.results89 ⟨rfl, rfl⟩ ⟨rfl, (a.k1l)⟩)
 ·refine sR fun _ t => yY (yFb FL_27_0 e0) (yY (lb_ (.bool c.1) O_4 e0 a R0) (Ya (.bool c.1) e0 (wK t (cB e0 b (fun u b => ?_) fun u b => ?_))))
  ·refine sR fun _ x => Ya (iV (-1)) rfl (wK x (wp_ret (i _ _ _ (k _ _ _ rfl ?_))))
   cases b
   exact g _ _ _ (fin1r Tryz.results89 ⟨rfl, rfl⟩ ⟨rfl, (a.k1l)⟩)
  ·refine wp_skip (i _ _ _ (p _ _ (sR fun _ y => Ya (iV 1) rfl (wK y (wp_ret ?_)))))
   cases b
   exact g _ _ _ (fin1r Tryz.results89 ⟨rfl, rfl⟩ ⟨rfl, (a.k1l)⟩)
theorem sparseref01_Abs_ok {c : Bool} {f : LI} {b : Hdr} {out : Bool × LI} (d : sparseref01_Abs c f = some out) (j : imm (rI .u32) b.v f ∈ ros) (a : St w0 ros rs w) :
  Calls Tryz.prog 92 #[.agg #[.bool c, b.v]] w (fun e w => ∃ (g : Hdr), e = .returned (.agg #[.bool out.1, g.v]) ∧ St w0 ros (row 88 (rI .u32) g.v out.2 :: rs) w) := by
 refine enterQ Tryz.func92 rfl Tryz.ntmps92 rfl fun Q k => sR fun _ l => yBb (r_box (vals := [.bool c, b.v]) a e0 rfl) fun o w a => yBb (rAl a ZT_27) fun p w a => wK l (sR fun _ m => yY (yFb FL_27_1 e0) (yY (lb_ b.v O_25 e0 a R1) (bE d fun h n d => ?_)))
 refine yC (yCall FN_93 (a2 rfl e0)) (sparseref01_make1_ok n j a) ?_
 rintro _ w ⟨i, rfl, a⟩
 refine ⟨_, rfl, ?_⟩
 refine yT (r_stbn (vals' := [.bool h.1, i.v]) (us := [.bool h.1, i.v]) (a.k11) ST_27 e0 e0 rfl rfl (one_of rfl) rfl) fun w a => wK m (wp_ret ?_)
 cases d
 exact k _ _ _ (fin1r Tryz.results92 (rcs2 rfl rfl a R0 ST_27 rfl) ⟨_, rfl, (a.k1r)⟩)
theorem sparseref01_addMag_ok {G B : LI} {i j : Hdr} {out : LI} (c : sparseref01_addMag G B = some out) (u : imm (rI .u32) i.v G ∈ ros) (x : imm (rI .u32) j.v B ∈ ros) (b : St w0 ros rs w) :
  Calls Tryz.prog 112 #[i.v, j.v] w (fun e w => ∃ (H : Hdr), e = .returned (H.v) ∧ St w0 ros (row 88 (rI .u32) H.v out :: rs) w) := by
 refine enterQ Tryz.func112 rfl Tryz.ntmps112 rfl fun Q U => sR fun _ V => Ya hnil.v rfl (wK V (sR fun _ W => Ya hnil.v rfl (wK W (sR fun _ X => Ya (.int .u64 0) rfl ?_))))
 refine wK X (sQ fun _ Z => sR fun _ a0 => Ya (iV 0) rfl (wK a0 (blockQ fun a1 a2 => bE c fun a3 a4 c => ?_)))
 have a5 : ∀ (C : LI) (m : Int) (y : Hdr) (f : FV) w, f 5 = y.v → f 6 = .int .u64 m → St w0 ros (row 88 (rI .u32) y.v C :: rs) w → (C, m) = a3 → a1 (.exit 0) (fr 51 f) w := by
  intro C m y f w a6 a7 b ho
  subst ho
  refine a2 _ _ _ (Z _ _ (sR fun _ a8 => Ym y.v (eh a6) (Ym (.int .u64 m) (eh a7) (yY (ycv (k' := .u32) (by kernel_rfl) (by kernel_rfl) e0) (yH (rLt (n := 1) (l := [wc .u32 m]) b SL_25 [.int .u32 (wc .u32 m)] (bp1 e0) rfl rfl (mks1 (cs := [.int .u32 (wc .u32 m)]) rfl mkI mks0)) fun d7 w b => bE c fun d8 a9 c => yH (rAp (b.k11) SL_25 e0 e0 rO1 a9) fun b0 w b => Ya b0.v e0 (wN ?_))))))
  refine a8 _ _ (wp_ret ?_)
  cases c
  exact U _ _ _ (fin1r Tryz.results112 ⟨rfl, rfl⟩ ⟨_, rfl, (b.k1g)⟩)
 replace b := b.rowNh 88 (rI .u32)
 refine loopQ (fun s a w => ∃ (o : LI) (p d : Int) (f : FV) (k : Hdr), (o, p, d) = s ∧ a = fr 51 f ∧ f 0 = i.v ∧ f 1 = j.v ∧ f 5 = k.v ∧ f 6 = .int .u64 p ∧ f 7 = iV d ∧ St w0 ros (row 88 (rI .u32) k.v o :: rs) w) a4 ⟨_, _, _, _, _, rfl, rfl, rfl, rfl, rfl, rfl, rfl, b⟩ ?_
 rintro _ _ w I ⟨o, p, d, f, k, rfl, rfl, q, D, E, F, r, b⟩ g b1 d9 b2 b3
 refine seqQ fun e1 b4 b5 => sR fun _ b6 => Ym (iV d) (eh r) (Ym i.v (eh q) (yY (yLen SL_25 e0 b (rdI u)) (Ym j.v (eh D) (yY (yLen SL_25 e0 b (rdI x)) (yY (ymax e0 e0) (yY (ylss e0 e0) (wK b6 ?_)))))))
 refine cIf e0 g (fun b7 g => ?_) fun b7 g => ?_
 ·refine wp_skip (b4 _ _ (sQ fun _ b8 => blockQ fun _ b9 => sQ fun c0 c1 => sR fun _ c2 => Ym (iV d) (eh r) (Ym i.v (eh q) (yY (yLen SL_25 e0 b (rdI u)) (yY (ylss e0 e0) (wK c2 ?_))))))
  have J : ∀ (t : Int) (f : FV) w, f 0 = i.v → f 1 = j.v → f 5 = k.v → f 6 = .int .u64 t → f 7 = iV d → St w0 ros (row 88 (rI .u32) k.v o :: rs) w → sparseref01_addMag_j6 d B o t = some I → c0 .normal (fr 51 f) w := by
   intro t f w K z L N A b c
   refine c1 _ _ (sQ fun c3 c4 => sR fun _ c5 => Ym (iV d) (eh A) (Ym j.v (eh z) (yY (yLen SL_25 e0 b (rdI x)) (yY (ylss e0 e0) (wK c5 ?_)))))
   have O : ∀ (h : Int) (f : FV) w, f 0 = i.v → f 1 = j.v → f 5 = k.v → f 6 = .int .u64 h → f 7 = iV d → St w0 ros (row 88 (rI .u32) k.v o :: rs) w → sparseref01_addMag_j7 o d h = some I → c3 .normal (fr 51 f) w := by
    intro h f w c6 c7 c8 R c9 b c
    refine c4 _ _ (sR fun _ d0 => Ym k.v (eh c8) (Ym (.int .u64 h) (eh R) (yY (ycv (k' := .u32) (by kernel_rfl) (by kernel_rfl) e0) (yH (rLt (n := 1) (l := [wc .u32 h]) b SL_25 [.int .u32 (wc .u32 h)] (bp1 e0) rfl rfl (mks1 (cs := [.int .u32 (wc .u32 h)]) rfl mkI mks0)) fun e2 w b => bE c fun e3 d1 c => yH (rAp (b.k11) SL_25 e0 e0 rO1 d1) fun d2 w b => Ya d2.v e0 (wK d0 ?_)))))
    refine wR (Ym (.int .u64 h) (eh R) (yY (yshrc e0 rfl) (Ya (.int .u64 (wsrc .u64 h 32)) e0 (wN (b9 _ _ _ (b8 _ _ (wR (Ym (iV d) (eh c9) (yY (yadd e0 rfl) (Ya (iV (wa .i64 d 1)) e0 (wN ?_)))))))))))
    cases c
    exact b2 _ _ _ rfl ⟨_, _, _, _, _, rfl, rfl, c6, c7, rfl, rfl, rfl, (b.k1g)⟩
   refine cIf e0 c (fun d3 c => ?_) fun d3 c => ?_
   ·exact wR (Ym (.int .u64 t) (eh N) (Ym j.v (eh z) (Ym (iV d) (eh A) (bE c fun d4 S c => yY (yIa SL_25 e0 e0 b (rdI x) S) (yY (yI O_88 e0 b (rdI x) S) (yY (ycv (k' := .u64) (by kernel_rfl) (by kernel_rfl) e0) (yY (yadd e0 e0) (Ya (.int .u64 (wa .u64 t (wc .u64 d4))) e0 (wN (O _ _ _ K z L rfl A b c))))))))))
   ·exact wp_skip (O _ _ _ K z L N A b c)
  refine cIf e0 g (fun d5 g => ?_) fun d5 g => ?_
  ·exact wR (Ym (.int .u64 p) (eh F) (Ym i.v (eh q) (Ym (iV d) (eh r) (bE g fun d6 T g => yY (yIa SL_25 e0 e0 b (rdI u) T) (yY (yI O_88 e0 b (rdI u) T) (yY (ycv (k' := .u64) (by kernel_rfl) (by kernel_rfl) e0) (yY (yadd e0 e0) (Ya (.int .u64 (wa .u64 p (wc .u64 d6))) e0 (wN (J _ _ _ q D E rfl r b g))))))))))
  ·exact wp_skip (J _ _ _ q D E F r b g)
 ·refine wp_exit (b5 _ _ _ rfl ?_)
  cases g
  exact b3 _ _ _ _ rfl rfl (a5 _ _ _ _ _ E F b (b1 _ rfl))
theorem sparseref01_subMag_ok {B C : LI} {j k : Hdr} {out : LI} (h : sparseref01_subMag B C = some out) (u : imm (rI .u32) j.v B ∈ ros) (x : imm (rI .u32) k.v C ∈ ros) (b : St w0 ros rs w) :
  Calls Tryz.prog 114 #[j.v, k.v] w (fun e w => ∃ (D : Hdr), e = .returned (D.v) ∧ St w0 ros (row 88 (rI .u32) D.v out :: rs) w) := by
 refine enterQ Tryz.func114 rfl Tryz.ntmps114 rfl fun Q I => sR fun _ J => Ya hnil.v rfl (wK J (sR fun _ K => Ya hnil.v rfl (wK K (sR fun _ L => Ya (.int .u64 0) rfl ?_))))
 refine wK L (sQ fun _ N => sR fun _ O => Ya (iV 0) rfl (wK O (blockQ fun R S => bE h fun T U h => ?_)))
 have V : ∀ (y : LI) (p : Hdr) (f : FV) w, f 5 = p.v → St w0 ros (row 88 (rI .u32) p.v y :: rs) w → y = T → R (.exit 0) (fr 41 f) w := by
  intro y p f w W b ho
  subst ho
  refine S _ _ _ (N _ _ (sR fun _ X => Ym p.v (eh W) (Ya p.v e0 (wK X (wp_ret ?_)))))
  cases h
  exact I _ _ _ (fin1r Tryz.results114 ⟨rfl, rfl⟩ ⟨_, rfl, b⟩)
 replace b := b.rowNh 88 (rI .u32)
 refine loopQ (fun s a w => ∃ (q : LI) (i d : Int) (f : FV) (m : Hdr), (q, i, d) = s ∧ a = fr 41 f ∧ f 0 = j.v ∧ f 1 = k.v ∧ f 5 = m.v ∧ f 6 = .int .u64 i ∧ f 7 = iV d ∧ St w0 ros (row 88 (rI .u32) m.v q :: rs) w) U ⟨_, _, _, _, _, rfl, rfl, rfl, rfl, rfl, rfl, rfl, b⟩ ?_
 rintro _ _ w Z ⟨q, i, d, f, m, rfl, rfl, r, t, z, a0, o, b⟩ c a1 c3 a2 a3
 refine seqQ fun c4 a4 a5 => sR fun _ a6 => Ym (iV d) (eh o) (Ym j.v (eh r) (yY (yLen SL_25 e0 b (rdI u)) (yY (ylss e0 e0) (wK a6 ?_))))
 refine cIf e0 c (fun a7 c => ?_) fun a7 c => ?_
 ·refine wp_skip (a4 _ _ (sQ fun _ a8 => blockQ fun _ a9 => sR fun _ b0 => Ym j.v (eh r) (Ym (iV d) (eh o) (bE c fun A E c => yY (yIa SL_25 e0 e0 b (rdI u) E) (yY (yI O_88 e0 b (rdI u) E) (yY (ycv (k' := .u64) (by kernel_rfl) (by kernel_rfl) e0) (Ym (.int .u64 i) (eh a0) (yY (ysub e0 e0) ?_))))))))
  refine Ya (.int .u64 (ws .u64 (wc .u64 A) i)) e0 (wK b0 (sQ fun b1 b2 => sR fun _ b3 => Ym (iV d) (eh o) (Ym k.v (eh t) (yY (yLen SL_25 e0 b (rdI x)) (yY (ylss e0 e0) (wK b3 ?_))))))
  have F : ∀ (g : Int) (f : FV) w, f 0 = j.v → f 1 = k.v → f 5 = m.v → f 7 = iV d → f 8 = .int .u64 g → St w0 ros (row 88 (rI .u32) m.v q :: rs) w → sparseref01_subMag_j4 q d g = some Z → b1 .normal (fr 41 f) w := by
   intro g f w b4 b5 b6 b7 G b h
   refine b2 _ _ (sR fun _ b8 => Ym m.v (eh b6) (Ym (.int .u64 g) (eh G) (yY (ycv (k' := .u32) (by kernel_rfl) (by kernel_rfl) e0) (yH (rLt (n := 1) (l := [wc .u32 g]) b SL_25 [.int .u32 (wc .u32 g)] (bp1 e0) rfl rfl (mks1 (cs := [.int .u32 (wc .u32 g)]) rfl mkI mks0)) fun c5 w b => bE h fun c6 b9 h => yH (rAp (b.k11) SL_25 e0 e0 rO1 b9) fun c0 w b => Ya c0.v e0 (wK b8 ?_)))))
   refine wR (Ym (.int .u64 g) (eh G) (yY (yshrc e0 rfl) (Ya (.int .u64 (wsrc .u64 g 63)) e0 (wN (a9 _ _ _ (a8 _ _ (wR (Ym (iV d) (eh b7) (yY (yadd e0 rfl) (Ya (iV (wa .i64 d 1)) e0 (wN ?_)))))))))))
   cases h
   exact a2 _ _ _ rfl ⟨_, _, _, _, _, rfl, rfl, b4, b5, rfl, rfl, rfl, (b.k1g)⟩
  refine cIf e0 c (fun c1 c => ?_) fun c1 c => ?_
  ·exact wR (Ym (.int .u64 (ws .u64 (wc .u64 A) i)) e0 (Ym k.v (eh t) (Ym (iV d) (eh o) (bE c fun c2 H c => yY (yIa SL_25 e0 e0 b (rdI x) H) (yY (yI O_88 e0 b (rdI x) H) (yY (ycv (k' := .u64) (by kernel_rfl) (by kernel_rfl) e0) (yY (ysub e0 e0) (Ya (.int .u64 (ws .u64 (ws .u64 (wc .u64 A) i) (wc .u64 c2))) e0 (wN (F _ _ _ r t z o rfl b c))))))))))
  ·exact wp_skip (F _ _ _ r t z o rfl b c)
 ·refine wp_exit (a5 _ _ _ rfl ?_)
  cases c
  exact a3 _ _ _ _ rfl rfl (V _ _ _ _ z b (a1 _ rfl))
theorem sparseref01_Add_ok {c : Bool} {k : LI} {d : Bool} {l : LI} {i f : Hdr} {out : Bool × LI} (b : sparseref01_Add c k d l = some out) (t : imm (rI .u32) i.v k ∈ ros) (u : imm (rI .u32) f.v l ∈ ros) (a : St w0 ros rs w) :
  Calls Tryz.prog 69 #[.agg #[.bool c, i.v], .agg #[.bool d, f.v]] w (fun e w => ∃ (m : Hdr), e = .returned (.agg #[.bool out.1, m.v]) ∧ St w0 ros (row 88 (rI .u32) m.v out.2 :: rs) w) := by
 refine enterQ Tryz.func69 rfl Tryz.ntmps69 rfl fun Q j => sR fun _ x => yBb (r_box (vals := [.bool c, i.v]) a e0 rfl) fun W w a => yBb (r_box (vals := [.bool d, f.v]) a e0 rfl) fun X w a => yBb (rAl a ZT_27) fun Z w a => wK x (sQ fun _ y => bE b fun a0 z b => bE b fun a3 A b => ?_)
 refine dR [0, 1, 3, 0, 8, 31, 63, 127] [2, 5, 6, 7] 4 folM ?_
 replace a := a.drew
 refine Dn [0, 1, 3, 4] [] [2] (yR rfl (yFb FL_27_1 e0) (yR rfl (lb_ i.v O_25 e0 a R2) (yR rfl (yFb FL_27_1 e0) (yR rfl (lb_ f.v O_25 e0 a R1) (Rn QSn ?_)))))
 refine Lc1 rfl ?_
 refine Lk wn (yCall FN_111 (a1 e0)) (sparseref01_trim_ok z t a) ?_
 rintro _ w ⟨g, rfl, a⟩
 refine ⟨_, rfl, ?_⟩
 refine Dn [] [3, 4] [5] (Rn (yS rfl (yFb FL_27_1 e0) (yS rfl (lb_ f.v O_25 e0 a R2) QSn)) ?_)
 refine Lc1 rfl ?_
 refine Lk wn (yCall FN_111 (a1 e0)) (sparseref01_trim_ok A u a) ?_
 rintro _ w ⟨h, rfl, a⟩
 refine ⟨_, rfl, ?_⟩
 refine Dn [] [] [6] (Rn QSn ?_)
 refine Lc1 rfl ?_
 refine Ly wn (a_ g.v e0) (Dn [] [] [7] (Rn QSn ?_))
 refine Lc1 rfl ?_
 refine Ly wn (a_ h.v e0) (Dz [] [] (Rn QSn (y _ _ (seqQ fun a4 B C => sR fun _ D => yY (yFb FL_27_0 e0) (yY (lb_ (.bool c) O_4 e0 a R4) (yY (yFb FL_27_0 e0) (yY (lb_ (.bool d) O_4 e0 a R3) (yY (yeqb (by kernel_rfl) e0 e0) (wK D (cB e0 b (fun E b => ?_) fun E b => ?_))))))))))
 ·refine sQ fun _ F => bE b fun a5 G b => bE b fun n H b => dR [0, 1, 0, 0, 12, 31, 63] [4, 5, 6] 3 folM ?_
  replace a := a.drew
  refine Dn [0, 1, 2, 3] [] [4] (yR rfl (yFb FL_27_0 e0) (yR rfl (lb_ (.bool c) O_4 e0 a R4) (yR rfl (m_ g.v e0) (yR rfl (m_ h.v e0) (Rn QSn ?_)))))
  refine Lc1 rfl ?_
  replace a := ((a.k11).fz).fz
  refine Lk wn (yCall FN_112 (a2 e0 e0)) (sparseref01_addMag_ok G F1 F0 a) ?_
  rintro _ w ⟨a6, rfl, a⟩
  refine ⟨_, rfl, ?_⟩
  refine Dn [] [0, 1] [5] (Rn (yS rfl (yFb FL_27_0 e0) (yS rfl (lb_ (.bool c) O_4 e0 a R3) QSn)) ?_)
  refine Lc1 rfl ?_
  replace a := a.fz
  refine Lk wn (yCall FN_93 (a2 e0 e0)) (sparseref01_make1_ok H F0 a) ?_
  rintro _ w ⟨o, rfl, a⟩
  refine ⟨_, rfl, ?_⟩
  refine Dn [] [] [6] (Rn QSn ?_)
  refine Lc1 rfl ?_
  replace a := a.k11
  refine LT wn (r_stbn (vals' := [.bool n.1, o.v]) (us := [.bool n.1, o.v]) a ST_27 e0 e0 rfl rfl (one_of rfl) rfl) fun w a => Dz [] [] (Rn QSn (F _ _ (wp_ret (C _ _ _ rfl ?_))))
  cases b
  exact j _ _ _ (fin1r Tryz.results69 (rcs2 rfl rfl a R0 ST_27 rfl) ⟨_, rfl, ((a.k1s).facts (allT (allT (allT allI))))⟩)
 ·refine wp_skip (B _ _ (seqQ fun a7 I J => sR fun _ K => Ym g.v e0 (Ym h.v e0 (bE b fun a8 L b => ?_))))
  replace a := ((a.k11).fz).fz
  refine yC (yCall FN_113 (a2 e0 e0)) (sparseref01_cmpMag_ok L F1 F0 a) ?_
  rintro _ w ⟨rfl, a⟩
  refine ⟨_, rfl, ?_⟩
  refine yY (ygeq e0 rfl) (wK K ?_)
  refine cIf e0 b (fun N b => ?_) fun N b => ?_
  ·refine sQ fun _ O => bE b fun a9 R b => bE b fun p S b => dR [0, 1, 0, 0, 12, 31, 63] [4, 5, 6] 3 folM ?_
   replace a := a.drew
   refine Dn [0, 1, 2, 3] [] [4] (yR rfl (yFb FL_27_0 e0) (yR rfl (lb_ (.bool c) O_4 e0 a R2) (yR rfl (m_ g.v e0) (yR rfl (m_ h.v e0) (Rn QSn ?_)))))
   refine Lc1 rfl ?_
   refine Lk wn (yCall FN_114 (a2 e0 e0)) (sparseref01_subMag_ok R F1 F0 a) ?_
   rintro _ w ⟨b0, rfl, a⟩
   refine ⟨_, rfl, ?_⟩
   refine Dn [] [0, 1] [5] (Rn (yS rfl (yFb FL_27_0 e0) (yS rfl (lb_ (.bool c) O_4 e0 a R3) QSn)) ?_)
   refine Lc1 rfl ?_
   replace a := a.fz
   refine Lk wn (yCall FN_93 (a2 e0 e0)) (sparseref01_make1_ok S F0 a) ?_
   rintro _ w ⟨q, rfl, a⟩
   refine ⟨_, rfl, ?_⟩
   refine Dn [] [] [6] (Rn QSn ?_)
   refine Lc1 rfl ?_
   replace a := a.k11
   refine LT wn (r_stbn (vals' := [.bool p.1, q.v]) (us := [.bool p.1, q.v]) a ST_27 e0 e0 rfl rfl (one_of rfl) rfl) fun w a => Dz [] [] (Rn QSn (O _ _ (wp_ret (J _ _ _ rfl ?_))))
   cases b
   exact j _ _ _ (fin1r Tryz.results69 (rcs2 rfl rfl a R0 ST_27 rfl) ⟨_, rfl, ((a.k1s).facts (allT (allT (allT allI))))⟩)
  ·refine wp_skip (I _ _ (sQ fun _ T => bE b fun b1 U b => bE b fun r V b => dR [0, 1, 0, 0, 12, 31, 63] [4, 5, 6] 3 folM ?_))
   replace a := a.drew
   refine Dn [0, 1, 2, 3] [] [4] (yR rfl (yFb FL_27_0 e0) (yR rfl (lb_ (.bool d) O_4 e0 a R1) (yR rfl (m_ h.v e0) (yR rfl (m_ g.v e0) (Rn QSn ?_)))))
   refine Lc1 rfl ?_
   refine Lk wn (yCall FN_114 (a2 e0 e0)) (sparseref01_subMag_ok U F0 F1 a) ?_
   rintro _ w ⟨b2, rfl, a⟩
   refine ⟨_, rfl, ?_⟩
   refine Dn [] [0, 1] [5] (Rn (yS rfl (yFb FL_27_0 e0) (yS rfl (lb_ (.bool d) O_4 e0 a R2) QSn)) ?_)
   refine Lc1 rfl ?_
   replace a := a.fz
   refine Lk wn (yCall FN_93 (a2 e0 e0)) (sparseref01_make1_ok V F0 a) ?_
   rintro _ w ⟨s, rfl, a⟩
   refine ⟨_, rfl, ?_⟩
   refine Dn [] [] [6] (Rn QSn ?_)
   refine Lc1 rfl ?_
   replace a := a.k11
   refine LT wn (r_stbn (vals' := [.bool r.1, s.v]) (us := [.bool r.1, s.v]) a ST_27 e0 e0 rfl rfl (one_of rfl) rfl) fun w a => Dz [] [] (Rn QSn (T _ _ (wp_ret ?_)))
   cases b
   exact j _ _ _ (fin1r Tryz.results69 (rcs2 rfl rfl a R0 ST_27 rfl) ⟨_, rfl, ((a.k1s).facts (allT (allT (allT allI))))⟩)
theorem sparseref01_Neg_ok {b : Bool} {f : LI} {c : Hdr} {out : Bool × LI} (d : sparseref01_Neg b f = some out) (j : imm (rI .u32) c.v f ∈ ros) (a : St w0 ros rs w) :
  Calls Tryz.prog 90 #[.agg #[.bool b, c.v]] w (fun e w => ∃ (g : Hdr), e = .returned (.agg #[.bool out.1, g.v]) ∧ St w0 ros (row 88 (rI .u32) g.v out.2 :: rs) w) := by
 refine enterQ Tryz.func90 rfl Tryz.ntmps90 rfl fun Q k => sR fun _ l => yBb (r_box (vals := [.bool b, c.v]) a e0 rfl) fun o w a => yBb (rAl a ZT_27) fun p w a => wK l (sR fun _ m => yY (yFb FL_27_0 e0) (yY (lb_ (.bool b) O_4 e0 a R1) (yY (ynot e0) ?_)))
 refine yY (yFb FL_27_1 e0) (yY (lb_ c.v O_25 e0 a R1) (bE d fun h n d => yC (yCall FN_93 (a2 e0 e0)) (sparseref01_make1_ok n j a) ?_))
 rintro _ w ⟨i, rfl, a⟩
 refine ⟨_, rfl, ?_⟩
 refine yT (r_stbn (vals' := [.bool h.1, i.v]) (us := [.bool h.1, i.v]) (a.k11) ST_27 e0 e0 rfl rfl (one_of rfl) rfl) fun w a => wK m (wp_ret ?_)
 cases d
 exact k _ _ _ (fin1r Tryz.results90 (rcs2 rfl rfl a R0 ST_27 rfl) ⟨_, rfl, (a.k1r)⟩)
theorem sparseref01_Sub_ok {b : Bool} {h : LI} {f : Bool} {i : LI} {c g : Hdr} {out : Bool × LI} (d : sparseref01_Sub b h f i = some out) (m : imm (rI .u32) c.v h ∈ ros) (n : imm (rI .u32) g.v i ∈ ros) (a : St w0 ros rs w) :
  Calls Tryz.prog 73 #[.agg #[.bool b, c.v], .agg #[.bool f, g.v]] w (fun e w => ∃ (j : Hdr), e = .returned (.agg #[.bool out.1, j.v]) ∧ St w0 ros (row 88 (rI .u32) j.v out.2 :: rs) w) := by
 refine enterQ Tryz.func73 rfl Tryz.ntmps73 rfl fun Q o => sR fun _ p => yBb (r_box (vals := [.bool b, c.v]) a e0 rfl) fun t w a => yBb (r_box (vals := [.bool f, g.v]) a e0 rfl) fun u w a => yBb (rAl a ZT_27) fun x w a => wK p (sQ fun _ q => bE d fun y r d => bE d fun k s d => ?_)
 refine dR [0, 0, 2, 7, 15] [2, 3, 4] 3 folM ?_
 replace a := a.drew
 refine Dn [0, 1] [] [2] (yR rfl (lbs_ [.bool b, c.v] ST_27 e0 a R2) (yR rfl (lbs_ [.bool f, g.v] ST_27 e0 a R1) (Rn QSn ?_)))
 refine Lc1 rfl ?_
 refine Lk wn (yCall FN_90 (a1 e0)) (sparseref01_Neg_ok r n a) ?_
 rintro _ w ⟨z, rfl, a⟩
 refine ⟨_, rfl, ?_⟩
 refine Dn [] [0] [3] (Rn (yS rfl (lbs_ [.bool b, c.v] ST_27 e0 a R3) QSn) ?_)
 refine Lc1 rfl ?_
 replace a := a.fz
 refine Lk wn (yCall FN_69 (a2 e0 e0)) (sparseref01_Add_ok s (mtF m) F0 a) ?_
 rintro _ w ⟨l, rfl, a⟩
 refine ⟨_, rfl, ?_⟩
 refine Dn [] [] [4] (Rn QSn ?_)
 refine Lc1 rfl ?_
 replace a := a.k11
 refine LT wn (r_stbn (vals' := [.bool k.1, l.v]) (us := [.bool k.1, l.v]) a ST_27 e0 e0 rfl rfl (one_of rfl) rfl) fun w a => Dz [] [] (Rn QSn (q _ _ (wp_ret ?_)))
 cases d
 exact o _ _ _ (fin1r Tryz.results73 (rcs2 rfl rfl a R0 ST_27 rfl) ⟨_, rfl, ((a.k1s).facts (allT allI))⟩)
theorem sparseref01_DivMod_ok {K : Bool} {Z : LI} {G : Bool} {a0 : LI} {L H : Hdr} {out : Bool × LI × Bool × LI} (b : sparseref01_DivMod K Z G a0 = some out) (c0 : imm (rI .u32) L.v Z ∈ ros) (c1 : imm (rI .u32) H.v a0 ∈ ros) (a : St w0 ros rs w) :
  Calls Tryz.prog 79 #[.agg #[.bool K, L.v], .agg #[.bool G, H.v]] w (fun e w => ∃ (a3 a4 : Hdr), e = .returned (.tuple #[.agg #[.bool out.1, a3.v], .agg #[.bool out.2.2.1, a4.v]]) ∧ St w0 (imm (rI .u32) a4.v out.2.2.2 :: ros) (row 88 (rI .u32) a3.v out.2.1 :: rs) w) := by
 refine enterQ Tryz.func79 rfl Tryz.ntmps79 rfl fun Q c2 => sR fun _ c3 => yBb (r_box (vals := [.bool K, L.v]) a e0 rfl) fun f0 w a => yBb (r_box (vals := [.bool G, H.v]) a e0 rfl) fun a5 w a => yBb (rAl a ZT_27) fun A w a => yBb (rAl a ZT_27) fun B w a => wK c3 (sQ fun _ c4 => ?_)
 refine bE b fun i c5 b => bE b fun l c6 b => dR [0, 1, 0, 7, 15, 31] [1, 3, 4, 5] 4 folM ?_
 replace a := a.drew
 refine Dn [0, 2] [] [1] (yR rfl (lbs_ [.bool K, L.v] ST_27 e0 a R3) (yR rfl (lbs_ [.bool G, H.v] ST_27 e0 a R2) (Rn QSn ?_)))
 refine Lc1 rfl ?_
 refine Lk wn (yCall FN_91 (a1 e0)) (sparseref01_Norm_ok c5 c0 a) ?_
 rintro _ w ⟨O, rfl, a⟩
 refine ⟨_, rfl, ?_⟩
 refine Dn [] [2] [3] (Rn (yS rfl (lbs_ [.bool G, H.v] ST_27 e0 a R3) QSn) ?_)
 refine Lc1 rfl ?_
 refine Lk wn (yCall FN_91 (a1 e0)) (sparseref01_Norm_ok c6 c1 a) ?_
 rintro _ w ⟨C, rfl, a⟩
 refine ⟨_, rfl, ?_⟩
 refine Dn [] [] [4] (Rn QSn ?_)
 refine Lc1 rfl ?_
 replace a := a.k1t
 refine LT wn (r_stbn (vals' := [.bool i.1, O.v]) (us := [.bool i.1, O.v]) a ST_27 e0 e0 rfl rfl (one_of rfl) rfl) fun w a => Dn [] [] [5] (Rn QSn ?_)
 refine Lc1 rfl ?_
 replace a := a.k1t
 refine LT wn (r_stbn (vals' := [.bool l.1, C.v]) (us := [.bool l.1, C.v]) a ST_27 e0 e0 rfl rfl (one_of rfl) rfl) fun w a => Dz [] [] (Rn QSn (c4 _ _ (sR fun _ c7 => yY (yFb FL_27_1 e0) (yY (lb_ O.v O_25 e0 a R1) (yY (yFb FL_27_1 e0) (yY (lb_ C.v O_25 e0 a R0) (bE b fun f1 c8 b => ?_)))))))
 replace a := (((a.k15).fz).k1a).fz
 refine yC (yCall FN_118 (a2 e0 e0)) (sparseref01_divMag_ok c8 F1 F0 a) ?_
 rintro _ w ⟨p, j, rfl, a⟩
 refine ⟨_, rfl, ?_⟩
 refine Ym (.tuple #[p.v, j.v]) e0 (yY (x_ p.v e0) (yY (x_ j.v e0) (Ya p.v e0 (Ya j.v e0 (wK c7 (sQ fun _ c9 => bE b fun d I b => bE b fun g m b => ?_))))))
 refine joinN (n := 50) (fun f w => ∃ (s : Nat) (t : Hdr) (u : Nat) (D : Hdr), f 3 = (pB a5) ∧ f 4 = (pB A) ∧ f 5 = (pB B) ∧ f 8 = (pB s) ∧ f 9 = (pB u) ∧ St w0 (imm (rI .u32) C.v l.2 :: ros) (box a5 27 [.bool l.1, C.v] :: box A 27 [.bool false, hnil.v] :: box B 27 [.bool false, hnil.v] :: row 88 (rI .u32) t.v d.2 :: box s 27 [.bool d.1, t.v] :: row 88 (rI .u32) D.v g.2 :: box u 27 [.bool g.1, D.v] :: rs) w) (fun k => ?_) ?_
 ·refine dR [0, 1, 0, 4, 15, 0, 63, 0, 128, 0, 1023, 0, 0, 8191, 16383] [6, 10, 11, 12, 13, 14] 6 folM ?_
  replace a := a.drew
  refine Dn [0, 1, 2, 3, 4, 5, 7, 8, 9] [] [6, 11, 12] (yR rfl (yFb FL_27_0 e0) (yR rfl (lb_ (.bool i.1) O_4 e0 a R2) (yR rfl (yFb FL_27_0 e0) (yR rfl (lb_ (.bool l.1) O_4 e0 a R1) (yR rfl (yneb (by kernel_rfl) e0 e0) (yR rfl (m_ p.v e0) (yR rfl (yFb FL_27_0 e0) (yR rfl (lb_ (.bool i.1) O_4 e0 a R2) (yR rfl (m_ j.v e0) (Rn QSn ?_))))))))))
  refine Lc rfl ?_ (Lc rfl ?_ (Lc1 rfl ?_))
  ·replace a := a.fz
   refine Lk wn (yCall FN_93 (a2 e0 e0)) (sparseref01_make1_ok I F0 a) ?_
   rintro _ w ⟨h, rfl, a⟩
   refine ⟨_, rfl, ?_⟩
   refine Dn [] [7, 8, 9] [10, 11, 12] (Rn (yS rfl (yFb FL_27_0 e0) (yS rfl (lb_ (.bool i.1) O_4 e0 a R2) (yS rfl (m_ j.v e0) QSn))) ?_)
   refine Lc rfl ?_ (Lc rfl ?_ (Lc1 rfl ?_))
   ·refine Lk wn (yCall FN_93 (a2 e0 e0)) (sparseref01_make1_ok m F1 a) ?_
    rintro _ w ⟨c, rfl, a⟩
    refine ⟨_, rfl, ?_⟩
    refine Dn [] [] [11, 12] (Rn QSn ?_)
    refine Lc rfl ?_ (Lc1 rfl ?_)
    ·refine LB wn (rAl a ZT_27) fun q w a => Dn [] [] [12] (Rn QSn ?_)
     refine Lc1 rfl ?_
     refine LB wn (rAl a ZT_27) fun r w a => Dn [] [] [13] (Rn QSn ?_)
     refine Lc1 rfl ?_
     replace a := a.k11
     refine LT wn (r_stbn (vals' := [.bool d.1, h.v]) (us := [.bool d.1, h.v]) a ST_27 e0 e0 rfl rfl (one_of rfl) rfl) fun w a => Dn [] [] [14] (Rn QSn ?_)
     refine Lc1 rfl ?_
     replace a := a.k11
     exact LT wn (r_stbn (vals' := [.bool g.1, c.v]) (us := [.bool g.1, c.v]) a ST_27 e0 e0 rfl rfl (one_of rfl) rfl) fun w a => Dz [] [] (Rn QSn (k _ _ ⟨_, _, _, _, rfl, rfl, rfl, rfl, rfl, ((a.k1u).facts (allC F2 (allT (allT (allT (allT allI))))))⟩))
    ·refine LB wn (rAl a ZT_27) fun r w a => Dn [] [] [11] (Rn QSn ?_)
     refine Lc1 rfl ?_
     refine LB wn (rAl a ZT_27) fun q w a => Dn [] [] [13] (Rn QSn ?_)
     refine Lc1 rfl ?_
     refine LT wn (r_stbn (vals' := [.bool d.1, h.v]) (us := [.bool d.1, h.v]) a ST_27 e0 e0 rfl rfl (one_of rfl) rfl) fun w a => Dn [] [] [14] (Rn QSn ?_)
     refine Lc1 rfl ?_
     replace a := a.k11
     exact LT wn (r_stbn (vals' := [.bool g.1, c.v]) (us := [.bool g.1, c.v]) a ST_27 e0 e0 rfl rfl (one_of rfl) rfl) fun w a => Dz [] [] (Rn QSn (k _ _ ⟨_, _, _, _, rfl, rfl, rfl, rfl, rfl, ((a.k1u).facts (allC F2 (allT (allT (allT (allT allI))))))⟩))
   ·refine LB wn (rAl a ZT_27) fun q w a => Dn [] [7, 8, 9] [10, 12] (Rn (yS rfl (yFb FL_27_0 e0) (yS rfl (lb_ (.bool i.1) O_4 e0 a R3) (yS rfl (m_ j.v e0) QSn))) ?_)
    refine Lc rfl ?_ (Lc1 rfl ?_)
    ·refine Lk wn (yCall FN_93 (a2 e0 e0)) (sparseref01_make1_ok m F1 a) ?_
     rintro _ w ⟨c, rfl, a⟩
     refine ⟨_, rfl, ?_⟩
     refine Dn [] [] [12] (Rn QSn ?_)
     refine Lc1 rfl ?_
     refine LB wn (rAl a ZT_27) fun r w a => Dn [] [] [13] (Rn QSn ?_)
     refine Lc1 rfl ?_
     replace a := a.k1a
     refine LT wn (r_stbn (vals' := [.bool d.1, h.v]) (us := [.bool d.1, h.v]) a ST_27 e0 e0 rfl rfl (one_of rfl) rfl) fun w a => Dn [] [] [14] (Rn QSn ?_)
     refine Lc1 rfl ?_
     replace a := a.k11
     exact LT wn (r_stbn (vals' := [.bool g.1, c.v]) (us := [.bool g.1, c.v]) a ST_27 e0 e0 rfl rfl (one_of rfl) rfl) fun w a => Dz [] [] (Rn QSn (k _ _ ⟨_, _, _, _, rfl, rfl, rfl, rfl, rfl, ((a.k1u).facts (allC F2 (allT (allT (allT (allT allI))))))⟩))
    ·refine LB wn (rAl a ZT_27) fun r w a => Dn [] [7, 8, 9] [10] (Rn (yS rfl (yFb FL_27_0 e0) (yS rfl (lb_ (.bool i.1) O_4 e0 a R4) (yS rfl (m_ j.v e0) QSn))) ?_)
     refine Lc1 rfl ?_
     refine Lk wn (yCall FN_93 (a2 e0 e0)) (sparseref01_make1_ok m F1 a) ?_
     rintro _ w ⟨c, rfl, a⟩
     refine ⟨_, rfl, ?_⟩
     refine Dn [] [] [13] (Rn QSn ?_)
     refine Lc1 rfl ?_
     replace a := a.k1a
     refine LT wn (r_stbn (vals' := [.bool d.1, h.v]) (us := [.bool d.1, h.v]) a ST_27 e0 e0 rfl rfl (one_of rfl) rfl) fun w a => Dn [] [] [14] (Rn QSn ?_)
     refine Lc1 rfl ?_
     replace a := a.k1a
     exact LT wn (r_stbn (vals' := [.bool g.1, c.v]) (us := [.bool g.1, c.v]) a ST_27 e0 e0 rfl rfl (one_of rfl) rfl) fun w a => Dz [] [] (Rn QSn (k _ _ ⟨_, _, _, _, rfl, rfl, rfl, rfl, rfl, ((a.k1u).facts (allC F2 (allT (allT (allT (allT allI))))))⟩))
   ·refine LB wn (rAl a ZT_27) fun r w a => Dn [] [7, 8, 9] [10, 11] (Rn (yS rfl (yFb FL_27_0 e0) (yS rfl (lb_ (.bool i.1) O_4 e0 a R3) (yS rfl (m_ j.v e0) QSn))) ?_)
    refine Lc rfl ?_ (Lc1 rfl ?_)
    ·refine Lk wn (yCall FN_93 (a2 e0 e0)) (sparseref01_make1_ok m F1 a) ?_
     rintro _ w ⟨c, rfl, a⟩
     refine ⟨_, rfl, ?_⟩
     refine Dn [] [] [11] (Rn QSn ?_)
     refine Lc1 rfl ?_
     refine LB wn (rAl a ZT_27) fun q w a => Dn [] [] [13] (Rn QSn ?_)
     refine Lc1 rfl ?_
     refine LT wn (r_stbn (vals' := [.bool d.1, h.v]) (us := [.bool d.1, h.v]) a ST_27 e0 e0 rfl rfl (one_of rfl) rfl) fun w a => Dn [] [] [14] (Rn QSn ?_)
     refine Lc1 rfl ?_
     replace a := a.k1a
     exact LT wn (r_stbn (vals' := [.bool g.1, c.v]) (us := [.bool g.1, c.v]) a ST_27 e0 e0 rfl rfl (one_of rfl) rfl) fun w a => Dz [] [] (Rn QSn (k _ _ ⟨_, _, _, _, rfl, rfl, rfl, rfl, rfl, ((a.k1u).facts (allC F2 (allT (allT (allT (allT allI))))))⟩))
    ·refine LB wn (rAl a ZT_27) fun q w a => Dn [] [7, 8, 9] [10] (Rn (yS rfl (yFb FL_27_0 e0) (yS rfl (lb_ (.bool i.1) O_4 e0 a R4) (yS rfl (m_ j.v e0) QSn))) ?_)
     refine Lc1 rfl ?_
     refine Lk wn (yCall FN_93 (a2 e0 e0)) (sparseref01_make1_ok m F1 a) ?_
     rintro _ w ⟨c, rfl, a⟩
     refine ⟨_, rfl, ?_⟩
     refine Dn [] [] [13] (Rn QSn ?_)
     refine Lc1 rfl ?_
     replace a := a.k11
     refine LT wn (r_stbn (vals' := [.bool d.1, h.v]) (us := [.bool d.1, h.v]) a ST_27 e0 e0 rfl rfl (one_of rfl) rfl) fun w a => Dn [] [] [14] (Rn QSn ?_)
     refine Lc1 rfl ?_
     replace a := a.k1a
     exact LT wn (r_stbn (vals' := [.bool g.1, c.v]) (us := [.bool g.1, c.v]) a ST_27 e0 e0 rfl rfl (one_of rfl) rfl) fun w a => Dz [] [] (Rn QSn (k _ _ ⟨_, _, _, _, rfl, rfl, rfl, rfl, rfl, ((a.k1u).facts (allC F2 (allT (allT (allT (allT allI))))))⟩))
  ·refine LB wn (rAl a ZT_27) fun q w a => Dn [] [0, 1, 2, 3, 4, 5, 7, 8, 9] [6, 12] (Rn (yS rfl (yFb FL_27_0 e0) (yS rfl (lb_ (.bool i.1) O_4 e0 a R3) (yS rfl (yFb FL_27_0 e0) (yS rfl (lb_ (.bool l.1) O_4 e0 a R2) (yS rfl (yneb (by kernel_rfl) e0 e0) (yS rfl (m_ p.v e0) (yS rfl (yFb FL_27_0 e0) (yS rfl (lb_ (.bool i.1) O_4 e0 a R3) (yS rfl (m_ j.v e0) QSn))))))))) ?_)
   refine Lc rfl ?_ (Lc1 rfl ?_)
   ·replace a := a.k11
    replace a := a.fz
    refine Lk wn (yCall FN_93 (a2 e0 e0)) (sparseref01_make1_ok I F0 a) ?_
    rintro _ w ⟨h, rfl, a⟩
    refine ⟨_, rfl, ?_⟩
    refine Dn [] [7, 8, 9] [10, 12] (Rn (yS rfl (yFb FL_27_0 e0) (yS rfl (lb_ (.bool i.1) O_4 e0 a R3) (yS rfl (m_ j.v e0) QSn))) ?_)
    refine Lc rfl ?_ (Lc1 rfl ?_)
    ·refine Lk wn (yCall FN_93 (a2 e0 e0)) (sparseref01_make1_ok m F1 a) ?_
     rintro _ w ⟨c, rfl, a⟩
     refine ⟨_, rfl, ?_⟩
     refine Dn [] [] [12] (Rn QSn ?_)
     refine Lc1 rfl ?_
     refine LB wn (rAl a ZT_27) fun r w a => Dn [] [] [13] (Rn QSn ?_)
     refine Lc1 rfl ?_
     replace a := a.k15
     refine LT wn (r_stbn (vals' := [.bool d.1, h.v]) (us := [.bool d.1, h.v]) a ST_27 e0 e0 rfl rfl (one_of rfl) rfl) fun w a => Dn [] [] [14] (Rn QSn ?_)
     refine Lc1 rfl ?_
     replace a := a.k11
     exact LT wn (r_stbn (vals' := [.bool g.1, c.v]) (us := [.bool g.1, c.v]) a ST_27 e0 e0 rfl rfl (one_of rfl) rfl) fun w a => Dz [] [] (Rn QSn (k _ _ ⟨_, _, _, _, rfl, rfl, rfl, rfl, rfl, ((a.k1u).facts (allC F2 (allT (allT (allT (allT allI))))))⟩))
    ·refine LB wn (rAl a ZT_27) fun r w a => Dn [] [7, 8, 9] [10] (Rn (yS rfl (yFb FL_27_0 e0) (yS rfl (lb_ (.bool i.1) O_4 e0 a R4) (yS rfl (m_ j.v e0) QSn))) ?_)
     refine Lc1 rfl ?_
     refine Lk wn (yCall FN_93 (a2 e0 e0)) (sparseref01_make1_ok m F1 a) ?_
     rintro _ w ⟨c, rfl, a⟩
     refine ⟨_, rfl, ?_⟩
     refine Dn [] [] [13] (Rn QSn ?_)
     refine Lc1 rfl ?_
     replace a := a.k15
     refine LT wn (r_stbn (vals' := [.bool d.1, h.v]) (us := [.bool d.1, h.v]) a ST_27 e0 e0 rfl rfl (one_of rfl) rfl) fun w a => Dn [] [] [14] (Rn QSn ?_)
     refine Lc1 rfl ?_
     replace a := a.k1a
     exact LT wn (r_stbn (vals' := [.bool g.1, c.v]) (us := [.bool g.1, c.v]) a ST_27 e0 e0 rfl rfl (one_of rfl) rfl) fun w a => Dz [] [] (Rn QSn (k _ _ ⟨_, _, _, _, rfl, rfl, rfl, rfl, rfl, ((a.k1u).facts (allC F2 (allT (allT (allT (allT allI))))))⟩))
   ·refine LB wn (rAl a ZT_27) fun r w a => Dn [] [0, 1, 2, 3, 4, 5, 7, 8, 9] [6] (Rn (yS rfl (yFb FL_27_0 e0) (yS rfl (lb_ (.bool i.1) O_4 e0 a R4) (yS rfl (yFb FL_27_0 e0) (yS rfl (lb_ (.bool l.1) O_4 e0 a R3) (yS rfl (yneb (by kernel_rfl) e0 e0) (yS rfl (m_ p.v e0) (yS rfl (yFb FL_27_0 e0) (yS rfl (lb_ (.bool i.1) O_4 e0 a R4) (yS rfl (m_ j.v e0) QSn))))))))) ?_)
    refine Lc1 rfl ?_
    replace a := (a.k1a).fz
    refine Lk wn (yCall FN_93 (a2 e0 e0)) (sparseref01_make1_ok I F0 a) ?_
    rintro _ w ⟨h, rfl, a⟩
    refine ⟨_, rfl, ?_⟩
    refine Dn [] [7, 8, 9] [10] (Rn (yS rfl (yFb FL_27_0 e0) (yS rfl (lb_ (.bool i.1) O_4 e0 a R4) (yS rfl (m_ j.v e0) QSn))) ?_)
    refine Lc1 rfl ?_
    refine Lk wn (yCall FN_93 (a2 e0 e0)) (sparseref01_make1_ok m F1 a) ?_
    rintro _ w ⟨c, rfl, a⟩
    refine ⟨_, rfl, ?_⟩
    refine Dn [] [] [13] (Rn QSn ?_)
    refine Lc1 rfl ?_
    replace a := a.k15
    refine LT wn (r_stbn (vals' := [.bool d.1, h.v]) (us := [.bool d.1, h.v]) a ST_27 e0 e0 rfl rfl (one_of rfl) rfl) fun w a => Dn [] [] [14] (Rn QSn ?_)
    refine Lc1 rfl ?_
    replace a := a.k15
    exact LT wn (r_stbn (vals' := [.bool g.1, c.v]) (us := [.bool g.1, c.v]) a ST_27 e0 e0 rfl rfl (one_of rfl) rfl) fun w a => Dz [] [] (Rn QSn (k _ _ ⟨_, _, _, _, rfl, rfl, rfl, rfl, rfl, ((a.k1u).facts (allC F2 (allT (allT (allT (allT allI))))))⟩))
  ·refine LB wn (rAl a ZT_27) fun r w a => Dn [] [0, 1, 2, 3, 4, 5, 7, 8, 9] [6, 11] (Rn (yS rfl (yFb FL_27_0 e0) (yS rfl (lb_ (.bool i.1) O_4 e0 a R3) (yS rfl (yFb FL_27_0 e0) (yS rfl (lb_ (.bool l.1) O_4 e0 a R2) (yS rfl (yneb (by kernel_rfl) e0 e0) (yS rfl (m_ p.v e0) (yS rfl (yFb FL_27_0 e0) (yS rfl (lb_ (.bool i.1) O_4 e0 a R3) (yS rfl (m_ j.v e0) QSn))))))))) ?_)
   refine Lc rfl ?_ (Lc1 rfl ?_)
   ·replace a := a.k11
    replace a := a.fz
    refine Lk wn (yCall FN_93 (a2 e0 e0)) (sparseref01_make1_ok I F0 a) ?_
    rintro _ w ⟨h, rfl, a⟩
    refine ⟨_, rfl, ?_⟩
    refine Dn [] [7, 8, 9] [10, 11] (Rn (yS rfl (yFb FL_27_0 e0) (yS rfl (lb_ (.bool i.1) O_4 e0 a R3) (yS rfl (m_ j.v e0) QSn))) ?_)
    refine Lc rfl ?_ (Lc1 rfl ?_)
    ·refine Lk wn (yCall FN_93 (a2 e0 e0)) (sparseref01_make1_ok m F1 a) ?_
     rintro _ w ⟨c, rfl, a⟩
     refine ⟨_, rfl, ?_⟩
     refine Dn [] [] [11] (Rn QSn ?_)
     refine Lc1 rfl ?_
     refine LB wn (rAl a ZT_27) fun q w a => Dn [] [] [13] (Rn QSn ?_)
     refine Lc1 rfl ?_
     refine LT wn (r_stbn (vals' := [.bool d.1, h.v]) (us := [.bool d.1, h.v]) a ST_27 e0 e0 rfl rfl (one_of rfl) rfl) fun w a => Dn [] [] [14] (Rn QSn ?_)
     refine Lc1 rfl ?_
     replace a := a.k15
     exact LT wn (r_stbn (vals' := [.bool g.1, c.v]) (us := [.bool g.1, c.v]) a ST_27 e0 e0 rfl rfl (one_of rfl) rfl) fun w a => Dz [] [] (Rn QSn (k _ _ ⟨_, _, _, _, rfl, rfl, rfl, rfl, rfl, ((a.k1u).facts (allC F2 (allT (allT (allT (allT allI))))))⟩))
    ·refine LB wn (rAl a ZT_27) fun q w a => Dn [] [7, 8, 9] [10] (Rn (yS rfl (yFb FL_27_0 e0) (yS rfl (lb_ (.bool i.1) O_4 e0 a R4) (yS rfl (m_ j.v e0) QSn))) ?_)
     refine Lc1 rfl ?_
     refine Lk wn (yCall FN_93 (a2 e0 e0)) (sparseref01_make1_ok m F1 a) ?_
     rintro _ w ⟨c, rfl, a⟩
     refine ⟨_, rfl, ?_⟩
     refine Dn [] [] [13] (Rn QSn ?_)
     refine Lc1 rfl ?_
     replace a := a.k11
     refine LT wn (r_stbn (vals' := [.bool d.1, h.v]) (us := [.bool d.1, h.v]) a ST_27 e0 e0 rfl rfl (one_of rfl) rfl) fun w a => Dn [] [] [14] (Rn QSn ?_)
     refine Lc1 rfl ?_
     replace a := a.k15
     exact LT wn (r_stbn (vals' := [.bool g.1, c.v]) (us := [.bool g.1, c.v]) a ST_27 e0 e0 rfl rfl (one_of rfl) rfl) fun w a => Dz [] [] (Rn QSn (k _ _ ⟨_, _, _, _, rfl, rfl, rfl, rfl, rfl, ((a.k1u).facts (allC F2 (allT (allT (allT (allT allI))))))⟩))
   ·refine LB wn (rAl a ZT_27) fun q w a => Dn [] [0, 1, 2, 3, 4, 5, 7, 8, 9] [6] (Rn (yS rfl (yFb FL_27_0 e0) (yS rfl (lb_ (.bool i.1) O_4 e0 a R4) (yS rfl (yFb FL_27_0 e0) (yS rfl (lb_ (.bool l.1) O_4 e0 a R3) (yS rfl (yneb (by kernel_rfl) e0 e0) (yS rfl (m_ p.v e0) (yS rfl (yFb FL_27_0 e0) (yS rfl (lb_ (.bool i.1) O_4 e0 a R4) (yS rfl (m_ j.v e0) QSn))))))))) ?_)
    refine Lc1 rfl ?_
    replace a := (a.k1a).fz
    refine Lk wn (yCall FN_93 (a2 e0 e0)) (sparseref01_make1_ok I F0 a) ?_
    rintro _ w ⟨h, rfl, a⟩
    refine ⟨_, rfl, ?_⟩
    refine Dn [] [7, 8, 9] [10] (Rn (yS rfl (yFb FL_27_0 e0) (yS rfl (lb_ (.bool i.1) O_4 e0 a R4) (yS rfl (m_ j.v e0) QSn))) ?_)
    refine Lc1 rfl ?_
    refine Lk wn (yCall FN_93 (a2 e0 e0)) (sparseref01_make1_ok m F1 a) ?_
    rintro _ w ⟨c, rfl, a⟩
    refine ⟨_, rfl, ?_⟩
    refine Dn [] [] [13] (Rn QSn ?_)
    refine Lc1 rfl ?_
    replace a := a.k1a
    refine LT wn (r_stbn (vals' := [.bool d.1, h.v]) (us := [.bool d.1, h.v]) a ST_27 e0 e0 rfl rfl (one_of rfl) rfl) fun w a => Dn [] [] [14] (Rn QSn ?_)
    refine Lc1 rfl ?_
    replace a := a.k15
    exact LT wn (r_stbn (vals' := [.bool g.1, c.v]) (us := [.bool g.1, c.v]) a ST_27 e0 e0 rfl rfl (one_of rfl) rfl) fun w a => Dz [] [] (Rn QSn (k _ _ ⟨_, _, _, _, rfl, rfl, rfl, rfl, rfl, ((a.k1u).facts (allC F2 (allT (allT (allT (allT allI))))))⟩))
 rintro f w ⟨s, t, u, D, a6, R, S, o, x, a⟩
 refine c9 _ _ (sQ fun a7 d0 => sR fun _ d1 => yY (lbs_ [.bool g.1, D.v] ST_27 (eh x) a R6) (bE b fun f2 d2 b => ?_))
 replace a := (a.k1t).fz
 refine yC (yCall FN_89 (a1 e0)) (sparseref01_Sign_ok d2 F0 a) ?_
 rintro _ w ⟨rfl, a⟩
 refine ⟨_, rfl, ?_⟩
 refine yY (ylss e0 rfl) (wK d1 ?_)
 have a8 : ∀ (E : Bool) (T : LI) (y : Bool) (U : LI) (F z : Hdr) (f : FV) w, f 4 = (pB A) → f 5 = (pB B) → f 8 = (pB s) → f 9 = (pB u) → St w0 (imm (rI .u32) z.v U :: ros) (box A 27 [.bool false, hnil.v] :: box B 27 [.bool false, hnil.v] :: row 88 (rI .u32) F.v T :: box s 27 [.bool E, F.v] :: box u 27 [.bool y, z.v] :: rs) w → sparseref01_DivMod_j3 E T y U = some out → a7 .normal (fr 50 f) w := by
  intro E T y U F z f w a9 b0 d3 b1 a b
  refine d0 _ _ (sQ fun _ d4 => dR [0, 0, 1, 7] [2, 3] 2 folM ?_)
  replace a := a.drew
  refine Dn [0, 1] [] [2] (yR rfl (lbs_ [.bool E, F.v] ST_27 (eh d3) a R3) (yR rfl (lbs_ [.bool y, z.v] ST_27 (eh b1) a R4) (Rn QSn ?_)))
  refine Lc1 rfl ?_
  refine LT wn (r_stbn (vals' := [.bool E, F.v]) (us := [.bool E, F.v]) a ST_27 (eh a9) e0 rfl rfl (one_of rfl) rfl) fun w a => Dn [] [1] [3] (Rn (yS rfl (lbs_ [.bool y, z.v] ST_27 (eh b1) a R4) QSn) ?_)
  refine Lc1 rfl ?_
  replace a := a.k11
  refine LT wn (r_stbn (vals' := [.bool y, z.v]) (us := [.bool y, z.v]) a ST_27 (eh b0) e0 rfl rfl (one_of rfl) rfl) fun w a => Dz [] [] (Rn QSn (d4 _ _ (wp_ret ?_)))
  cases b
  exact c2 _ _ _ (fin2r Tryz.results79 (rcs2 rfl a9 a R1 ST_27 rfl) (rcs2 rfl b0 a R0 ST_27 rfl) ⟨_, _, rfl, (a.k1v)⟩)
 refine cIf e0 b (fun d5 b => ?_) fun d5 b => ?_
 ·refine sQ fun _ d6 => bE b fun f3 d7 b => bE b fun J d8 b => dR [0, 0, 2, 7, 15] [2, 3, 4] 3 folM ?_
  replace a := a.drew
  refine Dn [0, 1] [] [2] (yR rfl (lbs_ [.bool g.1, D.v] ST_27 (eh x) a R5) (yR rfl (lbs_ [.bool l.1, C.v] ST_27 (eh a6) a R0) (Rn QSn ?_)))
  refine Lc1 rfl ?_
  refine Lk wn (yCall FN_92 (a1 e0)) (sparseref01_Abs_ok d7 F1 a) ?_
  rintro _ w ⟨f4, rfl, a⟩
  refine ⟨_, rfl, ?_⟩
  refine Dn [] [0] [3] (Rn (yS rfl (lbs_ [.bool g.1, D.v] ST_27 (eh x) a R6) QSn) ?_)
  refine Lc1 rfl ?_
  replace a := a.fz
  refine Lk wn (yCall FN_69 (a2 e0 e0)) (sparseref01_Add_ok d8 F1 F0 a) ?_
  rintro _ w ⟨N, rfl, a⟩
  refine ⟨_, rfl, ?_⟩
  refine Dn [] [] [4] (Rn QSn ?_)
  refine Lc1 rfl ?_
  replace a := a.k1w
  refine LT wn (r_stbn (vals' := [.bool J.1, N.v]) (us := [.bool J.1, N.v]) a ST_27 (eh x) e0 rfl rfl (one_of rfl) rfl) fun w a => Dz [] [] (Rn QSn (d6 _ _ (sR fun _ d9 => yY (yFb FL_27_0 (eh a6)) (yY (lb_ (.bool l.1) O_4 e0 a R2) (wK d9 ?_)))))
  have b2 : ∀ (V : Bool) (W : LI) (X : Hdr) (f : FV) w, f 4 = (pB A) → f 5 = (pB B) → f 8 = (pB s) → f 9 = (pB u) → St w0 ros (box A 27 [.bool false, hnil.v] :: box B 27 [.bool false, hnil.v] :: row 88 (rI .u32) X.v W :: box s 27 [.bool V, X.v] :: row 88 (rI .u32) N.v J.2 :: box u 27 [.bool J.1, N.v] :: rs) w → sparseref01_DivMod_j4 J V W = some out → a7 .normal (fr 50 f) w := by
   intro V W X f w e1 e2 e3 e4 a b
   replace a := (a.k1x).fz
   exact a8 _ _ _ _ _ _ _ _ e1 e2 e3 e4 a b
  refine cB e0 b (fun e5 b => ?_) fun e5 b => ?_
  ·refine bE b fun f5 e6 b => bE b fun b3 e7 b => dR [0, 0, 3, 7] [1, 2, 3] 3 folM ?_
   replace a := a.drew
   refine Dn [0] [] [1] (yR rfl (lbs_ [.bool d.1, t.v] ST_27 (eh o) a R6) (Rn QSn ?_))
   refine Lc1 rfl ?_
   refine Lk wn (yCall FN_43 (a1 rfl)) (sparseref01_FromInt_ok e6 a) ?_
   rintro _ w ⟨f6, rfl, a⟩
   refine ⟨_, rfl, ?_⟩
   refine Dn [] [0] [2] (Rn (yS rfl (lbs_ [.bool d.1, t.v] ST_27 (eh o) a R7) QSn) ?_)
   refine Lc1 rfl ?_
   replace a := ((a.k1w).fz).fz
   refine Lk wn (yCall FN_69 (a2 e0 e0)) (sparseref01_Add_ok e7 F1 F0 a) ?_
   rintro _ w ⟨b4, rfl, a⟩
   refine ⟨_, rfl, ?_⟩
   refine Dn [] [] [3] (Rn QSn ?_)
   refine Lc1 rfl ?_
   replace a := a.k1w
   exact LT wn (r_stbn (vals' := [.bool b3.1, b4.v]) (us := [.bool b3.1, b4.v]) a ST_27 (eh o) e0 rfl rfl (one_of rfl) rfl) fun w a => Dz [] [] (Rn QSn (b2 _ _ _ _ _ R S o x ((a.k1y).facts (allT (allT (allT (allT (allT allI)))))) b))
  ·refine bE b fun f7 e8 b => bE b fun b5 e9 b => dR [0, 0, 3, 7] [1, 2, 3] 3 folM ?_
   replace a := a.drew
   refine Dn [0] [] [1] (yR rfl (lbs_ [.bool d.1, t.v] ST_27 (eh o) a R6) (Rn QSn ?_))
   refine Lc1 rfl ?_
   refine Lk wn (yCall FN_43 (a1 rfl)) (sparseref01_FromInt_ok e8 a) ?_
   rintro _ w ⟨f8, rfl, a⟩
   refine ⟨_, rfl, ?_⟩
   refine Dn [] [0] [2] (Rn (yS rfl (lbs_ [.bool d.1, t.v] ST_27 (eh o) a R7) QSn) ?_)
   refine Lc1 rfl ?_
   replace a := ((a.k1w).fz).fz
   refine Lk wn (yCall FN_73 (a2 e0 e0)) (sparseref01_Sub_ok e9 F1 F0 a) ?_
   rintro _ w ⟨b6, rfl, a⟩
   refine ⟨_, rfl, ?_⟩
   refine Dn [] [] [3] (Rn QSn ?_)
   refine Lc1 rfl ?_
   replace a := a.k1w
   exact LT wn (r_stbn (vals' := [.bool b5.1, b6.v]) (us := [.bool b5.1, b6.v]) a ST_27 (eh o) e0 rfl rfl (one_of rfl) rfl) fun w a => Dz [] [] (Rn QSn (b2 _ _ _ _ _ R S o x ((a.k1y).facts (allT (allT (allT (allT (allT allI)))))) b))
 ·exact wp_skip (a8 _ _ _ _ _ _ _ _ R S o x ((a.k1z).facts (allC F0 (allT (allT allI)))) b)
theorem sparseref01_Int_ok {m : Bool} {t : LI} {n : Hdr} {out : Int × Bool} (c : sparseref01_Int m t = some out) (z : imm (rI .u32) n.v t ∈ ros) (b : St w0 ros rs w) :
  Calls Tryz.prog 41 #[.agg #[.bool m, n.v]] w (fun e w => e = .returned (.tuple #[iV out.1, .bool out.2]) ∧ St w0 ros rs w) := by
 refine enterQ Tryz.func41 rfl Tryz.ntmps41 rfl fun Q k => sR fun _ A => yBb (r_box (vals := [.bool m, n.v]) b e0 rfl) fun o w b => Ya (iV 0) rfl (Ya (.bool false) rfl (wK A (sR fun _ B => yY (lbs_ [.bool m, n.v] ST_27 e0 b R0) (bE c fun j C c => yC (yCall FN_91 (a1 e0)) (sparseref01_Norm_ok C z b) ?_))))
 rintro _ w ⟨d, rfl, b⟩
 refine ⟨_, rfl, ?_⟩
 refine yT (r_stbn (vals' := [.bool j.1, d.v]) (us := [.bool j.1, d.v]) (b.k11) ST_27 e0 e0 rfl rfl (one_of rfl) rfl) fun w b => wK B (seqQ fun c3 D E => sR fun _ F => yY (yFb FL_27_1 e0) (yY (lb_ d.v O_25 e0 b R0) (yY (yLen SL_25 e0 b rO1) (yY (ygtr e0 rfl) (wK F ?_)))))
 refine cIf e0 c (fun G c => ?_) fun G c => ?_
 ·refine sR fun _ H => Ya (iV 0) rfl (Ya (.bool false) rfl (wK H (wp_ret (E _ _ _ rfl ?_))))
  cases c
  exact k _ _ _ (fin2r Tryz.results41 ⟨rfl, rfl⟩ ⟨rfl, rfl⟩ ⟨rfl, (b.k1l)⟩)
 ·refine wp_skip (D _ _ (sR fun _ I => Ya (.int .u64 0) rfl (wK I (sQ fun _ J => sR fun _ K => Ya (iV 0) rfl (wK K (blockQ fun L N => ?_))))))
  refine bE c fun O R c => ?_
  have S : ∀ (g : Int) (f : FV) w, f 1 = (pB o) → f 4 = .int .u64 g → St w0 ros (row 88 (rI .u32) d.v j.2 :: box o 27 [.bool j.1, d.v] :: rs) w → g = O → L (.exit 0) (fr 43 f) w := by
   intro g f w T p b ho
   subst ho
   refine N _ _ _ (J _ _ (seqQ fun c4 U u => sR fun _ V => yY (yFb FL_27_0 (eh T)) (yY (lb_ (.bool j.1) O_4 e0 b R1) (wK V (cB e0 c (fun W c => ?_) fun W c => ?_)))))
   ·refine seqQ fun c5 X Z => sR fun _ a0 => Ym (.int .u64 g) (eh p) (yY (ygtr e0 rfl) (wK a0 ?_))
    refine cIf e0 c (fun a2 c => ?_) fun a2 c => ?_
    ·refine sR fun _ a3 => Ya (iV 0) rfl (Ya (.bool false) rfl (wK a3 (wp_ret (Z _ _ _ rfl (u _ _ _ rfl ?_)))))
     cases c
     exact k _ _ _ (fin2r Tryz.results41 ⟨rfl, rfl⟩ ⟨rfl, rfl⟩ ⟨rfl, (b.k1l)⟩)
    ·refine wp_skip (X _ _ (sR fun _ a4 => Ym (.int .u64 g) (eh p) (yY (ysub e0 rfl) (yY (ycv (k' := .i64) (by kernel_rfl) (by kernel_rfl) e0) (yY (yneg e0) (yY (ysub e0 rfl) (Ya (iV (ws .i64 (wneg .i64 (wc .i64 (ws .u64 g 1))) 1)) e0 (Ya (.bool true) rfl (wK a4 (wp_ret ?_))))))))))
     refine u _ _ _ rfl ?_
     cases c
     exact k _ _ _ (fin2r Tryz.results41 ⟨rfl, rfl⟩ ⟨rfl, rfl⟩ ⟨rfl, (b.k1l)⟩)
   ·refine wp_skip (U _ _ (seqQ fun c6 a5 a6 => sR fun _ a7 => Ym (.int .u64 g) (eh p) (yY (ygtr e0 rfl) (wK a7 ?_))))
    refine cIf e0 c (fun a8 c => ?_) fun a8 c => ?_
    ·refine sR fun _ a9 => Ya (iV 0) rfl (Ya (.bool false) rfl (wK a9 (wp_ret (a6 _ _ _ rfl ?_))))
     cases c
     exact k _ _ _ (fin2r Tryz.results41 ⟨rfl, rfl⟩ ⟨rfl, rfl⟩ ⟨rfl, (b.k1l)⟩)
    ·refine wp_skip (a5 _ _ (sR fun _ b0 => Ym (.int .u64 g) (eh p) (yY (ycv (k' := .i64) (by kernel_rfl) (by kernel_rfl) e0) (Ya (iV (wc .i64 g)) e0 (Ya (.bool true) rfl (wK b0 (wp_ret ?_)))))))
     cases c
     exact k _ _ _ (fin2r Tryz.results41 ⟨rfl, rfl⟩ ⟨rfl, rfl⟩ ⟨rfl, (b.k1l)⟩)
  refine loopQ (fun s a w => ∃ (l i : Int) (f : FV), (l, i) = s ∧ a = fr 43 f ∧ f 1 = (pB o) ∧ f 4 = .int .u64 l ∧ f 5 = iV i ∧ St w0 ros (row 88 (rI .u32) d.v j.2 :: box o 27 [.bool j.1, d.v] :: rs) w) R ⟨_, _, _, rfl, rfl, rfl, rfl, rfl, (b.k11)⟩ ?_
  rintro _ _ w c8 ⟨l, i, f, rfl, rfl, q, x, r, b⟩ h b1 c9 b2 b3
  refine seqQ fun d0 b5 b6 => sR fun _ b7 => Ym (iV i) (eh r) (yY (yFb FL_27_1 (eh q)) (yY (lb_ d.v O_25 e0 b R1) (yY (yLen SL_25 e0 b rO0) (yY (ylss e0 e0) (wK b7 ?_)))))
  refine cIf e0 h (fun b8 h => ?_) fun b8 h => ?_
  ·refine wp_skip (b5 _ _ (sQ fun _ b9 => blockQ fun _ c0 => wR (Ym (.int .u64 l) (eh x) (yY (yFb FL_27_1 (eh q)) (yY (lb_ d.v O_25 e0 b R1) (Ym (iV i) (eh r) (bE h fun d1 y h => yY (yIa SL_25 e0 e0 b rO0 y) (yY (yI O_88 e0 b rO0 y) (yY (ycv (k' := .u64) (by kernel_rfl) (by kernel_rfl) e0) (Ym (iV i) (eh r) ?_))))))))))
   refine yY (ymul rfl e0) (bE h fun c1 c2 h => yY (yshl e0 e0 c2) (yY (yor e0 e0) (Ya (.int .u64 (wor .u64 l c1)) e0 (wN (c0 _ _ _ (b9 _ _ (wR (Ym (iV i) (eh r) (yY (yadd e0 rfl) (Ya (iV (wa .i64 i 1)) e0 (wN ?_)))))))))))
   cases h
   exact b2 _ _ _ rfl ⟨_, _, _, rfl, rfl, q, rfl, rfl, b⟩
  ·refine wp_exit (b6 _ _ _ rfl ?_)
   cases h
   exact b3 _ _ _ _ rfl rfl (S _ _ _ q x b (b1 _ rfl))
theorem sparseref07_Reduce_ok {g : Bool} {x : LI} {p : Int} {h : Hdr} {out : Int} (q : sparseref07_Reduce g x p = some out) (j : imm (rI .u32) h.v x ∈ ros) (a : St w0 ros rs w) :
  Calls Tryz.prog 30 #[.agg #[.bool g, h.v], iV p] w (fun e w => e = .returned (iV out) ∧ St w0 ros rs w) := by
 refine enterQ Tryz.func30 rfl Tryz.ntmps30 rfl fun Q y => sR fun _ z => yBb (r_box (vals := [.bool g, h.v]) a e0 rfl) fun F w a => Ya (iV 0) rfl (wK z (sQ fun _ A => bE q fun G r q => bE q fun b k q => ?_))
 refine joinN (n := 22) (fun f w => ∃ (u : Nat) (s : Hdr), f 6 = (pB u) ∧ St w0 (imm (rI .u32) s.v b.2.2.2 :: ros) (box u 27 [.bool b.2.2.1, s.v] :: rs) w) (fun i => ?_) ?_
 ·refine dR [0, 0, 2, 7, 15, 31, 31, 0, 0, 447, 1023] [2, 3, 7, 8, 9, 10] 6 folM ?_
  replace a := a.drew
  refine Dn [0, 1] [] [2, 7, 8] (yR rfl (lbs_ [.bool g, h.v] ST_27 e0 a R0) (yR rfl (m_ (iV p) e0) (Rn QSn ?_)))
  refine Lc rfl ?_ (Lc rfl ?_ (Lc1 rfl ?_))
  ·refine Lk wn (yCall FN_43 (a1 e0)) (sparseref01_FromInt_ok r a) ?_
   rintro _ w ⟨t, rfl, a⟩
   refine ⟨_, rfl, ?_⟩
   refine Dn [] [0] [3, 7, 8] (Rn (yS rfl (lbs_ [.bool g, h.v] ST_27 e0 a R1) QSn) ?_)
   refine Lc rfl ?_ (Lc rfl ?_ (Lc1 rfl ?_))
   ·replace a := a.fz
    refine Lk wn (yCall FN_79 (a2 e0 e0)) (sparseref01_DivMod_ok k (mtF j) F0 a) ?_
    rintro _ w ⟨d, c, rfl, a⟩
    refine ⟨_, rfl, ?_⟩
    refine Dn [4, 5, 6] [] [7, 8] (yR rfl (m_ (.tuple #[.agg #[.bool b.1, d.v], .agg #[.bool b.2.2.1, c.v]]) e0) (yR rfl (x_ (.agg #[.bool b.1, d.v]) e0) (yR rfl (x_ (.agg #[.bool b.2.2.1, c.v]) e0) (Rn QSn ?_))))
    refine Lc rfl ?_ (Lc1 rfl ?_)
    ·refine LB wn (rAl a ZT_27) fun l w a => Dn [] [4, 5, 6] [8] (Rn (yS rfl (m_ (.tuple #[.agg #[.bool b.1, d.v], .agg #[.bool b.2.2.1, c.v]]) e0) (yS rfl (x_ (.agg #[.bool b.1, d.v]) e0) (yS rfl (x_ (.agg #[.bool b.2.2.1, c.v]) e0) QSn))) ?_)
     refine Lc1 rfl ?_
     refine LB wn (rAl a ZT_27) fun m w a => Dn [] [4, 5, 6] [9] (Rn (yS rfl (m_ (.tuple #[.agg #[.bool b.1, d.v], .agg #[.bool b.2.2.1, c.v]]) e0) (yS rfl (x_ (.agg #[.bool b.1, d.v]) e0) (yS rfl (x_ (.agg #[.bool b.2.2.1, c.v]) e0) QSn))) ?_)
     refine Lc1 rfl ?_
     replace a := a.k11
     refine LT wn (r_stbn (vals' := [.bool b.1, d.v]) (us := [.bool b.1, d.v]) a ST_27 e0 e0 rfl rfl (one_of rfl) rfl) fun w a => Dn [] [6] [10] (Rn (yS rfl (x_ (.agg #[.bool b.2.2.1, c.v]) e0) QSn) ?_)
     refine Lc1 rfl ?_
     replace a := a.k11
     exact LT wn (r_stbn (vals' := [.bool b.2.2.1, c.v]) (us := [.bool b.2.2.1, c.v]) a ST_27 e0 e0 rfl rfl (one_of rfl) rfl) fun w a => Dz [] [] (Rn QSn (i _ _ ⟨_, _, rfl, ((a.k1d).facts (allC F0 (allT (allT allI))))⟩))
    ·refine LB wn (rAl a ZT_27) fun m w a => Dn [] [4, 5, 6] [7] (Rn (yS rfl (m_ (.tuple #[.agg #[.bool b.1, d.v], .agg #[.bool b.2.2.1, c.v]]) e0) (yS rfl (x_ (.agg #[.bool b.1, d.v]) e0) (yS rfl (x_ (.agg #[.bool b.2.2.1, c.v]) e0) QSn))) ?_)
     refine Lc1 rfl ?_
     refine LB wn (rAl a ZT_27) fun l w a => Dn [] [4, 5, 6] [9] (Rn (yS rfl (m_ (.tuple #[.agg #[.bool b.1, d.v], .agg #[.bool b.2.2.1, c.v]]) e0) (yS rfl (x_ (.agg #[.bool b.1, d.v]) e0) (yS rfl (x_ (.agg #[.bool b.2.2.1, c.v]) e0) QSn))) ?_)
     refine Lc1 rfl ?_
     refine LT wn (r_stbn (vals' := [.bool b.1, d.v]) (us := [.bool b.1, d.v]) a ST_27 e0 e0 rfl rfl (one_of rfl) rfl) fun w a => Dn [] [6] [10] (Rn (yS rfl (x_ (.agg #[.bool b.2.2.1, c.v]) e0) QSn) ?_)
     refine Lc1 rfl ?_
     replace a := a.k11
     exact LT wn (r_stbn (vals' := [.bool b.2.2.1, c.v]) (us := [.bool b.2.2.1, c.v]) a ST_27 e0 e0 rfl rfl (one_of rfl) rfl) fun w a => Dz [] [] (Rn QSn (i _ _ ⟨_, _, rfl, ((a.k1d).facts (allC F0 (allT (allT allI))))⟩))
   ·refine LB wn (rAl a ZT_27) fun l w a => Dn [] [0] [3, 8] (Rn (yS rfl (lbs_ [.bool g, h.v] ST_27 e0 a R2) QSn) ?_)
    refine Lc rfl ?_ (Lc1 rfl ?_)
    ·replace a := a.k11
     replace a := a.fz
     refine Lk wn (yCall FN_79 (a2 e0 e0)) (sparseref01_DivMod_ok k (mtF j) F0 a) ?_
     rintro _ w ⟨d, c, rfl, a⟩
     refine ⟨_, rfl, ?_⟩
     refine Dn [4, 5, 6] [] [8] (yR rfl (m_ (.tuple #[.agg #[.bool b.1, d.v], .agg #[.bool b.2.2.1, c.v]]) e0) (yR rfl (x_ (.agg #[.bool b.1, d.v]) e0) (yR rfl (x_ (.agg #[.bool b.2.2.1, c.v]) e0) (Rn QSn ?_))))
     refine Lc1 rfl ?_
     refine LB wn (rAl a ZT_27) fun m w a => Dn [] [4, 5, 6] [9] (Rn (yS rfl (m_ (.tuple #[.agg #[.bool b.1, d.v], .agg #[.bool b.2.2.1, c.v]]) e0) (yS rfl (x_ (.agg #[.bool b.1, d.v]) e0) (yS rfl (x_ (.agg #[.bool b.2.2.1, c.v]) e0) QSn))) ?_)
     refine Lc1 rfl ?_
     replace a := a.k1a
     refine LT wn (r_stbn (vals' := [.bool b.1, d.v]) (us := [.bool b.1, d.v]) a ST_27 e0 e0 rfl rfl (one_of rfl) rfl) fun w a => Dn [] [6] [10] (Rn (yS rfl (x_ (.agg #[.bool b.2.2.1, c.v]) e0) QSn) ?_)
     refine Lc1 rfl ?_
     replace a := a.k11
     exact LT wn (r_stbn (vals' := [.bool b.2.2.1, c.v]) (us := [.bool b.2.2.1, c.v]) a ST_27 e0 e0 rfl rfl (one_of rfl) rfl) fun w a => Dz [] [] (Rn QSn (i _ _ ⟨_, _, rfl, ((a.k1d).facts (allC F0 (allT (allT allI))))⟩))
    ·refine LB wn (rAl a ZT_27) fun m w a => Dn [] [0] [3] (Rn (yS rfl (lbs_ [.bool g, h.v] ST_27 e0 a R3) QSn) ?_)
     refine Lc1 rfl ?_
     replace a := (a.k1a).fz
     refine Lk wn (yCall FN_79 (a2 e0 e0)) (sparseref01_DivMod_ok k (mtF j) F0 a) ?_
     rintro _ w ⟨d, c, rfl, a⟩
     refine ⟨_, rfl, ?_⟩
     refine Dn [4, 5, 6] [] [9] (yR rfl (m_ (.tuple #[.agg #[.bool b.1, d.v], .agg #[.bool b.2.2.1, c.v]]) e0) (yR rfl (x_ (.agg #[.bool b.1, d.v]) e0) (yR rfl (x_ (.agg #[.bool b.2.2.1, c.v]) e0) (Rn QSn ?_))))
     refine Lc1 rfl ?_
     replace a := a.k1a
     refine LT wn (r_stbn (vals' := [.bool b.1, d.v]) (us := [.bool b.1, d.v]) a ST_27 e0 e0 rfl rfl (one_of rfl) rfl) fun w a => Dn [] [6] [10] (Rn (yS rfl (x_ (.agg #[.bool b.2.2.1, c.v]) e0) QSn) ?_)
     refine Lc1 rfl ?_
     replace a := a.k1a
     exact LT wn (r_stbn (vals' := [.bool b.2.2.1, c.v]) (us := [.bool b.2.2.1, c.v]) a ST_27 e0 e0 rfl rfl (one_of rfl) rfl) fun w a => Dz [] [] (Rn QSn (i _ _ ⟨_, _, rfl, ((a.k1d).facts (allC F0 (allT (allT allI))))⟩))
   ·refine LB wn (rAl a ZT_27) fun m w a => Dn [] [0] [3, 7] (Rn (yS rfl (lbs_ [.bool g, h.v] ST_27 e0 a R2) QSn) ?_)
    refine Lc rfl ?_ (Lc1 rfl ?_)
    ·replace a := a.k11
     replace a := a.fz
     refine Lk wn (yCall FN_79 (a2 e0 e0)) (sparseref01_DivMod_ok k (mtF j) F0 a) ?_
     rintro _ w ⟨d, c, rfl, a⟩
     refine ⟨_, rfl, ?_⟩
     refine Dn [4, 5, 6] [] [7] (yR rfl (m_ (.tuple #[.agg #[.bool b.1, d.v], .agg #[.bool b.2.2.1, c.v]]) e0) (yR rfl (x_ (.agg #[.bool b.1, d.v]) e0) (yR rfl (x_ (.agg #[.bool b.2.2.1, c.v]) e0) (Rn QSn ?_))))
     refine Lc1 rfl ?_
     refine LB wn (rAl a ZT_27) fun l w a => Dn [] [4, 5, 6] [9] (Rn (yS rfl (m_ (.tuple #[.agg #[.bool b.1, d.v], .agg #[.bool b.2.2.1, c.v]]) e0) (yS rfl (x_ (.agg #[.bool b.1, d.v]) e0) (yS rfl (x_ (.agg #[.bool b.2.2.1, c.v]) e0) QSn))) ?_)
     refine Lc1 rfl ?_
     refine LT wn (r_stbn (vals' := [.bool b.1, d.v]) (us := [.bool b.1, d.v]) a ST_27 e0 e0 rfl rfl (one_of rfl) rfl) fun w a => Dn [] [6] [10] (Rn (yS rfl (x_ (.agg #[.bool b.2.2.1, c.v]) e0) QSn) ?_)
     refine Lc1 rfl ?_
     replace a := a.k1a
     exact LT wn (r_stbn (vals' := [.bool b.2.2.1, c.v]) (us := [.bool b.2.2.1, c.v]) a ST_27 e0 e0 rfl rfl (one_of rfl) rfl) fun w a => Dz [] [] (Rn QSn (i _ _ ⟨_, _, rfl, ((a.k1d).facts (allC F0 (allT (allT allI))))⟩))
    ·refine LB wn (rAl a ZT_27) fun l w a => Dn [] [0] [3] (Rn (yS rfl (lbs_ [.bool g, h.v] ST_27 e0 a R3) QSn) ?_)
     refine Lc1 rfl ?_
     replace a := (a.k1a).fz
     refine Lk wn (yCall FN_79 (a2 e0 e0)) (sparseref01_DivMod_ok k (mtF j) F0 a) ?_
     rintro _ w ⟨d, c, rfl, a⟩
     refine ⟨_, rfl, ?_⟩
     refine Dn [4, 5, 6] [] [9] (yR rfl (m_ (.tuple #[.agg #[.bool b.1, d.v], .agg #[.bool b.2.2.1, c.v]]) e0) (yR rfl (x_ (.agg #[.bool b.1, d.v]) e0) (yR rfl (x_ (.agg #[.bool b.2.2.1, c.v]) e0) (Rn QSn ?_))))
     refine Lc1 rfl ?_
     replace a := a.k11
     refine LT wn (r_stbn (vals' := [.bool b.1, d.v]) (us := [.bool b.1, d.v]) a ST_27 e0 e0 rfl rfl (one_of rfl) rfl) fun w a => Dn [] [6] [10] (Rn (yS rfl (x_ (.agg #[.bool b.2.2.1, c.v]) e0) QSn) ?_)
     refine Lc1 rfl ?_
     replace a := a.k1a
     exact LT wn (r_stbn (vals' := [.bool b.2.2.1, c.v]) (us := [.bool b.2.2.1, c.v]) a ST_27 e0 e0 rfl rfl (one_of rfl) rfl) fun w a => Dz [] [] (Rn QSn (i _ _ ⟨_, _, rfl, ((a.k1d).facts (allC F0 (allT (allT allI))))⟩))
  ·refine LB wn (rAl a ZT_27) fun l w a => Dn [] [0, 1] [2, 8] (Rn (yS rfl (lbs_ [.bool g, h.v] ST_27 e0 a R1) (yS rfl (m_ (iV p) e0) QSn)) ?_)
   refine Lc rfl ?_ (Lc1 rfl ?_)
   ·refine Lk wn (yCall FN_43 (a1 e0)) (sparseref01_FromInt_ok r a) ?_
    rintro _ w ⟨t, rfl, a⟩
    refine ⟨_, rfl, ?_⟩
    refine Dn [] [0] [3, 8] (Rn (yS rfl (lbs_ [.bool g, h.v] ST_27 e0 a R2) QSn) ?_)
    refine Lc rfl ?_ (Lc1 rfl ?_)
    ·replace a := a.fz
     refine Lk wn (yCall FN_79 (a2 e0 e0)) (sparseref01_DivMod_ok k (mtF j) F0 a) ?_
     rintro _ w ⟨d, c, rfl, a⟩
     refine ⟨_, rfl, ?_⟩
     refine Dn [4, 5, 6] [] [8] (yR rfl (m_ (.tuple #[.agg #[.bool b.1, d.v], .agg #[.bool b.2.2.1, c.v]]) e0) (yR rfl (x_ (.agg #[.bool b.1, d.v]) e0) (yR rfl (x_ (.agg #[.bool b.2.2.1, c.v]) e0) (Rn QSn ?_))))
     refine Lc1 rfl ?_
     refine LB wn (rAl a ZT_27) fun m w a => Dn [] [4, 5, 6] [9] (Rn (yS rfl (m_ (.tuple #[.agg #[.bool b.1, d.v], .agg #[.bool b.2.2.1, c.v]]) e0) (yS rfl (x_ (.agg #[.bool b.1, d.v]) e0) (yS rfl (x_ (.agg #[.bool b.2.2.1, c.v]) e0) QSn))) ?_)
     refine Lc1 rfl ?_
     replace a := a.k1a
     refine LT wn (r_stbn (vals' := [.bool b.1, d.v]) (us := [.bool b.1, d.v]) a ST_27 e0 e0 rfl rfl (one_of rfl) rfl) fun w a => Dn [] [6] [10] (Rn (yS rfl (x_ (.agg #[.bool b.2.2.1, c.v]) e0) QSn) ?_)
     refine Lc1 rfl ?_
     replace a := a.k11
     exact LT wn (r_stbn (vals' := [.bool b.2.2.1, c.v]) (us := [.bool b.2.2.1, c.v]) a ST_27 e0 e0 rfl rfl (one_of rfl) rfl) fun w a => Dz [] [] (Rn QSn (i _ _ ⟨_, _, rfl, ((a.k1d).facts (allC F0 (allT (allT allI))))⟩))
    ·refine LB wn (rAl a ZT_27) fun m w a => Dn [] [0] [3] (Rn (yS rfl (lbs_ [.bool g, h.v] ST_27 e0 a R3) QSn) ?_)
     refine Lc1 rfl ?_
     replace a := (a.k11).fz
     refine Lk wn (yCall FN_79 (a2 e0 e0)) (sparseref01_DivMod_ok k (mtF j) F0 a) ?_
     rintro _ w ⟨d, c, rfl, a⟩
     refine ⟨_, rfl, ?_⟩
     refine Dn [4, 5, 6] [] [9] (yR rfl (m_ (.tuple #[.agg #[.bool b.1, d.v], .agg #[.bool b.2.2.1, c.v]]) e0) (yR rfl (x_ (.agg #[.bool b.1, d.v]) e0) (yR rfl (x_ (.agg #[.bool b.2.2.1, c.v]) e0) (Rn QSn ?_))))
     refine Lc1 rfl ?_
     replace a := a.k1a
     refine LT wn (r_stbn (vals' := [.bool b.1, d.v]) (us := [.bool b.1, d.v]) a ST_27 e0 e0 rfl rfl (one_of rfl) rfl) fun w a => Dn [] [6] [10] (Rn (yS rfl (x_ (.agg #[.bool b.2.2.1, c.v]) e0) QSn) ?_)
     refine Lc1 rfl ?_
     replace a := a.k1a
     exact LT wn (r_stbn (vals' := [.bool b.2.2.1, c.v]) (us := [.bool b.2.2.1, c.v]) a ST_27 e0 e0 rfl rfl (one_of rfl) rfl) fun w a => Dz [] [] (Rn QSn (i _ _ ⟨_, _, rfl, ((a.k1d).facts (allC F0 (allT (allT allI))))⟩))
   ·refine LB wn (rAl a ZT_27) fun m w a => Dn [] [0, 1] [2] (Rn (yS rfl (lbs_ [.bool g, h.v] ST_27 e0 a R2) (yS rfl (m_ (iV p) e0) QSn)) ?_)
    refine Lc1 rfl ?_
    refine Lk wn (yCall FN_43 (a1 e0)) (sparseref01_FromInt_ok r a) ?_
    rintro _ w ⟨t, rfl, a⟩
    refine ⟨_, rfl, ?_⟩
    refine Dn [] [0] [3] (Rn (yS rfl (lbs_ [.bool g, h.v] ST_27 e0 a R3) QSn) ?_)
    refine Lc1 rfl ?_
    replace a := a.fz
    refine Lk wn (yCall FN_79 (a2 e0 e0)) (sparseref01_DivMod_ok k (mtF j) F0 a) ?_
    rintro _ w ⟨d, c, rfl, a⟩
    refine ⟨_, rfl, ?_⟩
    refine Dn [4, 5, 6] [] [9] (yR rfl (m_ (.tuple #[.agg #[.bool b.1, d.v], .agg #[.bool b.2.2.1, c.v]]) e0) (yR rfl (x_ (.agg #[.bool b.1, d.v]) e0) (yR rfl (x_ (.agg #[.bool b.2.2.1, c.v]) e0) (Rn QSn ?_))))
    refine Lc1 rfl ?_
    replace a := a.k1a
    refine LT wn (r_stbn (vals' := [.bool b.1, d.v]) (us := [.bool b.1, d.v]) a ST_27 e0 e0 rfl rfl (one_of rfl) rfl) fun w a => Dn [] [6] [10] (Rn (yS rfl (x_ (.agg #[.bool b.2.2.1, c.v]) e0) QSn) ?_)
    refine Lc1 rfl ?_
    replace a := a.k1a
    exact LT wn (r_stbn (vals' := [.bool b.2.2.1, c.v]) (us := [.bool b.2.2.1, c.v]) a ST_27 e0 e0 rfl rfl (one_of rfl) rfl) fun w a => Dz [] [] (Rn QSn (i _ _ ⟨_, _, rfl, ((a.k1d).facts (allC F0 (allT (allT allI))))⟩))
  ·refine LB wn (rAl a ZT_27) fun m w a => Dn [] [0, 1] [2, 7] (Rn (yS rfl (lbs_ [.bool g, h.v] ST_27 e0 a R1) (yS rfl (m_ (iV p) e0) QSn)) ?_)
   refine Lc rfl ?_ (Lc1 rfl ?_)
   ·refine Lk wn (yCall FN_43 (a1 e0)) (sparseref01_FromInt_ok r a) ?_
    rintro _ w ⟨t, rfl, a⟩
    refine ⟨_, rfl, ?_⟩
    refine Dn [] [0] [3, 7] (Rn (yS rfl (lbs_ [.bool g, h.v] ST_27 e0 a R2) QSn) ?_)
    refine Lc rfl ?_ (Lc1 rfl ?_)
    ·replace a := a.fz
     refine Lk wn (yCall FN_79 (a2 e0 e0)) (sparseref01_DivMod_ok k (mtF j) F0 a) ?_
     rintro _ w ⟨d, c, rfl, a⟩
     refine ⟨_, rfl, ?_⟩
     refine Dn [4, 5, 6] [] [7] (yR rfl (m_ (.tuple #[.agg #[.bool b.1, d.v], .agg #[.bool b.2.2.1, c.v]]) e0) (yR rfl (x_ (.agg #[.bool b.1, d.v]) e0) (yR rfl (x_ (.agg #[.bool b.2.2.1, c.v]) e0) (Rn QSn ?_))))
     refine Lc1 rfl ?_
     refine LB wn (rAl a ZT_27) fun l w a => Dn [] [4, 5, 6] [9] (Rn (yS rfl (m_ (.tuple #[.agg #[.bool b.1, d.v], .agg #[.bool b.2.2.1, c.v]]) e0) (yS rfl (x_ (.agg #[.bool b.1, d.v]) e0) (yS rfl (x_ (.agg #[.bool b.2.2.1, c.v]) e0) QSn))) ?_)
     refine Lc1 rfl ?_
     refine LT wn (r_stbn (vals' := [.bool b.1, d.v]) (us := [.bool b.1, d.v]) a ST_27 e0 e0 rfl rfl (one_of rfl) rfl) fun w a => Dn [] [6] [10] (Rn (yS rfl (x_ (.agg #[.bool b.2.2.1, c.v]) e0) QSn) ?_)
     refine Lc1 rfl ?_
     replace a := a.k1a
     exact LT wn (r_stbn (vals' := [.bool b.2.2.1, c.v]) (us := [.bool b.2.2.1, c.v]) a ST_27 e0 e0 rfl rfl (one_of rfl) rfl) fun w a => Dz [] [] (Rn QSn (i _ _ ⟨_, _, rfl, ((a.k1d).facts (allC F0 (allT (allT allI))))⟩))
    ·refine LB wn (rAl a ZT_27) fun l w a => Dn [] [0] [3] (Rn (yS rfl (lbs_ [.bool g, h.v] ST_27 e0 a R3) QSn) ?_)
     refine Lc1 rfl ?_
     replace a := (a.k11).fz
     refine Lk wn (yCall FN_79 (a2 e0 e0)) (sparseref01_DivMod_ok k (mtF j) F0 a) ?_
     rintro _ w ⟨d, c, rfl, a⟩
     refine ⟨_, rfl, ?_⟩
     refine Dn [4, 5, 6] [] [9] (yR rfl (m_ (.tuple #[.agg #[.bool b.1, d.v], .agg #[.bool b.2.2.1, c.v]]) e0) (yR rfl (x_ (.agg #[.bool b.1, d.v]) e0) (yR rfl (x_ (.agg #[.bool b.2.2.1, c.v]) e0) (Rn QSn ?_))))
     refine Lc1 rfl ?_
     replace a := a.k11
     refine LT wn (r_stbn (vals' := [.bool b.1, d.v]) (us := [.bool b.1, d.v]) a ST_27 e0 e0 rfl rfl (one_of rfl) rfl) fun w a => Dn [] [6] [10] (Rn (yS rfl (x_ (.agg #[.bool b.2.2.1, c.v]) e0) QSn) ?_)
     refine Lc1 rfl ?_
     replace a := a.k1a
     exact LT wn (r_stbn (vals' := [.bool b.2.2.1, c.v]) (us := [.bool b.2.2.1, c.v]) a ST_27 e0 e0 rfl rfl (one_of rfl) rfl) fun w a => Dz [] [] (Rn QSn (i _ _ ⟨_, _, rfl, ((a.k1d).facts (allC F0 (allT (allT allI))))⟩))
   ·refine LB wn (rAl a ZT_27) fun l w a => Dn [] [0, 1] [2] (Rn (yS rfl (lbs_ [.bool g, h.v] ST_27 e0 a R2) (yS rfl (m_ (iV p) e0) QSn)) ?_)
    refine Lc1 rfl ?_
    refine Lk wn (yCall FN_43 (a1 e0)) (sparseref01_FromInt_ok r a) ?_
    rintro _ w ⟨t, rfl, a⟩
    refine ⟨_, rfl, ?_⟩
    refine Dn [] [0] [3] (Rn (yS rfl (lbs_ [.bool g, h.v] ST_27 e0 a R3) QSn) ?_)
    refine Lc1 rfl ?_
    replace a := a.fz
    refine Lk wn (yCall FN_79 (a2 e0 e0)) (sparseref01_DivMod_ok k (mtF j) F0 a) ?_
    rintro _ w ⟨d, c, rfl, a⟩
    refine ⟨_, rfl, ?_⟩
    refine Dn [4, 5, 6] [] [9] (yR rfl (m_ (.tuple #[.agg #[.bool b.1, d.v], .agg #[.bool b.2.2.1, c.v]]) e0) (yR rfl (x_ (.agg #[.bool b.1, d.v]) e0) (yR rfl (x_ (.agg #[.bool b.2.2.1, c.v]) e0) (Rn QSn ?_))))
    refine Lc1 rfl ?_
    replace a := a.k11
    refine LT wn (r_stbn (vals' := [.bool b.1, d.v]) (us := [.bool b.1, d.v]) a ST_27 e0 e0 rfl rfl (one_of rfl) rfl) fun w a => Dn [] [6] [10] (Rn (yS rfl (x_ (.agg #[.bool b.2.2.1, c.v]) e0) QSn) ?_)
    refine Lc1 rfl ?_
    replace a := a.k1a
    exact LT wn (r_stbn (vals' := [.bool b.2.2.1, c.v]) (us := [.bool b.2.2.1, c.v]) a ST_27 e0 e0 rfl rfl (one_of rfl) rfl) fun w a => Dz [] [] (Rn QSn (i _ _ ⟨_, _, rfl, ((a.k1d).facts (allC F0 (allT (allT allI))))⟩))
 rintro f w ⟨u, s, B, a⟩
 refine A _ _ (sR fun _ C => yY (lbs_ [.bool b.2.2.1, s.v] ST_27 (eh B) a R0) (bE q fun o D q => yC (yCall FN_41 (a1 e0)) (sparseref01_Int_ok D F0 a) ?_))
 rintro _ w ⟨rfl, a⟩
 refine ⟨_, rfl, ?_⟩
 refine Ym (.tuple #[iV o.1, .bool o.2]) e0 (yY (x_ (iV o.1) e0) (yY (x_ (.bool o.2) e0) (Ya (iV o.1) e0 (Ya (.bool o.2) e0 (wK C (sR fun _ E => Ym (iV o.1) e0 (Ya (iV o.1) e0 (wK E (wp_ret ?_)))))))))
 cases q
 exact y _ _ _ (fin1r Tryz.results30 ⟨rfl, rfl⟩ ⟨rfl, ((a.k10).facts (allT allI))⟩)
theorem sparseref07_Mod_ok {h b out : Int} (a : sparseref07_Mod h b = some out) (d : St w0 ros rs w) :
  Calls Tryz.prog 31 #[iV h, iV b] w (fun e w => e = .returned (iV out) ∧ St w0 ros rs w) := by
 refine enterQ Tryz.func31 rfl Tryz.ntmps31 rfl fun Q j => sR fun _ k => Ya (iV 0) rfl (wK k (sR fun _ l => Ym (iV h) e0 (Ym (iV b) e0 (bE a fun g m a => yY (yrem e0 e0 m) (Ya (iV g) e0 (wN ?_))))))
 refine l _ _ (sQ fun n o => sR fun _ p => Ym (iV g) e0 (yY (ylss e0 rfl) (wK p ?_)))
 have i : ∀ (c : Int) (f : FV) w, f 5 = iV c → St w0 ros rs w → sparseref07_Mod_j1 c = some out → n .normal (fr 15 f) w := by
  intro c f w q d a
  refine o _ _ (sR fun _ r => Ym (iV c) (eh q) (Ya (iV c) e0 (wK r (wp_ret ?_))))
  cases a
  exact j _ _ _ (fin1r Tryz.results31 ⟨rfl, rfl⟩ ⟨rfl, d⟩)
 refine cIf e0 a (fun s a => ?_) fun s a => ?_
 ·exact wR (Ym (iV g) e0 (Ym (iV b) e0 (yY (yadd e0 e0) (Ya (iV (wa .i64 g b)) e0 (wN (i _ _ _ rfl d a))))))
 ·exact wp_skip (i _ _ _ rfl d a)
theorem sparseref07_Power_ok {m r h out : Int} (d : sparseref07_Power m r h = some out) (b : St w0 ros rs w) :
  Calls Tryz.prog 33 #[iV m, iV r, iV h] w (fun e w => e = .returned (iV out) ∧ St w0 ros rs w) := by
 refine enterQ Tryz.func33 rfl Tryz.ntmps33 rfl fun Q x => sR fun _ y => Ya (iV 0) rfl (wK y (sR fun _ z => Ym (iV m) e0 (Ym (iV h) e0 (bE d fun A B d => yC (yCall FN_31 (a2 e0 e0)) (sparseref07_Mod_ok B b) ?_))))
 rintro _ w ⟨rfl, b⟩
 refine ⟨_, rfl, ?_⟩
 refine Ya (iV A) e0 (wK z (sR fun _ C => Ya (iV 1) rfl (wK C (sQ fun _ D => blockQ fun E F => bE d fun G H d => ?_))))
 have I : ∀ (j : Int) (f : FV) w, f 7 = iV j → St w0 ros rs w → j = G → E (.exit 0) (fr 29 f) w := by
  intro j f w J b ho
  subst ho
  refine F _ _ _ (D _ _ (sR fun _ K => Ym (iV j) (eh J) (Ya (iV j) e0 (wK K (wp_ret ?_)))))
  cases d
  exact x _ _ _ (fin1r Tryz.results33 ⟨rfl, rfl⟩ ⟨rfl, b⟩)
 refine loopQ (fun s a w => ∃ (i g k : Int) (f : FV), (i, g, k) = s ∧ a = fr 29 f ∧ f 0 = iV i ∧ f 1 = iV g ∧ f 2 = iV h ∧ f 7 = iV k ∧ St w0 ros rs w) H ⟨_, _, _, _, rfl, rfl, rfl, rfl, rfl, rfl, b⟩ ?_
 rintro _ _ w L ⟨i, g, k, f, rfl, rfl, n, l, o, p, b⟩ c N b0 O R
 refine seqQ fun b1 S T => sR fun _ U => Ym (iV g) (eh l) (yY (ygtr e0 rfl) (wK U ?_))
 refine cIf e0 c (fun V c => ?_) fun V c => ?_
 ·refine wp_skip (S _ _ (blockQ fun _ W => sQ fun X Z => sR fun _ a0 => Ym (iV g) (eh l) (yY (yremc e0 rfl (by decide)) (yY (yeql e0 rfl) (wK a0 ?_)))))
  have t : ∀ (q : Int) (f : FV) w, f 0 = iV i → f 1 = iV g → f 2 = iV h → f 7 = iV q → St w0 ros rs w → sparseref07_Power_j4 i h g q = some L → X .normal (fr 29 f) w := by
   intro q f w u a1 v a3 b d
   refine Z _ _ (sR fun _ a4 => Ym (iV i) (eh u) (Ym (iV i) (eh u) (yY (ymul e0 e0) (Ym (iV h) (eh v) (bE d fun a5 a6 d => yY (yrem e0 e0 a6) (Ya (iV a5) e0 (wK a4 (wR (Ym (iV g) (eh a1) ?_)))))))))
   refine yY (yquoc e0 rfl (by decide)) (Ya (iV (wqc .i64 g 2)) e0 (wN (W _ _ _ ?_)))
   cases d
   exact O _ _ _ rfl ⟨_, _, _, _, rfl, rfl, rfl, rfl, v, a3, b⟩
  refine cIf e0 c (fun a7 c => ?_) fun a7 c => ?_
  ·exact wR (Ym (iV k) (eh p) (Ym (iV i) (eh n) (yY (ymul e0 e0) (Ym (iV h) (eh o) (bE c fun a8 a9 c => yY (yrem e0 e0 a9) (Ya (iV a8) e0 (wN (t _ _ _ n l o rfl b c))))))))
  ·exact wp_skip (t _ _ _ n l o p b c)
 ·refine wp_exit (T _ _ _ rfl ?_)
  cases c
  exact R _ _ _ _ rfl rfl (I _ _ _ p b (N _ rfl))
theorem sparseref07_Inverse_ok {b a out : Int} (c : sparseref07_Inverse b a = some out) (d : St w0 ros rs w) :
  Calls Tryz.prog 32 #[iV b, iV a] w (fun e w => e = .returned (iV out) ∧ St w0 ros rs w) := by
 refine enterQ Tryz.func32 rfl Tryz.ntmps32 rfl fun Q f => sR fun _ g => Ya (iV 0) rfl (wK g (sR fun _ h => Ym (iV b) e0 (Ym (iV a) e0 (yY (ysub e0 rfl) (Ym (iV a) e0 (bE c fun i j c => yC (yCall FN_33 (a3 e0 e0 e0)) (sparseref07_Power_ok j d) ?_))))))
 rintro _ w ⟨rfl, d⟩
 refine ⟨_, rfl, ?_⟩
 refine Ya (iV i) e0 (wK h (wp_ret ?_))
 cases c
 exact f _ _ _ (fin1r Tryz.results32 ⟨rfl, rfl⟩ ⟨rfl, d⟩)
theorem sparselaw07_ModularNumbers_ok {x : Bool} {X : LI} {j m h : Int} {y : Hdr} {out : Bool} (b : sparselaw07_ModularNumbers x X j m h = some out) (o5 : out = true) (U : imm (rI .u32) y.v X ∈ ros) (a : St w0 ros rs w) :
  Calls Tryz.prog 6 #[.agg #[.bool x, y.v], iV j, iV m, iV h] w (fun e w => e = .returned (.bool out) ∧ St w0 ros rs w) := by
 refine enterQ Tryz.func6 rfl Tryz.ntmps6 rfl fun Q z => sR fun _ d7 => yBb (r_box (vals := [.bool x, y.v]) a e0 rfl) fun Z w a => Ya (.bool false) rfl (wK d7 (seqQ fun o6 d8 d9 => sR fun _ e1 => yY (lbs_ [.bool x, y.v] ST_27 e0 a R0) (bE b fun e2 e3 b => yC (yCall FN_18 (a2 e0 rfl)) (sparsekit_Slim_ok e3 U a) ?_)))
 rintro _ w ⟨rfl, a⟩
 refine ⟨_, rfl, ?_⟩
 refine yY (ynot e0) (Ym (.bool (!e2)) e0 (bE b fun e4 A b => ?_))
 refine joinW 4 (fun f w => f 1 = iV j ∧ f 2 = iV m ∧ f 3 = iV h ∧ f 4 = (pB Z) ∧ f 22 = .bool e4 ∧ St w0 ros (box Z 27 [.bool x, y.v] :: rs) w) (fun a4 => ?_) ?_
 ·rcases iteS A with ⟨n, A⟩ | ⟨n, A⟩
  ·refine yG (nF n) (m_ (iV h) e0) (bE A fun e5 e6 A => Yc (wG (nF n)) rfl (yCall FN_12 (a1 e0)) (sparselaw07_modulus_ok e6 a) ?_)
   rintro _ w ⟨rfl, a⟩
   refine ⟨_, rfl, ?_⟩
   refine yG (nF n) (ynot e0) (yY (pf_ (.bool (!e5)) e0 (nF n) e0) ?_)
   cases A
   exact a4 _ _ ⟨rfl, rfl, rfl, rfl, rfl, a⟩
  ·refine gN (nT (bfalse n)) (gN (nT (bfalse n)) (gN (nT (bfalse n)) (yY (pt_ (.bool true) e0 (nT (bfalse n)) rfl) ?_)))
   cases A
   exact a4 _ _ ⟨rfl, rfl, rfl, rfl, rfl, a⟩
 rintro f w ⟨O, V, B, a5, e7, a⟩
 refine wK e1 (cB (eh e7) b (fun e8 b => ?_) fun e8 b => ?_)
 ·refine sR fun _ e9 => bE b fun f0 f1 b => yC (yCall FN_11 a0) (sparselaw07_awake_ok f1 a) ?_
  rintro _ w ⟨rfl, a⟩
  refine ⟨_, rfl, ?_⟩
  refine Ya (.bool f0) e0 (wK e9 (wp_ret (d9 _ _ _ rfl ?_)))
  cases b
  exact z _ _ _ (fin1r Tryz.results6 ⟨rfl, rfl⟩ ⟨rfl, (a.k10)⟩)
 ·refine wp_skip (d8 _ _ (sR fun _ f2 => yY (lbs_ [.bool x, y.v] ST_27 (eh a5) a R0) (Ym (iV h) (eh B) (bE b fun g f3 b => yC (yCall FN_19 (a2 e0 e0)) (modular_Reduce_ok f3 U a) ?_))))
  rintro _ w ⟨rfl, a⟩
  refine ⟨_, rfl, ?_⟩
  refine Ym (.tuple #[iV g.1, iV g.2]) e0 (yY (x_ (iV g.1) e0) (yY (x_ (iV g.2) e0) (Ya (iV g.1) e0 (Ya (iV g.2) e0 (wK f2 (sR fun _ f4 => Ym (iV j) (eh O) (Ym (iV h) (eh B) (bE b fun d f5 b => yC (yCall FN_28 (a2 e0 e0)) (modular_Inverse_ok f5 a) ?_))))))))
  rintro _ w ⟨rfl, a⟩
  refine ⟨_, rfl, ?_⟩
  refine Ym (.tuple #[iV d.1, iV d.2]) e0 (yY (x_ (iV d.1) e0) (yY (x_ (iV d.2) e0) (Ya (iV d.1) e0 (Ya (iV d.2) e0 (wK f4 (sR fun _ f6 => Ym (iV j) (eh O) (Ym (iV m) (eh V) (Ym (iV h) (eh B) (bE b fun c f7 b => yC (yCall FN_29 (a3 e0 e0 e0)) (modular_Power_ok f7 a) ?_)))))))))
  rintro _ w ⟨rfl, a⟩
  refine ⟨_, rfl, ?_⟩
  refine Ym (.tuple #[iV c.1, iV c.2]) e0 (yY (x_ (iV c.1) e0) (yY (x_ (iV c.2) e0) (Ya (iV c.1) e0 (Ya (iV c.2) e0 (wK f6 (seqQ fun o7 f8 f9 => sR fun _ g0 => Ym (iV h) (eh B) (bE b fun o8 g1 b => yC (yCall FN_14 (a1 e0)) (sparseref07_IsPrime_ok g1 a) ?_)))))))
  rintro _ w ⟨rfl, a⟩
  refine ⟨_, rfl, ?_⟩
  refine yY (ynot e0) (wK g0 ?_)
  rcases iteS b with ⟨W, b⟩ | ⟨W, b⟩
  ·refine condF e0 (nF W) (wp_skip (f8 _ _ (seqQ fun o9 g2 g3 => sR fun _ g4 => Ym (iV g.2) e0 (yY (yneq e0 rfl) (Ym (.bool (!(decide (g.2 = 0)))) e0 (bE b fun g5 C b => ?_))))))
   refine joinW 6 (fun f w => f 1 = iV j ∧ f 2 = iV m ∧ f 3 = iV h ∧ f 11 = iV d.1 ∧ f 12 = iV d.2 ∧ f 13 = iV c.1 ∧ f 14 = iV c.2 ∧ f 79 = .bool g5 ∧ St w0 ros rs w) (fun a6 => ?_) ?_
   ·rcases iteS C with ⟨k, C⟩ | ⟨k, C⟩
    ·refine yG (nF (dT k)) (m_ (iV g.1) e0) (yG (nF (dT k)) (lbs_ [.bool x, y.v] ST_27 (eh a5) a R0) (yG (nF (dT k)) (m_ (iV h) (eh B)) (bE C fun g6 g7 C => Yc (wG (nF (dT k))) rfl (yCall FN_30 (a2 e0 e0)) (sparseref07_Reduce_ok g7 U a) ?_)))
     rintro _ w ⟨rfl, a⟩
     refine ⟨_, rfl, ?_⟩
     refine yG (nF (dT k)) (yneq e0 e0) (yY (pf_ (.bool (!(decide (g.1 = g6)))) e0 (nF (dT k)) e0) ?_)
     cases C
     exact a6 _ _ ⟨O, V, B, rfl, rfl, rfl, rfl, rfl, (a.k10)⟩
    ·refine gN (nT (dF k)) (gN (nT (dF k)) (gN (nT (dF k)) (gN (nT (dF k)) (gN (nT (dF k)) (yY (pt_ (.bool true) e0 (nT (dF k)) rfl) ?_)))))
     cases C
     exact a6 _ _ ⟨O, V, B, rfl, rfl, rfl, rfl, rfl, (a.k10)⟩
   rintro f w ⟨I, R, J, a7, a8, S, T, g8, a⟩
   refine wK g4 (cB (eh g8) b (fun g9 b => ?_) fun g9 b => ?_)
   ·refine sR fun _ h0 => Ya (.bool false) rfl (wK h0 (wp_ret (g3 _ _ _ rfl ?_)))
    cases b
    exact z _ _ _ (fin1r Tryz.results6 ⟨rfl, rfl⟩ ⟨rfl, a⟩)
   ·refine wp_skip (g2 _ _ (seqQ fun h1 h2 a9 => sR fun _ h4 => Ym (iV j) (eh I) (Ym (iV h) (eh J) (bE b fun p0 h5 b => yC (yCall FN_31 (a2 e0 e0)) (sparseref07_Mod_ok h5 a) ?_))))
    rintro _ w ⟨rfl, a⟩
    refine ⟨_, rfl, ?_⟩
    refine yY (yeql e0 rfl) (wK h4 ?_)
    have b0 : ∀ (f : FV) w, f 1 = iV j → f 2 = iV m → f 3 = iV h → f 13 = iV c.1 → f 14 = iV c.2 → St w0 ros rs w → sparselaw07_ModularNumbers_j5 m c j h = some out → h1 .normal (fr 123 f) w := by
     intro f w h6 b1 h7 b2 b3 a b
     refine h2 _ _ (seqQ fun p1 h8 h9 => sR fun _ i0 => Ym (iV m) (eh b1) (yY (ylss e0 rfl) (wK i0 ?_)))
     refine cIf e0 b (fun i1 b => ?_) fun i1 b => ?_
     ·refine sR fun _ i2 => Ym (iV c.2) (eh b3) (yY (yeql e0 rfl) (Ym (.bool (decide (c.2 = 11))) e0 ?_))
      refine joinW 3 (fun f w => f 106 = .bool ((decide (c.2 = 11)) && (decide (c.1 = 0))) ∧ St w0 ros rs w) (fun b4 => ?_) ?_
      ·rcases Bool.eq_false_or_eq_true (decide (c.2 = 11)) with o | o
       ·exact yG o (m_ (iV c.1) (eh b2)) (yG o (yeql e0 rfl) (yY (pt_ (.bool (decide (c.1 = 0))) e0 o e0) (b4 _ _ ⟨(congrArg Value.bool (andT o)), a⟩)))
       ·exact gN o (gN o (yY (pf_ (.bool false) e0 o rfl) (b4 _ _ ⟨(congrArg Value.bool (andF o)), a⟩)))
      rintro f w ⟨i3, a⟩
      refine Ym (.bool ((decide (c.2 = 11)) && (decide (c.1 = 0)))) (eh i3) (bE b fun b5 D b => ?_)
      refine joinW 2 (fun f w => f 109 = .bool b5 ∧ St w0 ros rs w) (fun b6 => ?_) ?_
      ·rcases iteS D with ⟨K, D⟩ | ⟨K, D⟩
       ·refine bE D fun i4 i5 D => Yc (wG K) rfl (yCall FN_11 a0) (sparselaw07_awake_ok i5 a) ?_
        rintro _ w ⟨rfl, a⟩
        refine ⟨_, rfl, ?_⟩
        refine yY (pt_ (.bool i4) e0 K e0) ?_
        cases D
        exact b6 _ _ ⟨rfl, a⟩
       ·refine gN (bfalse K) (yY (pf_ (.bool false) e0 (bfalse K) rfl) ?_)
        cases D
        exact b6 _ _ ⟨rfl, a⟩
      rintro f w ⟨i6, a⟩
      refine Ya (.bool b5) (eh i6) (wK i2 (wp_ret (h9 _ _ _ rfl ?_)))
      cases b
      exact z _ _ _ (fin1r Tryz.results6 ⟨rfl, rfl⟩ ⟨rfl, a⟩)
     ·refine wp_skip (h8 _ _ (sR fun _ i7 => Ym (iV c.2) (eh b3) (yY (yeql e0 rfl) (Ym (.bool (decide (c.2 = 0))) e0 (bE b fun b8 E b => ?_)))))
      refine joinW 7 (fun f w => f 119 = .bool b8 ∧ St w0 ros rs w) (fun b9 => ?_) ?_
      ·rcases iteS E with ⟨i, E⟩ | ⟨i, E⟩
       ·refine yG (dT i) (m_ (iV c.1) (eh b2)) (yG (dT i) (m_ (iV j) (eh h6)) (yG (dT i) (m_ (iV m) (eh b1)) (yG (dT i) (m_ (iV h) (eh h7)) (bE E fun i8 i9 E => Yc (wG (dT i)) rfl (yCall FN_33 (a3 e0 e0 e0)) (sparseref07_Power_ok i9 a) ?_))))
        rintro _ w ⟨rfl, a⟩
        refine ⟨_, rfl, ?_⟩
        refine yG (dT i) (yeql e0 e0) (yY (pt_ (.bool (decide (c.1 = i8))) e0 (dT i) e0) ?_)
        cases E
        exact b9 _ _ ⟨rfl, a⟩
       ·refine gN (dF i) (gN (dF i) (gN (dF i) (gN (dF i) (gN (dF i) (gN (dF i) (yY (pf_ (.bool false) e0 (dF i) rfl) ?_))))))
        cases E
        exact b9 _ _ ⟨rfl, a⟩
      rintro f w ⟨j0, a⟩
      refine Ym (.bool b8) (eh j0) (bE b fun c0 F b => ?_)
      refine joinW 2 (fun f w => f 122 = .bool c0 ∧ St w0 ros rs w) (fun c1 => ?_) ?_
      ·rcases iteS F with ⟨L, F⟩ | ⟨L, F⟩
       ·refine bE F fun j3 j4 F => Yc (wG L) rfl (yCall FN_11 a0) (sparselaw07_awake_ok j4 a) ?_
        rintro _ w ⟨rfl, a⟩
        refine ⟨_, rfl, ?_⟩
        refine yY (pt_ (.bool j3) e0 L e0) ?_
        cases F
        exact c1 _ _ ⟨rfl, a⟩
       ·refine gN (bfalse L) (yY (pf_ (.bool false) e0 (bfalse L) rfl) ?_)
        cases F
        exact c1 _ _ ⟨rfl, a⟩
      rintro f w ⟨k0, a⟩
      refine Ya (.bool c0) (eh k0) (wK i7 (wp_ret ?_))
      cases b
      exact z _ _ _ (fin1r Tryz.results6 ⟨rfl, rfl⟩ ⟨rfl, a⟩)
    refine cIf e0 b (fun l0 b => ?_) fun l0 b => ?_
    ·refine sR fun _ l1 => Ym (iV d.2) (eh a8) (yY (yneq e0 rfl) (Ym (.bool (!(decide (d.2 = 8)))) e0 ?_))
     refine joinW 3 (fun f w => f 1 = iV j ∧ f 2 = iV m ∧ f 3 = iV h ∧ f 13 = iV c.1 ∧ f 14 = iV c.2 ∧ f 89 = .bool ((!(decide (d.2 = 8))) || (!(decide (d.1 = 0)))) ∧ St w0 ros rs w) (fun c2 => ?_) ?_
     ·rcases Bool.eq_false_or_eq_true (!(decide (d.2 = 8))) with p | p
      ·exact gN p (gN p (yY (pt_ (.bool true) e0 p rfl) (c2 _ _ ⟨I, R, J, S, T, (congrArg Value.bool (orT p)), a⟩)))
      ·exact yG p (m_ (iV d.1) (eh a7)) (yG p (yneq e0 rfl) (yY (pf_ (.bool (!(decide (d.1 = 0)))) e0 p e0) (c2 _ _ ⟨I, R, J, S, T, (congrArg Value.bool (orF p)), a⟩)))
     rintro f w ⟨l2, l3, l4, l5, l6, l7, a⟩
     refine wK l1 (cB (eh l7) b (fun l8 b => ?_) fun l8 b => ?_)
     ·refine sR fun _ l9 => Ya (.bool false) rfl (wK l9 (wp_ret (a9 _ _ _ rfl ?_)))
      cases b
      exact z _ _ _ (fin1r Tryz.results6 ⟨rfl, rfl⟩ ⟨rfl, a⟩)
     ·exact wp_skip (b0 _ _ l2 l3 l4 l5 l6 a b)
    ·refine sR fun _ m0 => Ym (iV d.2) (eh a8) (yY (yneq e0 rfl) (Ym (.bool (!(decide (d.2 = 0)))) e0 (bE b fun m1 G b => ?_)))
     refine joinW 6 (fun f w => f 1 = iV j ∧ f 2 = iV m ∧ f 3 = iV h ∧ f 13 = iV c.1 ∧ f 14 = iV c.2 ∧ f 98 = .bool m1 ∧ St w0 ros rs w) (fun c3 => ?_) ?_
     ·rcases iteS G with ⟨l, G⟩ | ⟨l, G⟩
      ·refine yG (nF (dT l)) (m_ (iV d.1) (eh a7)) (yG (nF (dT l)) (m_ (iV j) (eh I)) (yG (nF (dT l)) (m_ (iV h) (eh J)) (bE G fun m2 m3 G => Yc (wG (nF (dT l))) rfl (yCall FN_32 (a2 e0 e0)) (sparseref07_Inverse_ok m3 a) ?_)))
       rintro _ w ⟨rfl, a⟩
       refine ⟨_, rfl, ?_⟩
       refine yG (nF (dT l)) (yneq e0 e0) (yY (pf_ (.bool (!(decide (d.1 = m2)))) e0 (nF (dT l)) e0) ?_)
       cases G
       exact c3 _ _ ⟨I, R, J, S, T, rfl, a⟩
      ·refine gN (nT (dF l)) (gN (nT (dF l)) (gN (nT (dF l)) (gN (nT (dF l)) (gN (nT (dF l)) (yY (pt_ (.bool true) e0 (nT (dF l)) rfl) ?_)))))
       cases G
       exact c3 _ _ ⟨I, R, J, S, T, rfl, a⟩
     rintro f w ⟨m4, m5, m6, m7, m8, m9, a⟩
     refine wK m0 (cB (eh m9) b (fun n0 b => ?_) fun n0 b => ?_)
     ·refine sR fun _ n1 => Ya (.bool false) rfl (wK n1 (wp_ret (a9 _ _ _ rfl ?_)))
      cases b
      exact z _ _ _ (fin1r Tryz.results6 ⟨rfl, rfl⟩ ⟨rfl, a⟩)
     ·exact wp_skip (b0 _ _ m4 m5 m6 m7 m8 a b)
  ·refine condT e0 (nT (bfalse W)) (sR fun _ n2 => Ym (iV g.2) e0 (yY (yeql e0 rfl) (Ym (.bool (decide (g.2 = 70))) e0 ?_)))
   refine joinW 3 (fun f w => f 9 = iV g.1 ∧ f 11 = iV d.1 ∧ f 13 = iV c.1 ∧ f 14 = iV c.2 ∧ f 51 = .bool ((decide (g.2 = 70)) && (decide (d.2 = 70))) ∧ St w0 ros rs w) (fun c4 => ?_) ?_
   ·rcases Bool.eq_false_or_eq_true (decide (g.2 = 70)) with q | q
    ·exact yG q (m_ (iV d.2) e0) (yG q (yeql e0 rfl) (yY (pt_ (.bool (decide (d.2 = 70))) e0 q e0) (c4 _ _ ⟨rfl, rfl, rfl, rfl, (congrArg Value.bool (andT q)), (a.k10)⟩)))
    ·exact gN q (gN q (yY (pf_ (.bool false) e0 q rfl) (c4 _ _ ⟨rfl, rfl, rfl, rfl, (congrArg Value.bool (andF q)), (a.k10)⟩)))
   rintro f w ⟨c5, c6, c7, n3, n4, a⟩
   refine Ym (.bool ((decide (g.2 = 70)) && (decide (d.2 = 70)))) (eh n4) ?_
   refine joinW 3 (fun f w => f 9 = iV g.1 ∧ f 11 = iV d.1 ∧ f 13 = iV c.1 ∧ f 55 = .bool (((decide (g.2 = 70)) && (decide (d.2 = 70))) && (decide (c.2 = 70))) ∧ St w0 ros rs w) (fun c8 => ?_) ?_
   ·rcases Bool.eq_false_or_eq_true ((decide (g.2 = 70)) && (decide (d.2 = 70))) with r | r
    ·exact yG r (m_ (iV c.2) (eh n3)) (yG r (yeql e0 rfl) (yY (pt_ (.bool (decide (c.2 = 70))) e0 r e0) (c8 _ _ ⟨c5, c6, c7, (congrArg Value.bool (andT r)), a⟩)))
    ·exact gN r (gN r (yY (pf_ (.bool false) e0 r rfl) (c8 _ _ ⟨c5, c6, c7, (congrArg Value.bool (andF r)), a⟩)))
   rintro f w ⟨n5, c9, d0, n6, a⟩
   refine Ym (.bool (((decide (g.2 = 70)) && (decide (d.2 = 70))) && (decide (c.2 = 70)))) (eh n6) ?_
   refine joinW 3 (fun f w => f 11 = iV d.1 ∧ f 13 = iV c.1 ∧ f 59 = .bool ((((decide (g.2 = 70)) && (decide (d.2 = 70))) && (decide (c.2 = 70))) && (decide (g.1 = 0))) ∧ St w0 ros rs w) (fun d1 => ?_) ?_
   ·rcases Bool.eq_false_or_eq_true (((decide (g.2 = 70)) && (decide (d.2 = 70))) && (decide (c.2 = 70))) with s | s
    ·exact yG s (m_ (iV g.1) (eh n5)) (yG s (yeql e0 rfl) (yY (pt_ (.bool (decide (g.1 = 0))) e0 s e0) (d1 _ _ ⟨c9, d0, (congrArg Value.bool (andT s)), a⟩)))
    ·exact gN s (gN s (yY (pf_ (.bool false) e0 s rfl) (d1 _ _ ⟨c9, d0, (congrArg Value.bool (andF s)), a⟩)))
   rintro f w ⟨n7, d2, n8, a⟩
   refine Ym (.bool ((((decide (g.2 = 70)) && (decide (d.2 = 70))) && (decide (c.2 = 70))) && (decide (g.1 = 0)))) (eh n8) ?_
   refine joinW 3 (fun f w => f 13 = iV c.1 ∧ f 63 = .bool (((((decide (g.2 = 70)) && (decide (d.2 = 70))) && (decide (c.2 = 70))) && (decide (g.1 = 0))) && (decide (d.1 = 0))) ∧ St w0 ros rs w) (fun d3 => ?_) ?_
   ·rcases Bool.eq_false_or_eq_true ((((decide (g.2 = 70)) && (decide (d.2 = 70))) && (decide (c.2 = 70))) && (decide (g.1 = 0))) with t | t
    ·exact yG t (m_ (iV d.1) (eh n7)) (yG t (yeql e0 rfl) (yY (pt_ (.bool (decide (d.1 = 0))) e0 t e0) (d3 _ _ ⟨d2, (congrArg Value.bool (andT t)), a⟩)))
    ·exact gN t (gN t (yY (pf_ (.bool false) e0 t rfl) (d3 _ _ ⟨d2, (congrArg Value.bool (andF t)), a⟩)))
   rintro f w ⟨n9, o0, a⟩
   refine Ym (.bool (((((decide (g.2 = 70)) && (decide (d.2 = 70))) && (decide (c.2 = 70))) && (decide (g.1 = 0))) && (decide (d.1 = 0)))) (eh o0) ?_
   refine joinW 3 (fun f w => f 67 = .bool ((((((decide (g.2 = 70)) && (decide (d.2 = 70))) && (decide (c.2 = 70))) && (decide (g.1 = 0))) && (decide (d.1 = 0))) && (decide (c.1 = 0))) ∧ St w0 ros rs w) (fun d4 => ?_) ?_
   ·rcases Bool.eq_false_or_eq_true (((((decide (g.2 = 70)) && (decide (d.2 = 70))) && (decide (c.2 = 70))) && (decide (g.1 = 0))) && (decide (d.1 = 0))) with u | u
    ·exact yG u (m_ (iV c.1) (eh n9)) (yG u (yeql e0 rfl) (yY (pt_ (.bool (decide (c.1 = 0))) e0 u e0) (d4 _ _ ⟨(congrArg Value.bool (andT u)), a⟩)))
    ·exact gN u (gN u (yY (pf_ (.bool false) e0 u rfl) (d4 _ _ ⟨(congrArg Value.bool (andF u)), a⟩)))
   rintro f w ⟨o1, a⟩
   refine Ym (.bool ((((((decide (g.2 = 70)) && (decide (d.2 = 70))) && (decide (c.2 = 70))) && (decide (g.1 = 0))) && (decide (d.1 = 0))) && (decide (c.1 = 0)))) (eh o1) (bE b fun d5 H b => ?_)
   refine joinW 2 (fun f w => f 70 = .bool d5 ∧ St w0 ros rs w) (fun d6 => ?_) ?_
   ·rcases iteS H with ⟨N, H⟩ | ⟨N, H⟩
    ·refine bE H fun o2 o3 H => Yc (wG N) rfl (yCall FN_11 a0) (sparselaw07_awake_ok o3 a) ?_
     rintro _ w ⟨rfl, a⟩
     refine ⟨_, rfl, ?_⟩
     refine yY (pt_ (.bool o2) e0 N e0) ?_
     cases H
     exact d6 _ _ ⟨rfl, a⟩
    ·refine gN (bfalse N) (yY (pf_ (.bool false) e0 (bfalse N) rfl) ?_)
     cases H
     exact d6 _ _ ⟨rfl, a⟩
   rintro f w ⟨o4, a⟩
   refine Ya (.bool d5) (eh o4) (wK n2 (wp_ret (f9 _ _ _ rfl ?_)))
   cases b
   exact z _ _ _ (fin1r Tryz.results6 ⟨rfl, rfl⟩ ⟨rfl, a⟩)
end Go.Proofs.YtnfamnfdndaekaaGreatDoor
