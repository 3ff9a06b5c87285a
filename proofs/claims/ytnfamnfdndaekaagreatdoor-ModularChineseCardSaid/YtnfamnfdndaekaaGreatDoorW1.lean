/- Walks: each function computes its model, printed. -/
import Derived.Test.YtnfamnfdndaekaaGreatDoorW0
namespace Go.Proofs.YtnfamnfdndaekaaGreatDoor
open Go Sx M
set_option maxRecDepth 100000
set_option maxHeartbeats 40000000
set_option linter.unusedVariables false
attribute [local irreducible] wpList Code.wp Calls DR QR QS LA LS St
variable {w0 : World} {ros : List Fact} {rs : List Res} {w : World}
theorem integer_up_ok {o : LI} {d : Int} {j : Hdr} {out : LI} (g : integer_up o d = some out) (k : imm (rI .u32) j.v o ∈ ros) (b : St w0 ros rs w) :
  Calls Tryz.prog 139 #[j.v, iV d] w (fun e w => ∃ (t : Hdr), e = .returned (t.v) ∧ St w0 (imm (rI .u32) t.v out :: ros) rs w) := by
 refine enterQ Tryz.func139 rfl Tryz.ntmps139 rfl fun Q u => sR fun _ F => Ya hnil.v rfl (wK F (seqQ fun b8 G H => sR fun _ I => Ym j.v e0 (yY (yLen SL_25 e0 b (rdI k)) (yY (yeql e0 rfl) (wK I ?_)))))
 refine cIf e0 g (fun J g => ?_) fun J g => ?_
 ·refine sR fun _ K => Ya hnil.v rfl (wK K (wp_ret (H _ _ _ rfl ?_)))
  cases g
  replace b := b.immNh (rI .u32)
  exact u _ _ _ (fin1r Tryz.results139 ⟨rfl, rfl⟩ ⟨_, rfl, b⟩)
 ·refine wp_skip (G _ _ (sR fun _ L => Ym (iV d) e0 (yY (yquoc e0 rfl (by decide)) (Ym (iV d) e0 (yY (yremc e0 rfl (by decide)) (yY (ycv (k' := .u64) (by kernel_rfl) (by kernel_rfl) e0) (Ya (iV (wqc .i64 d 32)) e0 (Ya (.int .u64 (wc .u64 (wrc d 32))) e0 (wK L (sQ fun _ N => ?_))))))))))
  refine wR (Ym (iV (wqc .i64 d 32)) e0 (Ym j.v e0 (yY (yLen SL_25 e0 b (rdI k)) (yY (yadd e0 e0) (yY (yadd e0 rfl) (bE g fun b9 O g => yH (rMk b SL_25 e0 O) fun h w b => Ya h.v e0 (wK N (sQ fun _ R => sQ fun _ S => ?_))))))))
  refine wR (Ym j.v e0 (yY (yLen SL_25 e0 b (rdI k)) (Ym (iV 0) rfl (wK S (blockQ fun T U => bE g fun V W g => ?_)))))
  have X : ∀ (p : LI) (f : FV) w, f 7 = h.v → St w0 ros (row 88 (rI .u32) h.v p :: rs) w → p = V → T (.exit 0) (fr 59 f) w := by
   intro p f w Z b ho
   subst ho
   refine U _ _ _ (R _ _ (sR fun _ a0 => Ym h.v (eh Z) (bE g fun c0 a2 g => ?_)))
   replace b := b.fz
   refine yC (yCall FN_77 (a1 e0)) (integer_trim_ok a2 F0 b) ?_
   rintro _ w ⟨a3, rfl, b⟩
   refine ⟨_, rfl, ?_⟩
   refine Ya a3.v e0 (wK a0 (wp_ret ?_))
   cases g
   exact u _ _ _ (fin1r Tryz.results139 ⟨rfl, rfl⟩ ⟨_, rfl, (b.facts (allC F0 (allT (allT allI))))⟩)
  refine loopQ (fun s a w => ∃ (q : LI) (i : Int) (f : FV), (q, i) = s ∧ a = fr 59 f ∧ f 5 = iV (wqc .i64 d 32) ∧ f 6 = .int .u64 (wc .u64 (wrc d 32)) ∧ f 7 = h.v ∧ f 25 = j.v ∧ f 26 = iV (o.length : Int) ∧ f 27 = iV i ∧ St w0 ros (row 88 (rI .u32) h.v q :: rs) w) W ⟨_, _, _, rfl, rfl, rfl, rfl, rfl, rfl, rfl, rfl, b⟩ ?_
  rintro _ _ w c1 ⟨q, i, f, rfl, rfl, r, x, m, y, z, n, b⟩ c a4 c2 a5 a6
  refine sR fun _ a7 => yY (ylss (eh n) (eh z)) (wK a7 (seqQ fun c3 a8 a9 => ?_))
  refine cIf e0 c (fun b0 c => ?_) fun b0 c => ?_
  ·refine wp_skip (a8 _ _ (sQ fun _ b1 => blockQ fun _ b2 => sR fun _ b3 => Ym (iV i) (eh n) (bE c fun A B c => yY (yIa SL_25 (eh y) (eh n) b (rdI k) B) (yY (yI O_88 e0 b (rdI k) B) (Ya (iV i) e0 (Ya (.int .u32 A) e0 (wK b3 ?_)))))))
   refine sR fun _ b4 => Ym (.int .u32 A) e0 (yY (ycv (k' := .u64) (by kernel_rfl) (by kernel_rfl) e0) (Ym (.int .u64 (wc .u64 (wrc d 32))) (eh x) (bE c fun l b5 c => yY (yshl e0 e0 b5) (Ya (.int .u64 l) e0 (wK b4 (sR fun _ b6 => Ym h.v (eh m) (Ym (iV (wqc .i64 d 32)) (eh r) ?_)))))))
   refine Ym (iV i) e0 (yY (yadd e0 e0) (bE c fun b7 C c => yY (yIa SL_25 e0 e0 b rO0 C) (yY (yI O_88 e0 b rO0 C) (Ym (.int .u64 l) e0 (yY (yand e0 rfl) (yY (ycv (k' := .u32) (by kernel_rfl) (by kernel_rfl) e0) (yY (yor e0 e0) (bE c fun c5 D c => yY (yIs SL_25 e0 e0 b rO0 D) (yT (r_sti (cs := [.int .u32 (wor .u32 b7 (wc .u32 (wand .u64 l 4294967295)))]) b O_88 rfl e0 e0 rfl mkI D) fun w b => wN ?_)))))))))
   refine b6 _ _ (wR (Ym h.v (eh m) (Ym (iV (wqc .i64 d 32)) (eh r) (Ym (iV i) e0 (yY (yadd e0 e0) (yY (yadd e0 rfl) (Ym (.int .u64 l) e0 (yY (yshrc e0 rfl) (yY (ycv (k' := .u32) (by kernel_rfl) (by kernel_rfl) e0) (bE c fun c6 E c => yY (yIs SL_25 e0 e0 b rO0 E) (yT (r_sti (cs := [.int .u32 (wc .u32 (wsrc .u64 l 32))]) b O_88 rfl e0 e0 rfl mkI E) fun w b => ?_)))))))))))
   refine wN (b2 _ _ _ (b1 _ _ (wR (yY (yadd (eh n) rfl) (Ym (iV (wa .i64 i 1)) e0 (wN ?_))))))
   cases c
   exact a5 _ _ _ rfl ⟨_, _, _, rfl, rfl, r, x, m, y, z, rfl, b⟩
  ·refine wp_exit (a9 _ _ _ rfl ?_)
   cases c
   exact a6 _ _ _ _ rfl rfl (X _ _ _ m b (a4 _ rfl))
theorem integer_digit_ok {G : LI} {j k : Int} {h : LI} {g l : Hdr} {out : LI × Int} (d : integer_digit G j k h = some out) (m : imm (rI .u32) l.v h ∈ ros) (b : St w0 ros (row 88 (rI .u32) g.v G :: rs) w) :
  Calls Tryz.prog 140 #[(subH g 1 j k).v, l.v] w (fun e w => e = .returned (.int .u32 out.2) ∧ St w0 ros (row 88 (rI .u32) g.v out.1 :: rs) w) := by
 refine enterQ Tryz.func140 rfl Tryz.ntmps140 rfl fun Q b2 => sR fun _ f1 => Ya (.int .u32 0) rfl (wK f1 (sR fun _ f2 => Ym l.v e0 (yY (yLen SL_25 e0 b (rdI m)) (Ya (iV (h.length : Int)) e0 (wK f2 (sQ fun _ f3 => ?_))))))
 refine bE d fun L b3 d => bE d fun N b4 d => dR [0, 0, 3, 7, 15, 31, 0, 0, 128, 448, 960, 1984, 4095, 8191] [13] 1 folM ?_
 replace b := b.drew
 refine Dn [0, 1, 2, 3, 4, 5, 6, 7, 8, 9, 10, 11, 12] [] [13] (yR rfl (m_ ((subH g 1 j k).v) e0) (yR rfl (m_ (iV (h.length : Int)) e0) (yR rfl (yIaW SL_25 e0 e0 b rO0 b3) (yR rfl (yI O_88 e0 b rO0 (getW_g b3)) (yR rfl (ycv (k' := .u64) (by kernel_rfl) (by kernel_rfl) e0) (yR rfl (yshlc e0 rfl) (yR rfl (m_ ((subH g 1 j k).v) e0) (yR rfl (m_ (iV (h.length : Int)) e0) (yR rfl (ysub e0 rfl) (yR rfl (yIaW SL_25 e0 e0 b rO0 b4) (yR rfl (yI O_88 e0 b rO0 (getW_g b4)) (yR rfl (ycv (k' := .u64) (by kernel_rfl) (by kernel_rfl) e0) (yR rfl (yor e0 e0) ?_)))))))))))))
 refine Rn QSn ?_
 refine Lc1 rfl ?_
 refine Ly wn (a_ (.int .u64 (wor .u64 (wslc .u64 (wc .u64 L) 32) (wc .u64 N))) e0) (Dz [] [] (Rn QSn (f3 _ _ (sQ fun _ f4 => bE d fun o5 b5 d => bE d fun f5 f6 d => bE d fun o6 O d => bE d fun f7 b6 d => dR [0, 0, 0, 4, 14, 30, 62, 127, 0, 0, 0, 1024, 3584, 7680, 15872, 32512, 255, 131071] [16, 17] 2 folM ?_))))
 replace b := b.drew
 refine Dn [0, 1, 2, 3, 4, 5, 6, 7, 8, 9, 10, 11, 12, 13, 14, 15] [] [16] (yR rfl (m_ (.int .u64 (wor .u64 (wslc .u64 (wc .u64 L) 32) (wc .u64 N))) e0) (yR rfl (m_ l.v e0) (yR rfl (m_ (iV (h.length : Int)) e0) (yR rfl (ysub e0 rfl) (yR rfl (yIa SL_25 e0 e0 b (rdI m) b5) (yR rfl (yI O_88 e0 b (rdI m) b5) (yR rfl (ycv (k' := .u64) (by kernel_rfl) (by kernel_rfl) e0) (yR rfl (yquo e0 e0 f6) (yR rfl (m_ (.int .u64 (wor .u64 (wslc .u64 (wc .u64 L) 32) (wc .u64 N))) e0) (yR rfl (m_ l.v e0) (yR rfl (m_ (iV (h.length : Int)) e0) (yR rfl (ysub e0 rfl) (yR rfl (yIa SL_25 e0 e0 b (rdI m) O) ?_)))))))))))))
 refine yR rfl (yI O_88 e0 b (rdI m) O) (yR rfl (ycv (k' := .u64) (by kernel_rfl) (by kernel_rfl) e0) (yR rfl (yrem e0 e0 b6) (Rn QSn ?_)))
 refine Lc1 rfl ?_
 refine Ly wn (a_ (.int .u64 f5) e0) (Dn [] [8, 9, 10, 11, 12, 13, 14, 15] [17] (Rn (yS rfl (m_ (.int .u64 (wor .u64 (wslc .u64 (wc .u64 L) 32) (wc .u64 N))) e0) (yS rfl (m_ l.v e0) (yS rfl (m_ (iV (h.length : Int)) e0) (yS rfl (ysub e0 rfl) (yS rfl (yIa SL_25 e0 e0 b (rdI m) O) (yS rfl (yI O_88 e0 b (rdI m) O) (yS rfl (ycv (k' := .u64) (by kernel_rfl) (by kernel_rfl) e0) (yS rfl (yrem e0 e0 b6) QSn)))))))) ?_))
 refine Lc1 rfl ?_
 refine Ly wn (a_ (.int .u64 f7) e0) (Dz [] [] (Rn QSn (f4 _ _ (sQ fun _ f8 => blockQ fun f9 g0 => bE d fun g1 g2 d => ?_))))
 have b7 : ∀ (i : Int) (f : FV) w, f 0 = (subH g 1 j k).v → f 1 = l.v → f 5 = iV (h.length : Int) → f 7 = .int .u64 i → St w0 ros (row 88 (rI .u32) g.v G :: rs) w → i = g1 → f9 (.exit 0) (fr 177 f) w := by
  intro i f w g3 b8 g4 g5 b ho
  subst ho
  refine g0 _ _ _ (f8 _ _ (sR fun _ g6 => Ya (.int .u64 0) rfl (Ya (.int .u64 0) rfl (wK g6 (sQ fun _ g7 => sR fun _ g8 => Ym l.v (eh b8) (yY (yLen SL_25 e0 b (rdI m)) (Ym (iV 0) rfl ?_)))))))
  refine wK g8 (blockQ fun g9 h0 => bE d fun h1 h2 d => ?_)
  have h3 : ∀ (a0 : LI) (A B : Int) (f : FV) w, f 0 = (subH g 1 j k).v → f 1 = l.v → f 5 = iV (h.length : Int) → f 7 = .int .u64 i → f 9 = .int .u64 A → f 10 = .int .u64 B → St w0 ros (row 88 (rI .u32) g.v a0 :: rs) w → (a0, A, B) = h1 → g9 (.exit 2) (fr 177 f) w := by
   intro a0 A B f w a1 h5 a2 b9 h7 h8 b ho
   subst ho
   refine h0 _ _ _ (g7 _ _ (sR fun _ h9 => Ym ((subH g 1 j k).v) (eh a1) (Ym (iV (h.length : Int)) (eh a2) (bE d fun R c0 d => yY (yIaW SL_25 e0 e0 b rO0 c0) (yY (yI O_88 e0 b rO0 (getW_g c0)) (yY (ycv (k' := .u64) (by kernel_rfl) (by kernel_rfl) e0) (Ym (.int .u64 A) (eh h7) (yY (ysub e0 e0) (Ym (.int .u64 B) (eh h8) (yY (ysub e0 e0) ?_))))))))))
   refine Ya (.int .u64 (ws .u64 (ws .u64 (wc .u64 R) A) B)) e0 (wK h9 (sR fun _ i0 => Ym ((subH g 1 j k).v) (eh a1) (Ym (iV (h.length : Int)) (eh a2) (Ym (.int .u64 (ws .u64 (ws .u64 (wc .u64 R) A) B)) e0 (yY (yand e0 rfl) (yY (ycv (k' := .u32) (by kernel_rfl) (by kernel_rfl) e0) (bE d fun o7 c1 d => yY (yIsW SL_25 e0 e0 b rO0 c1) (yT (r_sti (cs := [.int .u32 (wc .u32 (wand .u64 (ws .u64 (ws .u64 (wc .u64 R) A) B) 4294967295))]) b O_88 rfl e0 e0 rfl mkI (setW_g c1)) fun w b => ?_))))))))
   refine wK i0 (seqQ fun o8 i1 i2 => sR fun _ i3 => Ym (.int .u64 (ws .u64 (ws .u64 (wc .u64 R) A) B)) e0 (yY (yshrc e0 rfl) (yY (yand e0 rfl) (yY (yeql e0 rfl) (wK i3 ?_)))))
   refine cIf e0 d (fun i4 d => ?_) fun i4 d => ?_
   ·refine sR fun _ i5 => Ym (.int .u64 i) (eh b9) (yY (ycv (k' := .u32) (by kernel_rfl) (by kernel_rfl) e0) (Ya (.int .u32 (wc .u32 i)) e0 (wK i5 (wp_ret (i2 _ _ _ rfl ?_)))))
    cases d
    exact b2 _ _ _ (fin1r Tryz.results140 ⟨rfl, rfl⟩ ⟨rfl, b⟩)
   ·refine wp_skip (i1 _ _ (sR fun _ i6 => Ya (.int .u64 0) rfl (wK i6 (sQ fun _ i7 => sR fun _ i8 => Ym l.v (eh h5) (yY (yLen SL_25 e0 b (rdI m)) (Ym (iV 0) rfl (wN ?_)))))))
    refine i8 _ _ (blockQ fun i9 j0 => bE d fun j1 j2 d => ?_)
    have j3 : ∀ (a3 : LI) (H : Int) (f : FV) w, f 0 = (subH g 1 j k).v → f 5 = iV (h.length : Int) → f 7 = .int .u64 i → f 9 = .int .u64 H → St w0 ros (row 88 (rI .u32) g.v a3 :: rs) w → (a3, H) = j1 → i9 (.exit 4) (fr 177 f) w := by
     intro a3 H f w j4 j5 j6 j7 b ho
     subst ho
     refine j0 _ _ _ (i7 _ _ (sR fun _ j8 => Ym ((subH g 1 j k).v) (eh j4) (Ym (iV (h.length : Int)) (eh j5) (bE d fun j9 c2 d => yY (yIaW SL_25 e0 e0 b rO0 c2) (yY (yI O_88 e0 b rO0 (getW_g c2)) (Ym (.int .u64 H) (eh j7) (yY (ycv (k' := .u32) (by kernel_rfl) (by kernel_rfl) e0) (yY (yadd e0 e0) (bE d fun o9 c3 d => yY (yIsW SL_25 e0 e0 b rO0 c3) ?_)))))))))
     refine yT (r_sti (cs := [.int .u32 (wa .u32 j9 (wc .u32 H))]) b O_88 rfl e0 e0 rfl mkI (setW_g c3)) fun w b => wK j8 (sR fun _ k0 => Ym (.int .u64 i) (eh j6) (yY (ysub e0 rfl) (yY (ycv (k' := .u32) (by kernel_rfl) (by kernel_rfl) e0) (Ya (.int .u32 (wc .u32 (ws .u64 i 1))) e0 (wK k0 (wp_ret ?_))))))
     cases d
     exact b2 _ _ _ (fin1r Tryz.results140 ⟨rfl, rfl⟩ ⟨rfl, b⟩)
    refine loopQ (fun s a w => ∃ (a4 : LI) (x C : Int) (f : FV), (a4, x, C) = s ∧ a = fr 177 f ∧ f 0 = (subH g 1 j k).v ∧ f 5 = iV (h.length : Int) ∧ f 7 = .int .u64 i ∧ f 9 = .int .u64 x ∧ f 140 = l.v ∧ f 141 = iV (h.length : Int) ∧ f 142 = iV C ∧ St w0 ros (row 88 (rI .u32) g.v a4 :: rs) w) j2 ⟨_, _, _, _, rfl, rfl, a1, a2, b9, rfl, rfl, rfl, rfl, b⟩ ?_
    rintro _ _ w p0 ⟨a4, x, C, f, rfl, rfl, S, c4, c5, c6, c7, c8, T, b⟩ q k6 p1 k7 k8
    refine sR fun _ k9 => yY (ylss (eh T) (eh c8)) (wK k9 (seqQ fun p2 l0 l1 => ?_))
    refine cIf e0 q (fun l2 q => ?_) fun l2 q => ?_
    ·refine wp_skip (l0 _ _ (sQ fun _ l3 => blockQ fun _ l4 => sR fun _ l5 => Ym (iV C) (eh T) (bE q fun F c9 q => yY (yIa SL_25 (eh c7) (eh T) b (rdI m) c9) (yY (yI O_88 e0 b (rdI m) c9) (Ya (iV C) e0 (Ya (.int .u32 F) e0 (wK l5 ?_)))))))
     refine sR fun _ l6 => Ym ((subH g 1 j k).v) (eh S) (Ym (iV C) e0 (bE q fun I d0 q => yY (yIaW SL_25 e0 e0 b rO0 d0) (yY (yI O_88 e0 b rO0 (getW_g d0)) (yY (ycv (k' := .u64) (by kernel_rfl) (by kernel_rfl) e0) (Ym (.int .u32 F) e0 (yY (ycv (k' := .u64) (by kernel_rfl) (by kernel_rfl) e0) (yY (yadd e0 e0) (Ym (.int .u64 x) (eh c6) (yY (yadd e0 e0) (Ya (.int .u64 (wa .u64 (wa .u64 (wc .u64 I) (wc .u64 F)) x)) e0 ?_))))))))))
     refine wK l6 (sR fun _ l7 => Ym ((subH g 1 j k).v) (eh S) (Ym (iV C) e0 (Ym (.int .u64 (wa .u64 (wa .u64 (wc .u64 I) (wc .u64 F)) x)) e0 (yY (yand e0 rfl) (yY (ycv (k' := .u32) (by kernel_rfl) (by kernel_rfl) e0) (bE q fun p3 d1 q => yY (yIsW SL_25 e0 e0 b rO0 d1) (yT (r_sti (cs := [.int .u32 (wc .u32 (wand .u64 (wa .u64 (wa .u64 (wc .u64 I) (wc .u64 F)) x) 4294967295))]) b O_88 rfl e0 e0 rfl mkI (setW_g d1)) fun w b => wN ?_)))))))
     refine l7 _ _ (wR (Ym (.int .u64 (wa .u64 (wa .u64 (wc .u64 I) (wc .u64 F)) x)) e0 (yY (yshrc e0 rfl) (Ya (.int .u64 (wsrc .u64 (wa .u64 (wa .u64 (wc .u64 I) (wc .u64 F)) x) 32)) e0 (wN (l4 _ _ _ (l3 _ _ (wR (yY (yadd (eh T) rfl) (Ym (iV (wa .i64 C 1)) e0 (wN ?_)))))))))))
     cases q
     exact k7 _ _ _ rfl ⟨_, _, _, _, rfl, rfl, S, c4, c5, rfl, c7, c8, rfl, b⟩
    ·refine wp_exit (l1 _ _ _ rfl ?_)
     cases q
     exact k8 _ _ _ _ rfl rfl (j3 _ _ _ _ S c4 c5 c6 b (k6 _ rfl))
  refine loopQ (fun s a w => ∃ (a5 : LI) (o y D : Int) (f : FV), (a5, o, y, D) = s ∧ a = fr 177 f ∧ f 0 = (subH g 1 j k).v ∧ f 1 = l.v ∧ f 5 = iV (h.length : Int) ∧ f 7 = .int .u64 i ∧ f 9 = .int .u64 o ∧ f 10 = .int .u64 y ∧ f 84 = l.v ∧ f 85 = iV (h.length : Int) ∧ f 86 = iV D ∧ St w0 ros (row 88 (rI .u32) g.v a5 :: rs) w) h2 ⟨_, _, _, _, _, rfl, rfl, g3, b8, g4, g5, rfl, rfl, rfl, rfl, rfl, b⟩ ?_
  rintro _ _ w p4 ⟨a5, o, y, D, f, rfl, rfl, U, d2, d3, a6, d4, d5, d6, d7, V, b⟩ r l8 p5 l9 m0
  refine sR fun _ m1 => yY (ylss (eh V) (eh d7)) (wK m1 (seqQ fun p6 m2 m3 => ?_))
  refine cIf e0 r (fun m4 r => ?_) fun m4 r => ?_
  ·refine wp_skip (m2 _ _ (sQ fun _ m5 => blockQ fun _ m6 => sR fun _ m7 => Ym (iV D) (eh V) (bE r fun t d8 r => yY (yIa SL_25 (eh d6) (eh V) b (rdI m) d8) (yY (yI O_88 e0 b (rdI m) d8) (Ya (iV D) e0 (Ya (.int .u32 t) e0 (wK m7 ?_)))))))
   refine sR fun _ m8 => Ym (.int .u64 i) (eh a6) (Ym (.int .u32 t) e0 (yY (ycv (k' := .u64) (by kernel_rfl) (by kernel_rfl) e0) (yY (ymul e0 e0) (Ym (.int .u64 o) (eh d4) (yY (yadd e0 e0) (Ya (.int .u64 (wa .u64 (wm .u64 i (wc .u64 t)) o)) e0 (wK m8 (sR fun _ m9 => Ym (.int .u64 (wa .u64 (wm .u64 i (wc .u64 t)) o)) e0 ?_))))))))
   refine yY (yshrc e0 rfl) (Ya (.int .u64 (wsrc .u64 (wa .u64 (wm .u64 i (wc .u64 t)) o) 32)) e0 (wK m9 (sR fun _ n0 => Ym ((subH g 1 j k).v) (eh U) (Ym (iV D) e0 (bE r fun J d9 r => yY (yIaW SL_25 e0 e0 b rO0 d9) (yY (yI O_88 e0 b rO0 (getW_g d9)) (yY (ycv (k' := .u64) (by kernel_rfl) (by kernel_rfl) e0) (Ym (.int .u64 (wa .u64 (wm .u64 i (wc .u64 t)) o)) e0 (yY (yand e0 rfl) ?_)))))))))
   refine yY (ysub e0 e0) (Ym (.int .u64 y) (eh d5) (yY (ysub e0 e0) (Ya (.int .u64 (ws .u64 (ws .u64 (wc .u64 J) (wand .u64 (wa .u64 (wm .u64 i (wc .u64 t)) o) 4294967295)) y)) e0 (wK n0 (sR fun _ n1 => Ym ((subH g 1 j k).v) (eh U) (Ym (iV D) e0 (Ym (.int .u64 (ws .u64 (ws .u64 (wc .u64 J) (wand .u64 (wa .u64 (wm .u64 i (wc .u64 t)) o) 4294967295)) y)) e0 (yY (yand e0 rfl) (yY (ycv (k' := .u32) (by kernel_rfl) (by kernel_rfl) e0) (bE r fun p7 e1 r => ?_))))))))))
   refine yY (yIsW SL_25 e0 e0 b rO0 e1) (yT (r_sti (cs := [.int .u32 (wc .u32 (wand .u64 (ws .u64 (ws .u64 (wc .u64 J) (wand .u64 (wa .u64 (wm .u64 i (wc .u64 t)) o) 4294967295)) y) 4294967295))]) b O_88 rfl e0 e0 rfl mkI (setW_g e1)) fun w b => wK n1 (wR (Ym (.int .u64 (ws .u64 (ws .u64 (wc .u64 J) (wand .u64 (wa .u64 (wm .u64 i (wc .u64 t)) o) 4294967295)) y)) e0 (yY (yshrc e0 rfl) (yY (yand e0 rfl) (Ya (.int .u64 (wand .u64 (wsrc .u64 (ws .u64 (ws .u64 (wc .u64 J) (wand .u64 (wa .u64 (wm .u64 i (wc .u64 t)) o) 4294967295)) y) 32) 1)) e0 (wN (m6 _ _ _ (m5 _ _ (wR ?_))))))))))
   refine yY (yadd (eh V) rfl) (Ym (iV (wa .i64 D 1)) e0 (wN ?_))
   cases r
   exact l9 _ _ _ rfl ⟨_, _, _, _, _, rfl, rfl, U, d2, d3, a6, rfl, rfl, d6, d7, rfl, b⟩
  ·refine wp_exit (m3 _ _ _ rfl ?_)
   cases r
   exact m0 _ _ _ _ rfl rfl (h3 _ _ _ _ _ U d2 d3 a6 d4 d5 b (l8 _ rfl))
 refine loopQ (fun s a w => ∃ (u E : Int) (f : FV), (u, E) = s ∧ a = fr 177 f ∧ f 0 = (subH g 1 j k).v ∧ f 1 = l.v ∧ f 5 = iV (h.length : Int) ∧ f 7 = .int .u64 u ∧ f 8 = .int .u64 E ∧ St w0 ros (row 88 (rI .u32) g.v G :: rs) w) g2 ⟨_, _, _, rfl, rfl, rfl, rfl, rfl, rfl, rfl, b⟩ ?_
 rintro _ _ w p8 ⟨u, E, f, rfl, rfl, a7, a8, W, K, a9, b⟩ p e2 p9 n2 e3
 refine seqQ fun q0 n3 n4 => sQ fun _ n5 => bE p fun b0 z p => ?_
 refine joinN (n := 177) (fun f w => f 0 = (subH g 1 j k).v ∧ f 1 = l.v ∧ f 5 = iV (h.length : Int) ∧ f 7 = .int .u64 u ∧ f 8 = .int .u64 E ∧ f 71 = .bool b0 ∧ St w0 ros (row 88 (rI .u32) g.v G :: rs) w) (fun e4 => ?_) ?_
 ·rcases iteS z with ⟨c, z⟩ | ⟨c, z⟩
  ·have n6 := someI z
   refine dR [0, 1, 3, 7, 7, 7, 39, 119, 247, 503, 1023, 7, 2055, 7, 7, 16391, 57351, 122887, 253959, 522247, 1048575, 2097151] [] 0 folM ?_
   replace b := b.drew
   refine Dz [0, 1, 2, 3, 4, 5, 6, 7, 8, 9, 10, 11, 12, 13, 14, 15, 16, 17, 18, 19, 20, 21] [] (yR rfl (m_ (.int .u64 u) (eh K)) (yR rfl (ygtr e0 rfl) (yR rfl (m_ (.bool (decide ((4294967295 : Int) < u))) e0) (Rx rfl rfl (wX (dT c)) (Rx rfl rfl (wX (dT c)) (Rx rfl rfl (wX (dT c)) (Rx rfl rfl (wX (dT c)) (Rx rfl rfl (wX (dT c)) (Rx rfl rfl (wX (dT c)) (Rx rfl rfl (wX (dT c)) (Rx rfl rfl (wX (dT c)) (Rx rfl rfl (wX (dT c)) (Rx rfl rfl (wX (dT c)) ?_)))))))))))))
   exact Rx rfl rfl (wX (dT c)) (Rx rfl rfl (wX (dT c)) (Rx rfl rfl (wX (dT c)) (Rx rfl rfl (wX (dT c)) (Rx rfl rfl (wX (dT c)) (Rx rfl rfl (wX (dT c)) (Rx rfl rfl (wX (dT c)) (Rx rfl rfl (wX (dT c)) (yR rfl (pt_ (.bool b0) e0 (dT c) (eqv n6 rfl)) (Rn QSn (e4 _ _ ⟨a7, a8, W, K, a9, rfl, b⟩))))))))))
  ·refine bE z fun q2 e5 z => bE z fun q3 e6 z => ?_
   have n7 := someI z
   refine dR [0, 1, 3, 7, 7, 7, 39, 119, 247, 503, 1023, 7, 2055, 7, 7, 16391, 57351, 122887, 253959, 522247, 1048575, 2097151] [] 0 folM ?_
   replace b := b.drew
   refine Dz [0, 1, 2, 3, 4, 5, 6, 7, 8, 9, 10, 11, 12, 13, 14, 15, 16, 17, 18, 19, 20, 21] [] (yR rfl (m_ (.int .u64 u) (eh K)) (yR rfl (ygtr e0 rfl) (yR rfl (m_ (.bool (decide ((4294967295 : Int) < u))) e0) (Ry rfl rfl (wG (dF c)) (m_ (.int .u64 u) (eh K)) (Ry rfl rfl (wG (dF c)) (m_ l.v (eh a8)) (Ry rfl rfl (wG (dF c)) (m_ (iV (h.length : Int)) (eh W)) (Ry rfl rfl (wG (dF c)) (ysub e0 rfl) (Ry rfl rfl (wG (dF c)) (yIa SL_25 e0 e0 b (rdI m) e5) (Ry rfl rfl (wG (dF c)) (yI O_88 e0 b (rdI m) e5) (Ry rfl rfl (wG (dF c)) (ycv (k' := .u64) (by kernel_rfl) (by kernel_rfl) e0) (Ry rfl rfl (wG (dF c)) (ymul e0 e0) (Ry rfl rfl (wG (dF c)) (m_ (.int .u64 E) (eh a9)) (Ry rfl rfl (wG (dF c)) (yshlc e0 rfl) ?_)))))))))))))
   exact Ry rfl rfl (wG (dF c)) (m_ ((subH g 1 j k).v) (eh a7)) (Ry rfl rfl (wG (dF c)) (m_ (iV (h.length : Int)) (eh W)) (Ry rfl rfl (wG (dF c)) (ysub e0 rfl) (Ry rfl rfl (wG (dF c)) (yIaW SL_25 e0 e0 b rO0 e6) (Ry rfl rfl (wG (dF c)) (yI O_88 e0 b rO0 (getW_g e6)) (Ry rfl rfl (wG (dF c)) (ycv (k' := .u64) (by kernel_rfl) (by kernel_rfl) e0) (Ry rfl rfl (wG (dF c)) (yor e0 e0) (Ry rfl rfl (wG (dF c)) (ygtr e0 e0) (yR rfl (pf_ (.bool b0) e0 (dF c) (eqv n7 e0)) (Rn QSn (e4 _ _ ⟨a7, a8, W, K, a9, rfl, b⟩))))))))))
 rintro f w ⟨b1, X, Z, e7, n8, n9, b⟩
 refine n5 _ _ (cB (eh n9) p (fun o0 p => ?_) fun o0 p => ?_)
 ·refine wp_skip (n3 _ _ (blockQ fun _ e8 => sR fun _ o1 => Ym (.int .u64 u) (eh e7) (yY (ysub e0 rfl) (Ya (.int .u64 (ws .u64 u 1)) e0 (wK o1 (sR fun _ o2 => Ym (.int .u64 E) (eh n8) (Ym l.v (eh X) ?_)))))))
  refine Ym (iV (h.length : Int)) (eh Z) (yY (ysub e0 rfl) (bE p fun e9 f0 p => yY (yIa SL_25 e0 e0 b (rdI m) f0) (yY (yI O_88 e0 b (rdI m) f0) (yY (ycv (k' := .u64) (by kernel_rfl) (by kernel_rfl) e0) (yY (yadd e0 e0) (Ya (.int .u64 (wa .u64 E (wc .u64 e9))) e0 (wK o2 (sR fun _ o3 => Ym (.int .u64 (wa .u64 E (wc .u64 e9))) e0 (yY (ygtr e0 rfl) ?_)))))))))
  refine wK o3 ?_
  refine cIf e0 p (fun o4 p => ?_) fun o4 p => ?_
  ·refine wp_exit (e8 _ _ _ ?_)
   cases p
   exact e3 _ _ _ _ rfl rfl (b7 _ _ _ b1 X Z rfl b (e2 _ rfl))
  ·refine wp_skip (e8 _ _ _ ?_)
   cases p
   exact n2 _ _ _ rfl ⟨_, _, _, rfl, rfl, b1, X, Z, rfl, rfl, b⟩
 ·refine wp_exit (n4 _ _ _ rfl ?_)
  cases p
  exact e3 _ _ _ _ rfl rfl (b7 _ _ _ b1 X Z e7 b (e2 _ rfl))
theorem integer_down_1_ok {a : Int} {out : Bool} (b : integer_down_1 a = some out) (c : St w0 ros rs w) :
  Calls Tryz.prog 162 #[.int .u32 a] w (fun e w => e = .returned (.bool out) ∧ St w0 ros rs w) := by
 refine enterQ Tryz.func162 rfl Tryz.ntmps162 rfl fun Q d => sR fun _ f => Ya (.bool false) rfl (wK f (sR fun _ g => Ym (.int .u32 a) e0 (yY (yneq e0 rfl) (Ya (.bool (!(decide (a = 0)))) e0 (wK g (wp_ret ?_))))))
 cases b
 exact d _ _ _ (fin1r Tryz.results162 ⟨rfl, rfl⟩ ⟨rfl, c⟩)
theorem slices_IndexFunc_uint32_ok {i : LI} {g : Hdr} {out : Int} (h : slices_IndexFunc_uint32 i = some out) (j : imm (rI .u32) g.v i ∈ ros) (b : St w0 ros rs w) :
  Calls Tryz.prog 174 #[g.v, .func (.func 162) #[] #[]] w (fun e w => e = .returned (iV out) ∧ St w0 ros rs w) := by
 refine enterQ Tryz.func174 rfl Tryz.ntmps174 rfl fun Q m => sR fun _ A => Ya (iV 0) rfl (wK A (seqQ fun Z B C => sR fun _ D => Ym g.v e0 (yY (yLen SL_25 e0 b (rdI j)) (Ym (iV 0) rfl (wK D ?_)))))
 refine blockQ fun n o => bE h fun p E h => ?_
 have F : ∀ (f : FV) w, St w0 ros rs w → .inl () = p → n (.exit 0) (fr 19 f) w := by
  intro f w b ho
  subst ho
  refine o _ _ _ (B _ _ (sR fun _ G => Ya (iV (-1)) rfl (wK G (wp_ret ?_))))
  cases h
  exact m _ _ _ (fin1r Tryz.results174 ⟨rfl, rfl⟩ ⟨rfl, b⟩)
 have H : ∀ (k : Int) (f : FV) w, f 4 = iV k → St w0 ros rs w → .inr k = p → n .ret (fr 19 f) w := by
  intro k f w I b ho
  subst ho
  refine o _ _ _ (C _ _ _ rfl ?_)
  cases h
  exact m _ _ _ (fin1r Tryz.results174 ⟨rfl, I⟩ ⟨rfl, b⟩)
 refine loopQ (fun s a w => ∃ (d : Int) (f : FV), d = s ∧ a = fr 19 f ∧ f 0 = g.v ∧ f 1 = .func (.func 162) #[] #[] ∧ f 7 = iV (i.length : Int) ∧ f 8 = iV d ∧ St w0 ros rs w) E ⟨_, _, rfl, rfl, rfl, rfl, rfl, rfl, b⟩ ?_
 rintro _ _ w a0 ⟨d, f, rfl, rfl, q, r, t, l, b⟩ c u a2 J x
 refine sR fun _ K => yY (ylss (eh l) (eh t)) (wK K (seqQ fun a3 L N => ?_))
 refine cIf e0 c (fun O c => ?_) fun O c => ?_
 ·refine wp_skip (L _ _ (seqQ fun a4 R S => blockQ fun _ y => sR fun _ T => Ym (iV d) (eh l) (Ya (iV d) e0 (wK T (sR fun _ U => Ym (.func (.func 162) #[] #[]) (eh r) (Ym g.v (eh q) ?_))))))
  refine Ym (iV d) e0 (bE c fun a5 z c => yY (yIa SL_25 e0 e0 b (rdI j) z) (yY (yI O_88 e0 b (rdI j) z) (bE c fun a6 V c => yC (yCallw FN_162 e0 (a1 e0)) (integer_down_1_ok V b) ?_)))
  rintro _ w ⟨rfl, b⟩
  refine ⟨_, rfl, ?_⟩
  refine wK U (cB e0 c (fun W c => ?_) fun W c => ?_)
  ·refine sR fun _ X => Ym (iV d) e0 (Ya (iV d) e0 (wK X (wp_ret (y _ _ _ (S _ _ _ rfl ?_)))))
   cases c
   exact x _ _ _ _ rfl rfl (H _ _ _ rfl b (u _ rfl))
  ·refine wp_skip (y _ _ _ (R _ _ (wR (yY (yadd (eh l) rfl) (Ym (iV (wa .i64 d 1)) e0 (wN ?_))))))
   cases c
   exact J _ _ _ rfl ⟨_, _, rfl, rfl, q, r, t, rfl, b⟩
 ·refine wp_exit (N _ _ _ rfl ?_)
  cases c
  exact x _ _ _ _ rfl rfl (F _ _ b (u _ rfl))
theorem slices_ContainsFunc_uint32_ok {d : LI} {a : Hdr} {out : Bool} (b : slices_ContainsFunc_uint32 d = some out) (f : imm (rI .u32) a.v d ∈ ros) (c : St w0 ros rs w) :
  Calls Tryz.prog 161 #[a.v, .func (.func 162) #[] #[]] w (fun e w => e = .returned (.bool out) ∧ St w0 ros rs w) := by
 refine enterQ Tryz.func161 rfl Tryz.ntmps161 rfl fun Q g => sR fun _ h => Ya (.bool false) rfl (wK h (sR fun _ i => Ym a.v e0 (Ym (.func (.func 162) #[] #[]) e0 (bE b fun j k b => yC (yCall FN_174 (a2 e0 e0)) (slices_IndexFunc_uint32_ok k f c) ?_))))
 rintro _ w ⟨rfl, c⟩
 refine ⟨_, rfl, ?_⟩
 refine yY (ygeq e0 rfl) (Ya (.bool (decide ((0 : Int) ≤ j))) e0 (wK i (wp_ret ?_)))
 cases b
 exact g _ _ _ (fin1r Tryz.results161 ⟨rfl, rfl⟩ ⟨rfl, c⟩)
theorem integer_down_ok {u : LI} {d : Int} {h : Hdr} {out : LI × Bool} (c : integer_down u d = some out) (k : imm (rI .u32) h.v u ∈ ros) (b : St w0 ros rs w) :
  Calls Tryz.prog 141 #[h.v, iV d] w (fun e w => ∃ (C : Hdr), e = .returned (.tuple #[C.v, .bool out.2]) ∧ St w0 (imm (rI .u32) C.v out.1 :: ros) rs w) := by
 refine enterQ Tryz.func141 rfl Tryz.ntmps141 rfl fun Q D => sR fun _ k1 => Ya hnil.v rfl (Ya (.bool false) rfl (wK k1 (sR fun _ U => Ym (iV d) e0 (yY (yquoc e0 rfl (by decide)) (Ym (iV d) e0 (yY (yremc e0 rfl (by decide)) (yY (ycv (k' := .u64) (by kernel_rfl) (by kernel_rfl) e0) ?_)))))))
 refine Ya (iV (wqc .i64 d 32)) e0 (Ya (.int .u64 (wc .u64 (wrc d 32))) e0 (wK U (seqQ fun f3 V W => sR fun _ X => Ym (iV (wqc .i64 d 32)) e0 (Ym h.v e0 (yY (yLen SL_25 e0 b (rdI k)) (yY (ygeq e0 e0) (wK X ?_)))))))
 refine cIf e0 c (fun Z c => ?_) fun Z c => ?_
 ·refine sR fun _ a0 => Ym h.v e0 (yY (yLen SL_25 e0 b (rdI k)) (yY (ygtr e0 rfl) (Ya hnil.v rfl (Ya (.bool (decide ((0 : Int) < (u.length : Int)))) e0 (wK a0 (wp_ret (W _ _ _ rfl ?_)))))))
  cases c
  replace b := b.immNh (rI .u32)
  exact D _ _ _ (fin2r Tryz.results141 ⟨rfl, rfl⟩ ⟨rfl, rfl⟩ ⟨_, rfl, b⟩)
 ·refine wp_skip (V _ _ (sR fun _ a3 => Ym h.v e0 (Ym (iV (wqc .i64 d 32)) e0 (bE c fun f4 E c => yY (ySl (k1 := .i64) SL_25 e0 b (rdI k) (.inr ⟨rfl, rfl⟩) (.inl (congrArg some e0)) E) ?_))))
  replace b := b.sub k E
  refine bE c fun a4 a5 c => yC (yCall FN_161 (a2 e0 rfl)) (slices_ContainsFunc_uint32_ok a5 F0 b) ?_
  rintro _ w ⟨rfl, b⟩
  refine ⟨_, rfl, ?_⟩
  refine Ym (.bool a4) e0 (bE c fun n m c => ?_)
  refine joinW 10 (fun f w => f 0 = h.v ∧ f 6 = iV (wqc .i64 d 32) ∧ f 7 = .int .u64 (wc .u64 (wrc d 32)) ∧ f 38 = .bool n ∧ St w0 ros rs w) (fun F => ?_) ?_
  ·rcases iteS m with ⟨g, m⟩ | ⟨g, m⟩
   ·refine gN g (gN g (gN g (gN g (gN g (gN g (gN g (gN g (gN g (yY (pt_ (.bool true) e0 g rfl) ?_)))))))))
    cases m
    exact F _ _ ⟨rfl, rfl, rfl, rfl, (b.facts (allT allI))⟩
   ·refine yG (bfalse g) (m_ h.v e0) (yG (bfalse g) (m_ (iV (wqc .i64 d 32)) e0) (bE m fun a6 G m => yG (bfalse g) (yIa SL_25 e0 e0 b (rdI (mtF k)) G) (yG (bfalse g) (yI O_88 e0 b (rdI (mtF k)) G) (yG (bfalse g) (m_ (.int .u64 (wc .u64 (wrc d 32))) e0) (bE m fun a7 a8 m => yG (bfalse g) (yshl rfl e0 a8) (yG (bfalse g) (ysub e0 rfl) (yG (bfalse g) (yand e0 e0) (yG (bfalse g) (yneq e0 rfl) (yY (pf_ (.bool (!(decide ((wand .u32 a6 (ws .u32 a7 1)) = 0)))) e0 (bfalse g) e0) ?_)))))))))
    cases m
    exact F _ _ ⟨rfl, rfl, rfl, rfl, (b.facts (allT allI))⟩
  rintro f w ⟨H, I, a9, b0, b⟩
  refine Ya (.bool n) (eh b0) (wK a3 (sR fun _ b1 => Ym h.v (eh H) (yY (yLen SL_25 e0 b (rdI k)) (Ym (iV (wqc .i64 d 32)) (eh I) (yY (ysub e0 e0) (bE c fun J b2 c => yH (rMk b SL_25 e0 b2) fun l w b => Ya l.v e0 (wN ?_)))))))
  refine b1 _ _ (sQ fun _ b3 => sR fun _ b4 => Ym l.v e0 (yY (yLen SL_25 e0 b rO0) (Ym (iV 0) rfl (wK b4 (blockQ fun b5 b6 => bE c fun b7 b8 c => ?_)))))
  have b9 : ∀ (x : LI) (f : FV) w, f 8 = .bool n → f 9 = l.v → St w0 ros (row 88 (rI .u32) l.v x :: rs) w → x = b7 → b5 (.exit 0) (fr 86 f) w := by
   intro x f w c0 c1 b ho
   subst ho
   refine b6 _ _ _ (b3 _ _ (sR fun _ c2 => Ym l.v (eh c1) (bE c fun f5 c3 c => ?_)))
   replace b := b.fz
   refine yC (yCall FN_77 (a1 e0)) (integer_trim_ok c3 F0 b) ?_
   rintro _ w ⟨c5, rfl, b⟩
   refine ⟨_, rfl, ?_⟩
   refine Ym (.bool n) (eh c0) (Ya c5.v e0 (Ya (.bool n) e0 (wK c2 (wp_ret ?_))))
   cases c
   exact D _ _ _ (fin2r Tryz.results141 ⟨rfl, rfl⟩ ⟨rfl, rfl⟩ ⟨_, rfl, (b.facts (allC F0 (allT (allT allI))))⟩)
  refine loopQ (fun s a w => ∃ (o : LI) (i : Int) (f : FV), (o, i) = s ∧ a = fr 86 f ∧ f 0 = h.v ∧ f 6 = iV (wqc .i64 d 32) ∧ f 7 = .int .u64 (wc .u64 (wrc d 32)) ∧ f 8 = .bool n ∧ f 9 = l.v ∧ f 45 = iV (J.length : Int) ∧ f 46 = iV i ∧ St w0 ros (row 88 (rI .u32) l.v o :: rs) w) b8 ⟨_, _, _, rfl, rfl, H, I, a9, rfl, rfl, rfl, rfl, b⟩ ?_
  rintro _ _ w c6 ⟨o, i, f, rfl, rfl, p, q, K, y, z, A, r, b⟩ j c7 f6 c8 c9
  refine sR fun _ d0 => yY (ylss (eh r) (eh A)) (wK d0 (seqQ fun f7 d1 d2 => ?_))
  refine cIf e0 j (fun d3 j => ?_) fun d3 j => ?_
  ·refine wp_skip (d1 _ _ (sQ fun _ d4 => blockQ fun _ d5 => sR fun _ d6 => Ym (iV i) (eh r) (Ya (iV i) e0 (wK d6 (sR fun _ d7 => Ym h.v (eh p) (Ym (iV (wqc .i64 d 32)) (eh q) ?_))))))
   refine Ym (iV i) e0 (yY (yadd e0 e0) (bE j fun B L j => yY (yIa SL_25 e0 e0 b (rdI k) L) (yY (yI O_88 e0 b (rdI k) L) (yY (ycv (k' := .u64) (by kernel_rfl) (by kernel_rfl) e0) (Ya (.int .u64 (wc .u64 B)) e0 (wK d7 (sQ fun d8 d9 => sR fun _ e1 => Ym (iV (wqc .i64 d 32)) (eh q) (Ym (iV i) e0 ?_))))))))
   refine yY (yadd e0 e0) (yY (yadd e0 rfl) (Ym h.v (eh p) (yY (yLen SL_25 e0 b (rdI k)) (yY (ylss e0 e0) (wK e1 ?_)))))
   have N : ∀ (t : Int) (f : FV) w, f 0 = h.v → f 6 = iV (wqc .i64 d 32) → f 7 = .int .u64 (wc .u64 (wrc d 32)) → f 8 = .bool n → f 9 = l.v → f 10 = iV i → f 11 = .int .u64 t → f 45 = iV (J.length : Int) → f 46 = iV i → St w0 ros (row 88 (rI .u32) l.v o :: rs) w → integer_down_j5 d o i t = some c6 → d8 .normal (fr 86 f) w := by
    intro t f w e2 e3 O e4 R e5 e6 e7 e8 b c
    refine d9 _ _ (wR (Ym l.v (eh R) (Ym (iV i) (eh e5) (Ym (.int .u64 t) (eh e6) (Ym (.int .u64 (wc .u64 (wrc d 32))) (eh O) (bE c fun e9 f0 c => yY (yshr e0 e0 f0) (yY (yand e0 rfl) (yY (ycv (k' := .u32) (by kernel_rfl) (by kernel_rfl) e0) (bE c fun f8 S c => yY (yIs SL_25 e0 e0 b rO0 S) (yT (r_sti (cs := [.int .u32 (wc .u32 (wand .u64 e9 4294967295))]) b O_88 rfl e0 e0 rfl mkI S) fun w b => ?_))))))))))
    refine wN (d5 _ _ _ (d4 _ _ (wR (yY (yadd (eh e8) rfl) (Ym (iV (wa .i64 i 1)) e0 (wN ?_))))))
    cases c
    exact c8 _ _ _ rfl ⟨_, _, _, rfl, rfl, e2, e3, O, e4, R, e7, rfl, b⟩
   refine cIf e0 j (fun f1 j => ?_) fun f1 j => ?_
   ·refine wR (Ym (.int .u64 (wc .u64 B)) e0 (Ym h.v (eh p) (Ym (iV (wqc .i64 d 32)) (eh q) (Ym (iV i) e0 (yY (yadd e0 e0) (yY (yadd e0 rfl) (bE j fun f2 T j => yY (yIa SL_25 e0 e0 b (rdI k) T) (yY (yI O_88 e0 b (rdI k) T) (yY (ycv (k' := .u64) (by kernel_rfl) (by kernel_rfl) e0) (yY (yshlc e0 rfl) (yY (yor e0 e0) (Ya (.int .u64 (wor .u64 (wc .u64 B) (wslc .u64 (wc .u64 f2) 32))) e0 ?_))))))))))))
    exact wN (N _ _ _ p q K y z rfl rfl A r b j)
   ·exact wp_skip (N _ _ _ p q K y z rfl rfl A r b j)
  ·refine wp_exit (d2 _ _ _ rfl ?_)
   cases j
   exact c9 _ _ _ _ rfl rfl (b9 _ _ _ y z b (c7 _ rfl))
theorem integer_divide_ok {H I : LI} {m i : Hdr} {out : LI × LI} (c : integer_divide H I = some out) (r : imm (rI .u32) m.v H ∈ ros) (j : imm (rI .u32) i.v I ∈ ros) (b : St w0 ros rs w) :
  Calls Tryz.prog 124 #[m.v, i.v] w (fun e w => ∃ (J K : Hdr), e = .returned (.tuple #[J.v, K.v]) ∧ St w0 (imm (rI .u32) J.v out.1 :: imm (rI .u32) K.v out.2 :: ros) rs w) := by
 refine enterQ Tryz.func124 rfl Tryz.ntmps124 rfl fun Q z => sR fun _ k1 => Ya hnil.v rfl (Ya hnil.v rfl (wK k1 (seqQ fun g0 V W => sR fun _ X => Ym m.v e0 (Ym i.v e0 (bE c fun g1 Z c => yC (yCall FN_109 (a2 e0 e0)) (integer_compare_ok Z r j b) ?_)))))
 rintro _ w ⟨rfl, b⟩
 refine ⟨_, rfl, ?_⟩
 refine yY (ylss e0 rfl) (wK X ?_)
 refine cIf e0 c (fun a0 c => ?_) fun a0 c => ?_
 ·refine sR fun _ a3 => Ym m.v e0 (bE c fun g2 a4 c => yC (yCall FN_75 (a1 e0)) (slices_Clone_uint32_ok a4 r b) ?_)
  rintro _ w ⟨a5, rfl, b⟩
  refine ⟨_, rfl, ?_⟩
  refine Ya hnil.v rfl (Ya a5.v e0 (wK a3 (wp_ret (W _ _ _ rfl ?_))))
  cases c
  replace b := (b.immNh (rI .u32)).fz
  exact z _ _ _ (fin2r Tryz.results124 ⟨rfl, rfl⟩ ⟨rfl, rfl⟩ ⟨_, _, rfl, (b.facts (allC F1 (allC F0 (allT (allT allI)))))⟩)
 ·refine wp_skip (V _ _ (seqQ fun g3 a6 a7 => sR fun _ a8 => Ym i.v e0 (yY (yLen SL_25 e0 b (rdI j)) (yY (yeql e0 rfl) (wK a8 ?_)))))
  refine cIf e0 c (fun a9 c => ?_) fun a9 c => ?_
  ·refine sR fun _ b0 => Ym m.v e0 (Ym i.v e0 (bE c fun g4 L c => yY (yIa SL_25 e0 rfl b (rdI j) L) (yY (yI O_88 e0 b (rdI j) L) (bE c fun o b1 c => yC (yCall FN_98 (a2 e0 e0)) (integer_short_ok b1 r b) ?_))))
   rintro _ w ⟨t, rfl, b⟩
   refine ⟨_, rfl, ?_⟩
   refine Ym (.tuple #[t.v, .int .u32 o.2]) e0 (yY (x_ t.v e0) (yY (x_ (.int .u32 o.2) e0) (Ya t.v e0 (Ya (.int .u32 o.2) e0 (wK b0 (sR fun _ b2 => Ym t.v e0 (Ym (.int .u32 o.2) e0 (yH (rLt (n := 1) (l := [o.2]) b SL_25 [.int .u32 o.2] (bp1 e0) rfl rfl (mks1 (cs := [.int .u32 o.2]) rfl mkI mks0)) fun g5 w b => bE c fun g6 b3 c => ?_))))))))
   replace b := b.fz
   refine yC (yCall FN_77 (a1 e0)) (integer_trim_ok b3 F0 b) ?_
   rintro _ w ⟨b4, rfl, b⟩
   refine ⟨_, rfl, ?_⟩
   refine Ya t.v e0 (Ya b4.v e0 (wK b2 (wp_ret (a7 _ _ _ rfl ?_))))
   cases c
   exact z _ _ _ (fin2r Tryz.results124 ⟨rfl, rfl⟩ ⟨rfl, rfl⟩ ⟨_, _, rfl, (b.facts (allC F2 (allC F0 (allT (allT (allT allI))))))⟩)
  ·refine wp_skip (a6 _ _ (sR fun _ b5 => Ym i.v e0 (Ym i.v e0 (yY (yLen SL_25 e0 b (rdI j)) (yY (ysub e0 rfl) (bE c fun g7 N c => yY (yIa SL_25 e0 e0 b (rdI j) N) (yY (yI O_88 e0 b (rdI j) N) (bE c fun q b6 c => yC (yCall FN_137 (a1 e0)) (math_bits_LeadingZeros32_ok b6 b) ?_))))))))
   rintro _ w ⟨rfl, b⟩
   refine ⟨_, rfl, ?_⟩
   refine Ya (iV q) e0 (wK b5 (sR fun _ b7 => Ym i.v e0 (Ym (iV q) e0 (bE c fun p b8 c => yC (yCall FN_139 (a2 e0 e0)) (integer_up_ok b8 j b) ?_))))
   rintro _ w ⟨u, rfl, b⟩
   refine ⟨_, rfl, ?_⟩
   refine Ya u.v e0 (wK b7 (sR fun _ b9 => Ym m.v e0 (yY (yLen SL_25 e0 b (rdI (mtF r))) (yY (yadd e0 rfl) (bE c fun g8 c0 c => yH (rMk b SL_25 e0 c0) fun g w b => Ya g.v e0 (wK b9 ?_))))))
   refine sR fun _ c1 => Ym g.v e0 (Ym m.v e0 (Ym (iV q) e0 (bE c fun g9 c2 c => yC (yCall FN_139 (a2 e0 e0)) (integer_up_ok c2 (mtF r) b) ?_)))
   rintro _ w ⟨h0, rfl, b⟩
   refine ⟨_, rfl, ?_⟩
   refine bE c fun h1 c3 c => YV wn rfl (rCp b SL_25 rfl e0 (.inr ⟨rfl, rfl, rfl⟩) e0 (rdI F0) c3) fun w b => wK c1 (sR fun _ c4 => Ym u.v e0 (yY (yLen SL_25 e0 b (rdI F1)) (Ya (iV (p.length : Int)) e0 (wK c4 (sR fun _ c5 => ?_)))))
   refine Ym g.v e0 (yY (yLen SL_25 e0 b rO0) (Ym (iV (p.length : Int)) e0 (yY (ysub e0 e0) (bE c fun c7 c8 c => yH (rMk b SL_25 e0 c8) fun k w b => Ya k.v e0 (wK c5 (sQ fun _ d0 => sR fun _ d1 => Ym k.v e0 ?_))))))
   refine yY (yLen SL_25 e0 b rO0) (yY (ysub e0 rfl) (Ya (iV (ws .i64 (c7.length : Int) 1)) e0 (wK d1 (blockQ fun d2 d3 => bE c fun d4 d5 c => ?_))))
   have d6 : ∀ (A B : LI) (f : FV) w, f 4 = k.v → f 8 = iV q → f 10 = g.v → f 11 = iV (p.length : Int) → St w0 ros (row 88 (rI .u32) k.v A :: row 88 (rI .u32) g.v B :: rs) w → (A, B) = d4 → d2 (.exit 0) (fr 91 f) w := by
    intro A B f w d7 d8 d9 e1 b ho
    subst ho
    refine d3 _ _ _ (d0 _ _ (sR fun _ e2 => Ym g.v (eh d9) (Ym (iV (p.length : Int)) (eh e1) (bE c fun h3 O c => ?_))))
    replace b := (b.k11).fz
    refine yY (ySl (k1 := .i64) SL_25 e0 b (rdI F0) (.inr ⟨rfl, rfl⟩) (.inl (congrArg some e0)) O) ?_
    replace b := b.sub F0 O
    refine bE c fun h5 e3 c => yC (yCall FN_77 (a1 e0)) (integer_trim_ok e3 F0 b) ?_
    rintro _ w ⟨h6, rfl, b⟩
    refine ⟨_, rfl, ?_⟩
    refine Ym (iV q) (eh d8) (bE c fun R e4 c => yC (yCall FN_141 (a2 e0 e0)) (integer_down_ok e4 F0 b) ?_)
    rintro _ w ⟨x, rfl, b⟩
    refine ⟨_, rfl, ?_⟩
    refine Ym (.tuple #[x.v, .bool R.2]) e0 (yY (x_ x.v e0) (yY (x_ (.bool R.2) e0) (Ya x.v e0 (wK e2 (sR fun _ e5 => Ym k.v (eh d7) (bE c fun h7 e6 c => ?_))))))
    replace b := b.fz
    refine yC (yCall FN_77 (a1 e0)) (integer_trim_ok e6 F0 b) ?_
    rintro _ w ⟨e7, rfl, b⟩
    refine ⟨_, rfl, ?_⟩
    refine Ym x.v e0 (Ya e7.v e0 (Ya x.v e0 (wK e5 (wp_ret ?_))))
    cases c
    exact z _ _ _ (fin2r Tryz.results124 ⟨rfl, rfl⟩ ⟨rfl, rfl⟩ ⟨_, _, rfl, (b.facts (allC F0 (allC F2 (allT (allT (allT (allT (allT (allT allI)))))))))⟩)
   refine loopQ (fun s a w => ∃ (C D : LI) (h : Int) (f : FV), (C, D, h) = s ∧ a = fr 91 f ∧ f 4 = k.v ∧ f 8 = iV q ∧ f 9 = u.v ∧ f 10 = g.v ∧ f 11 = iV (p.length : Int) ∧ f 12 = iV h ∧ St w0 (imm (rI .u32) u.v p :: ros) (row 88 (rI .u32) k.v C :: row 88 (rI .u32) g.v D :: rs) w) d5 ⟨_, _, _, _, rfl, rfl, rfl, rfl, rfl, rfl, rfl, rfl, (b.facts (allC F1 (allT (allT allI))))⟩ ?_
   rintro _ _ w h9 ⟨C, D, h, f, rfl, rfl, E, S, T, F, G, y, b⟩ d e8 i0 e9 f0
   refine seqQ fun i1 f1 f2 => sR fun _ f3 => Ym (iV h) (eh y) (yY (ygeq e0 rfl) (wK f3 ?_))
   refine cIf e0 d (fun f4 d => ?_) fun f4 d => ?_
   ·refine wp_skip (f1 _ _ (sQ fun _ f5 => blockQ fun _ f6 => wR (Ym k.v (eh E) (Ym (iV h) (eh y) (Ym g.v (eh F) (Ym (iV h) (eh y) (Ym (iV h) (eh y) (Ym (iV (p.length : Int)) (eh G) (yY (yadd e0 e0) (yY (yadd e0 rfl) (bE d fun i2 f7 d => ?_)))))))))))
    refine yY (ySl SL_25 e0 b rO1 (.inl (congrArg some e0)) (.inl (congrArg some e0)) f7) (Ym u.v (eh T) (bE d fun f8 f9 d => ?_))
    replace b := b.k11
    refine yC (yCall FN_140 (a2 e0 e0)) (integer_digit_ok f9 F0 b) ?_
    rintro _ w ⟨rfl, b⟩
    refine ⟨_, rfl, ?_⟩
    refine bE d fun i3 U d => yY (yIs SL_25 e0 e0 b rO1 U) (yT (r_sti (cs := [.int .u32 f8.2]) (b.k11) O_88 rfl e0 e0 rfl mkI U) fun w b => wN (f6 _ _ _ (f5 _ _ (wR (Ym (iV h) (eh y) (yY (ysub e0 rfl) (Ya (iV (ws .i64 h 1)) e0 (wN ?_))))))))
    cases d
    exact e9 _ _ _ rfl ⟨_, _, _, _, rfl, rfl, E, S, T, F, G, rfl, b⟩
   ·refine wp_exit (f2 _ _ _ rfl ?_)
    cases d
    exact f0 _ _ _ _ rfl rfl (d6 _ _ _ _ E S F G (b.facts (allT allI)) (e8 _ rfl))
theorem integer_plus_ok {H I : LI} {q r : Hdr} {out : LI} (c : integer_plus H I = some out) (B : imm (rI .u32) q.v H ∈ ros) (C : imm (rI .u32) r.v I ∈ ros) (b : St w0 ros rs w) :
  Calls Tryz.prog 108 #[q.v, r.v] w (fun e w => ∃ (J : Hdr), e = .returned (J.v) ∧ St w0 (imm (rI .u32) J.v out :: ros) rs w) := by
 refine enterQ Tryz.func108 rfl Tryz.ntmps108 rfl fun Q U => sR fun _ V => Ya hnil.v rfl (wK V (sQ fun W X => sR fun _ Z => Ym q.v e0 (yY (yLen SL_25 e0 b (rdI B)) (Ym r.v e0 (yY (yLen SL_25 e0 b (rdI C)) (yY (ylss e0 e0) ?_))))))
 refine wK Z ?_
 have K : ∀ (k t : LI) (h i : Hdr) (f : FV) w, f 0 = h.v → f 1 = i.v → St w0 (imm (rI .u32) h.v k :: imm (rI .u32) i.v t :: ros) rs w → integer_plus_j1 k t = some out → W .normal (fr 58 f) w := by
  intro k t h i f w L a0 b c
  refine X _ _ (sR fun _ a2 => Ym h.v (eh L) (yY (yLen SL_25 e0 b (rdI F0)) (yY (yadd e0 rfl) (bE c fun e6 a3 c => yH (rMkc b SL_25 rfl e0 a3) fun a4 w b => Ya a4.v e0 (wK a2 (sR fun _ a5 => ?_))))))
  refine Ya (.int .u64 0) rfl (wK a5 (sQ fun _ a6 => sR fun _ a7 => Ym h.v (eh L) (yY (yLen SL_25 e0 b (rdI F0)) (Ym (iV 0) rfl (wK a7 (blockQ fun a8 a9 => bE c fun b0 b1 c => ?_))))))
  have b2 : ∀ (D : LI) (m : Int) (z : Hdr) (f : FV) w, f 5 = z.v → f 6 = .int .u64 m → St w0 ros (row 88 (rI .u32) z.v D :: rs) w → (D, m) = b0 → a8 (.exit 0) (fr 58 f) w := by
   intro D m z f w b3 b4 b ho
   subst ho
   refine a9 _ _ _ (a6 _ _ (sR fun _ b5 => Ym z.v (eh b3) (Ym (.int .u64 m) (eh b4) (yY (ycv (k' := .u32) (by kernel_rfl) (by kernel_rfl) e0) (yH (rLt (n := 1) (l := [wc .u32 m]) b SL_25 [.int .u32 (wc .u32 m)] (bp1 e0) rfl rfl (mks1 (cs := [.int .u32 (wc .u32 m)]) rfl mkI mks0)) fun e7 w b => bE c fun e8 b6 c => yH (rAp (b.k11) SL_25 e0 e0 rO1 b6) fun e9 w b => bE c fun f0 b7 c => ?_)))))
   replace b := b.fz
   refine yC (yCall FN_77 (a1 e0)) (integer_trim_ok b7 F0 b) ?_
   rintro _ w ⟨b8, rfl, b⟩
   refine ⟨_, rfl, ?_⟩
   refine Ya b8.v e0 (wK b5 (wp_ret ?_))
   cases c
   exact U _ _ _ (fin1r Tryz.results108 ⟨rfl, rfl⟩ ⟨_, rfl, ((b.k10).facts (allC F0 (allT (allT allI))))⟩)
  refine loopQ (fun s a w => ∃ (u : LI) (o g : Int) (f : FV) (p : Hdr), (u, o, g) = s ∧ a = fr 58 f ∧ f 1 = i.v ∧ f 5 = p.v ∧ f 6 = .int .u64 o ∧ f 21 = h.v ∧ f 22 = iV (k.length : Int) ∧ f 23 = iV g ∧ St w0 (imm (rI .u32) i.v t :: imm (rI .u32) h.v k :: ros) (row 88 (rI .u32) p.v u :: rs) w) b1 ⟨_, _, _, _, _, rfl, rfl, a0, rfl, rfl, rfl, rfl, rfl, (b.facts (allC F1 (allC F0 (allT (allT allI)))))⟩ ?_
  rintro _ _ w b9 ⟨u, o, g, f, p, rfl, rfl, A, E, N, F, G, x, b⟩ d c0 f1 c1 c2
  refine sR fun _ c3 => yY (ylss (eh x) (eh G)) (wK c3 (seqQ fun f2 c4 c5 => ?_))
  refine cIf e0 d (fun c6 d => ?_) fun c6 d => ?_
  ·refine wp_skip (c4 _ _ (sQ fun _ c7 => blockQ fun _ c8 => sR fun _ c9 => Ym (iV g) (eh x) (bE d fun y O d => yY (yIa SL_25 (eh F) (eh x) b (rdI F1) O) (yY (yI O_88 e0 b (rdI F1) O) (Ya (iV g) e0 (Ya (.int .u32 y) e0 (wK c9 ?_)))))))
   refine sR fun _ d0 => Ym (.int .u32 y) e0 (yY (ycv (k' := .u64) (by kernel_rfl) (by kernel_rfl) e0) (Ym (.int .u64 o) (eh N) (yY (yadd e0 e0) (Ya (.int .u64 (wa .u64 (wc .u64 y) o)) e0 (wK d0 (sQ fun d1 d2 => sR fun _ d3 => Ym (iV g) e0 (Ym i.v (eh A) ?_)))))))
   refine yY (yLen SL_25 e0 b (rdI F0)) (yY (ylss e0 e0) (wK d3 ?_))
   have R : ∀ (j : Int) (f : FV) w, f 1 = i.v → f 5 = p.v → f 9 = .int .u64 j → f 21 = h.v → f 22 = iV (k.length : Int) → f 23 = iV g → St w0 (imm (rI .u32) i.v t :: imm (rI .u32) h.v k :: ros) (row 88 (rI .u32) p.v u :: rs) w → integer_plus_j5 u g j = some b9 → d1 .normal (fr 58 f) w := by
    intro j f w d4 d5 S d6 d7 d8 b c
    refine d2 _ _ (sR fun _ d9 => Ym p.v (eh d5) (Ym (.int .u64 j) (eh S) (yY (yand e0 rfl) (yY (ycv (k' := .u32) (by kernel_rfl) (by kernel_rfl) e0) (yH (rLt (n := 1) (l := [wc .u32 (wand .u64 j 4294967295)]) b SL_25 [.int .u32 (wc .u32 (wand .u64 j 4294967295))] (bp1 e0) rfl rfl (mks1 (cs := [.int .u32 (wc .u32 (wand .u64 j 4294967295))]) rfl mkI mks0)) fun f3 w b => bE c fun f4 e1 c => yH (rAp (b.k11) SL_25 e0 e0 rO1 e1) fun e2 w b => Ya e2.v e0 (wN ?_))))))
    refine d9 _ _ (wR (Ym (.int .u64 j) (eh S) (yY (yshrc e0 rfl) (Ya (.int .u64 (wsrc .u64 j 32)) e0 (wN (c8 _ _ _ (c7 _ _ (wR (yY (yadd (eh d8) rfl) (Ym (iV (wa .i64 g 1)) e0 (wN ?_)))))))))))
    cases c
    exact c1 _ _ _ rfl ⟨_, _, _, _, _, rfl, rfl, d4, rfl, rfl, d6, d7, rfl, (b.k12)⟩
   refine cIf e0 d (fun e3 d => ?_) fun e3 d => ?_
   ·exact wR (Ym (.int .u64 (wa .u64 (wc .u64 y) o)) e0 (Ym i.v (eh A) (Ym (iV g) e0 (bE d fun e4 T d => yY (yIa SL_25 e0 e0 b (rdI F0) T) (yY (yI O_88 e0 b (rdI F0) T) (yY (ycv (k' := .u64) (by kernel_rfl) (by kernel_rfl) e0) (yY (yadd e0 e0) (Ya (.int .u64 (wa .u64 (wa .u64 (wc .u64 y) o) (wc .u64 e4))) e0 (wN (R _ _ _ A E rfl F G x b d))))))))))
   ·exact wp_skip (R _ _ _ A E rfl F G x b d)
  ·refine wp_exit (c5 _ _ _ rfl ?_)
   cases d
   exact c2 _ _ _ _ rfl rfl (b2 _ _ _ _ _ E N (b.facts (allT (allT allI))) (c0 _ rfl))
 refine cIf e0 c (fun e5 c => ?_) fun e5 c => ?_
 ·exact wR (Ym r.v e0 (Ym q.v e0 (Ya r.v e0 (Ya q.v e0 (wN (K _ _ _ _ _ _ rfl rfl (b.facts (allC C (allC B allI))) c))))))
 ·exact wp_skip (K _ _ _ _ _ _ rfl rfl (b.facts (allC B (allC C allI))) c)
theorem integer_minus_ok {p A : LI} {k l : Hdr} {out : LI} (g : integer_minus p A = some out) (q : imm (rI .u32) k.v p ∈ ros) (t : imm (rI .u32) l.v A ∈ ros) (b : St w0 ros rs w) :
  Calls Tryz.prog 110 #[k.v, l.v] w (fun e w => ∃ (B : Hdr), e = .returned (B.v) ∧ St w0 (imm (rI .u32) B.v out :: ros) rs w) := by
 refine enterQ Tryz.func110 rfl Tryz.ntmps110 rfl fun Q I => sR fun _ J => Ya hnil.v rfl (wK J (sR fun _ K => Ym k.v e0 (yY (yLen SL_25 e0 b (rdI q)) (bE g fun c7 L g => yH (rMk b SL_25 e0 L) fun h w b => Ya h.v e0 ?_))))
 refine wK K (sR fun _ N => Ya (.int .u64 0) rfl (wK N (sQ fun _ O => sR fun _ R => Ym k.v e0 (yY (yLen SL_25 e0 b (rdI q)) (Ym (iV 0) rfl (wN ?_))))))
 refine R _ _ (blockQ fun S T => bE g fun U V g => ?_)
 have W : ∀ (u : LI) (f : FV) w, f 5 = h.v → St w0 ros (row 88 (rI .u32) h.v u :: rs) w → u = U → S (.exit 0) (fr 47 f) w := by
  intro u f w X b ho
  subst ho
  refine T _ _ _ (O _ _ (sR fun _ Z => Ym h.v (eh X) (bE g fun c8 a0 g => ?_)))
  replace b := b.fz
  refine yC (yCall FN_77 (a1 e0)) (integer_trim_ok a0 F0 b) ?_
  rintro _ w ⟨a2, rfl, b⟩
  refine ⟨_, rfl, ?_⟩
  refine Ya a2.v e0 (wK Z (wp_ret ?_))
  cases g
  exact I _ _ _ (fin1r Tryz.results110 ⟨rfl, rfl⟩ ⟨_, rfl, (b.facts (allC F0 (allT (allT allI))))⟩)
 refine loopQ (fun s a w => ∃ (m : LI) (i d : Int) (f : FV), (m, i, d) = s ∧ a = fr 47 f ∧ f 1 = l.v ∧ f 5 = h.v ∧ f 6 = .int .u64 i ∧ f 13 = k.v ∧ f 14 = iV (p.length : Int) ∧ f 15 = iV d ∧ St w0 ros (row 88 (rI .u32) h.v m :: rs) w) V ⟨_, _, _, _, rfl, rfl, rfl, rfl, rfl, rfl, rfl, rfl, b⟩ ?_
 rintro _ _ w a3 ⟨m, i, d, f, rfl, rfl, r, x, a4, y, z, n, b⟩ c a5 c9 a6 a7
 refine sR fun _ a8 => yY (ylss (eh n) (eh z)) (wK a8 (seqQ fun d0 a9 b0 => ?_))
 refine cIf e0 c (fun b1 c => ?_) fun b1 c => ?_
 ·refine wp_skip (a9 _ _ (sQ fun _ b2 => blockQ fun _ b3 => sR fun _ b4 => Ym (iV d) (eh n) (bE c fun o C c => yY (yIa SL_25 (eh y) (eh n) b (rdI q) C) (yY (yI O_88 e0 b (rdI q) C) (Ya (iV d) e0 (Ya (.int .u32 o) e0 (wK b4 ?_)))))))
  refine sR fun _ b5 => Ym (.int .u32 o) e0 (yY (ycv (k' := .u64) (by kernel_rfl) (by kernel_rfl) e0) (Ym (.int .u64 i) (eh a4) (yY (ysub e0 e0) (Ya (.int .u64 (ws .u64 (wc .u64 o) i)) e0 (wK b5 (sQ fun b6 b7 => sR fun _ b8 => Ym (iV d) e0 (Ym l.v (eh r) ?_)))))))
  refine yY (yLen SL_25 e0 b (rdI t)) (yY (ylss e0 e0) (wK b8 ?_))
  have D : ∀ (j : Int) (f : FV) w, f 1 = l.v → f 5 = h.v → f 7 = iV d → f 9 = .int .u64 j → f 13 = k.v → f 14 = iV (p.length : Int) → f 15 = iV d → St w0 ros (row 88 (rI .u32) h.v m :: rs) w → integer_minus_j4 m d j = some a3 → b6 .normal (fr 47 f) w := by
   intro j f w b9 E c0 F c1 c2 c3 b g
   refine b7 _ _ (sR fun _ c4 => Ym h.v (eh E) (Ym (iV d) (eh c0) (Ym (.int .u64 j) (eh F) (yY (yand e0 rfl) (yY (ycv (k' := .u32) (by kernel_rfl) (by kernel_rfl) e0) (bE g fun d1 G g => yY (yIs SL_25 e0 e0 b rO0 G) (yT (r_sti (cs := [.int .u32 (wc .u32 (wand .u64 j 4294967295))]) b O_88 rfl e0 e0 rfl mkI G) fun w b => wK c4 ?_)))))))
   refine wR (Ym (.int .u64 j) (eh F) (yY (yshrc e0 rfl) (yY (yand e0 rfl) (Ya (.int .u64 (wand .u64 (wsrc .u64 j 32) 1)) e0 (wN (b3 _ _ _ (b2 _ _ (wR (yY (yadd (eh c3) rfl) (Ym (iV (wa .i64 d 1)) e0 (wN ?_)))))))))))
   cases g
   exact a6 _ _ _ rfl ⟨_, _, _, _, rfl, rfl, b9, E, rfl, c1, c2, rfl, b⟩
  refine cIf e0 c (fun c5 c => ?_) fun c5 c => ?_
  ·exact wR (Ym (.int .u64 (ws .u64 (wc .u64 o) i)) e0 (Ym l.v (eh r) (Ym (iV d) e0 (bE c fun c6 H c => yY (yIa SL_25 e0 e0 b (rdI t) H) (yY (yI O_88 e0 b (rdI t) H) (yY (ycv (k' := .u64) (by kernel_rfl) (by kernel_rfl) e0) (yY (ysub e0 e0) (Ya (.int .u64 (ws .u64 (ws .u64 (wc .u64 o) i) (wc .u64 c6))) e0 (wN (D _ _ _ r x rfl rfl y z n b c))))))))))
  ·exact wp_skip (D _ _ _ r x rfl rfl y z n b c)
 ·refine wp_exit (b0 _ _ _ rfl ?_)
  cases c
  exact a7 _ _ _ _ rfl rfl (W _ _ _ x b (a5 _ rfl))
theorem integer_DivMod_ok {c : Bool} {z : LI} {g : Bool} {A : LI} {i j : Hdr} {out : Bool × LI × Bool × LI × Int} (b : integer_DivMod c z g A = some out) (V : imm (rI .u32) i.v z ∈ ros) (W : imm (rI .u32) j.v A ∈ ros) (a : St w0 ros rs w) :
  Calls Tryz.prog 85 #[.agg #[.bool c, i.v], .agg #[.bool g, j.v]] w (fun e w => ∃ (B C : Hdr), e = .returned (.tuple #[.agg #[.bool out.1, B.v], .agg #[.bool out.2.2.1, C.v], iV out.2.2.2.2]) ∧ St w0 (imm (rI .u32) B.v out.2.1 :: imm (rI .u32) C.v out.2.2.2.1 :: ros) rs w) := by
 refine enterQ Tryz.func85 rfl Tryz.ntmps85 rfl fun Q D => sR fun _ X => yBb (r_box (vals := [.bool c, i.v]) a e0 rfl) fun o w a => yBb (r_box (vals := [.bool g, j.v]) a e0 rfl) fun p w a => yBb (rAl a ZT_27) fun q w a => yBb (rAl a ZT_27) fun r w a => Ya (iV 0) rfl (wK X ?_)
 refine sR fun _ Z => yY (yFb FL_27_1 e0) (yY (lb_ j.v O_25 e0 a R2) (bE b fun a0 a3 b => yC (yCall FN_77 (a1 e0)) (integer_trim_ok a3 W a) ?_))
 rintro _ w ⟨k, rfl, a⟩
 refine ⟨_, rfl, ?_⟩
 refine Ya k.v e0 (wK Z (seqQ fun d2 a4 a5 => sR fun _ a6 => Ym k.v e0 (yY (yLen SL_25 e0 a (rdI F0)) (yY (yeql e0 rfl) (wK a6 ?_)))))
 refine cIf e0 b (fun a7 b => ?_) fun a7 b => ?_
 ·refine sR fun _ a8 => yY (ybuild (us := [.bool false, hnil.v]) [] SO_27 bp0 rfl) (yY (ybuild (us := [.bool false, hnil.v]) [] SO_27 bp0 rfl) (yT (r_stbn (vals' := [.bool false, hnil.v]) (us := [.bool false, hnil.v]) (a.k11) ST_27 e0 e0 rfl rfl (one_of rfl) rfl) fun w a => yT (r_stbn (vals' := [.bool false, hnil.v]) (us := [.bool false, hnil.v]) (a.k11) ST_27 e0 e0 rfl rfl (one_of rfl) rfl) fun w a => Ya (iV 8) rfl (wK a8 (wp_ret (a5 _ _ _ rfl ?_)))))
  cases b
  replace a := a.immNh (rI .u32)
  exact D _ _ _ (fin3r Tryz.results85 (rcs2 rfl rfl a R1 ST_27 rfl) (rcs2 rfl rfl a R0 ST_27 rfl) ⟨rfl, rfl⟩ ⟨_, _, rfl, ((a.k13).facts (allC F0 (allC F0 (allT (allT allI)))))⟩)
 ·refine wp_skip (a4 _ _ (sR fun _ a9 => yY (yFb FL_27_1 e0) (yY (lb_ i.v O_25 e0 a R3) (bE b fun d3 b0 b => yC (yCall FN_77 (a1 e0)) (integer_trim_ok b0 (mtF V) a) ?_))))
  rintro _ w ⟨d4, rfl, a⟩
  refine ⟨_, rfl, ?_⟩
  refine Ym k.v e0 (bE b fun s b1 b => yC (yCall FN_124 (a2 e0 e0)) (integer_divide_ok b1 F0 F1 a) ?_)
  rintro _ w ⟨m, h, rfl, a⟩
  refine ⟨_, rfl, ?_⟩
  refine Ym (.tuple #[m.v, h.v]) e0 (yY (x_ m.v e0) (yY (x_ h.v e0) (Ya m.v e0 (Ya h.v e0 (wK a9 (sQ fun b2 b3 => sR fun _ b4 => yY (yFb FL_27_0 e0) (yY (lb_ (.bool c) O_4 e0 a R3) (Ym (.bool c) e0 ?_))))))))
  refine joinW 4 (fun f w => f 2 = (pB o) ∧ f 3 = (pB p) ∧ f 4 = (pB q) ∧ f 5 = (pB r) ∧ f 7 = k.v ∧ f 8 = m.v ∧ f 9 = h.v ∧ f 32 = .bool (c && (decide ((0 : Int) < (s.2.length : Int)))) ∧ St w0 (imm (rI .u32) k.v a0 :: imm (rI .u32) m.v s.1 :: imm (rI .u32) h.v s.2 :: ros) (box o 27 [.bool c, i.v] :: box p 27 [.bool g, j.v] :: box q 27 [.bool false, hnil.v] :: box r 27 [.bool false, hnil.v] :: rs) w) (fun E => ?_) ?_
  ·rcases Bool.eq_false_or_eq_true c with d | d
   ·exact yG d (m_ h.v e0) (yG d (yLen SL_25 e0 a (rdI F1)) (yG d (ygtr e0 rfl) (yY (pt_ (.bool (decide ((0 : Int) < (s.2.length : Int)))) e0 d e0) (E _ _ ⟨rfl, rfl, rfl, rfl, rfl, rfl, rfl, (congrArg Value.bool (andT d)), ((a.k14).facts (allC F3 (allC F0 (allC F1 (allT (allT (allT (allT allI))))))))⟩))))
   ·exact gN d (gN d (gN d (yY (pf_ (.bool false) e0 d rfl) (E _ _ ⟨rfl, rfl, rfl, rfl, rfl, rfl, rfl, (congrArg Value.bool (andF d)), ((a.k14).facts (allC F3 (allC F0 (allC F1 (allT (allT (allT (allT allI))))))))⟩))))
  rintro f w ⟨F, G, H, I, b5, J, K, b6, a⟩
  refine wK b4 ?_
  have L : ∀ (x y : LI) (t u : Hdr) (f : FV) w, f 2 = (pB o) → f 3 = (pB p) → f 4 = (pB q) → f 5 = (pB r) → f 8 = t.v → f 9 = u.v → St w0 (imm (rI .u32) t.v x :: imm (rI .u32) u.v y :: ros) (box o 27 [.bool c, i.v] :: box p 27 [.bool g, j.v] :: box q 27 [.bool false, hnil.v] :: box r 27 [.bool false, hnil.v] :: rs) w → integer_DivMod_j2 c g x y = some out → b2 .normal (fr 48 f) w := by
   intro x y t u f w c0 c1 N O c2 c3 a b
   refine b3 _ _ (sR fun _ c4 => yY (yFb FL_27_0 (eh c0)) (yY (lb_ (.bool c) O_4 e0 a R0) (yY (yFb FL_27_0 (eh c1)) (yY (lb_ (.bool g) O_4 e0 a R1) (yY (yneb (by kernel_rfl) e0 e0) (Ym t.v (eh c2) (bE b fun R c5 b => yC (yCall FN_74 (a2 e0 e0)) (integer_big_ok c5 F0 a) ?_)))))))
   rintro _ w ⟨S, rfl, a⟩
   refine ⟨_, rfl, ?_⟩
   refine Ym u.v (eh c3) (bE b fun T c6 b => yC (yCall FN_74 (a2 rfl e0)) (integer_big_ok c6 F2 a) ?_)
   rintro _ w ⟨U, rfl, a⟩
   refine ⟨_, rfl, ?_⟩
   refine yT (r_stbn (vals' := [.bool R.1, S.v]) (us := [.bool R.1, S.v]) (a.k15) ST_27 (eh N) e0 rfl rfl (one_of rfl) rfl) fun w a => yT (r_stbn (vals' := [.bool T.1, U.v]) (us := [.bool T.1, U.v]) (a.k16) ST_27 (eh O) e0 rfl rfl (one_of rfl) rfl) fun w a => Ya (iV 0) rfl (wK c4 (wp_ret ?_))
   cases b
   exact D _ _ _ (fin3r Tryz.results85 (rcs2 rfl N a R1 ST_27 rfl) (rcs2 rfl O a R0 ST_27 rfl) ⟨rfl, rfl⟩ ⟨_, _, rfl, ((a.k13).facts (allC F1 (allC F0 (allT (allT (allT (allT allI)))))))⟩)
  refine cB (eh b6) b (fun c7 b => ?_) fun c7 b => ?_
  ·refine wR (Ym m.v (eh J) (yH (rLt (n := 1) (l := [1]) a SL_25 [.int .u32 1] (bp1 rfl) rfl rfl (mks1 (cs := [.int .u32 1]) rfl mkI mks0)) fun d5 w a => bE b fun d6 c8 b => ?_))
   replace a := a.fz
   refine yC (yCall FN_108 (a2 e0 e0)) (integer_plus_ok c8 F2 F0 a) ?_
   rintro _ w ⟨c9, rfl, a⟩
   refine ⟨_, rfl, ?_⟩
   refine Ym k.v (eh b5) (Ym h.v (eh K) (bE b fun d7 d0 b => yC (yCall FN_110 (a2 e0 e0)) (integer_minus_ok d0 F2 F4 a) ?_))
   rintro _ w ⟨d1, rfl, a⟩
   refine ⟨_, rfl, ?_⟩
   exact Ya c9.v e0 (Ya d1.v e0 (wN (L _ _ _ _ _ _ F G H I rfl rfl (a.facts (allC F1 (allC F0 (allT (allT (allT (allT (allT (allT allI))))))))) b)))
  ·exact wp_skip (L _ _ _ _ _ _ F G H I J K (a.facts (allC F1 (allC F2 (allT (allT (allT allI)))))) b)
theorem integer_Int_ok {d : Bool} {B : LI} {m : Hdr} {out : Int × Bool} (g : integer_Int d B = some out) (S : imm (rI .u32) m.v B ∈ ros) (c : St w0 ros rs w) :
  Calls Tryz.prog 107 #[.agg #[.bool d, m.v]] w (fun e w => e = .returned (.tuple #[iV out.1, .bool out.2]) ∧ St w0 ros rs w) := by
 refine enterQ Tryz.func107 rfl Tryz.ntmps107 rfl fun Q t => sR fun _ T => yBb (r_box (vals := [.bool d, m.v]) c e0 rfl) fun n w c => Ya (iV 0) rfl (Ya (.bool false) rfl (wK T (sR fun _ U => yY (yFb FL_27_1 e0) (yY (lb_ m.v O_25 e0 c R0) (bE g fun C V g => ?_)))))
 refine yC (yCall FN_77 (a1 e0)) (integer_trim_ok V S c) ?_
 rintro _ w ⟨q, rfl, c⟩
 refine ⟨_, rfl, ?_⟩
 refine Ya q.v e0 (wK U (seqQ fun e2 W X => sR fun _ Z => Ym q.v e0 (yY (yLen SL_25 e0 c (rdI F0)) (yY (ygtr e0 rfl) (wK Z ?_)))))
 refine cIf e0 g (fun a0 g => ?_) fun a0 g => ?_
 ·refine sR fun _ a2 => Ya (iV 0) rfl (Ya (.bool false) rfl (wK a2 (wp_ret (X _ _ _ rfl ?_))))
  cases g
  exact t _ _ _ (fin2r Tryz.results107 ⟨rfl, rfl⟩ ⟨rfl, rfl⟩ ⟨rfl, ((c.k10).facts (allT allI))⟩)
 ·refine wp_skip (W _ _ (sR fun _ a3 => Ya (.int .u64 0) rfl (wK a3 (sQ fun _ a4 => sR fun _ a5 => Ym q.v e0 (yY (yLen SL_25 e0 c (rdI F0)) (Ym (iV 0) rfl (wN ?_)))))))
  refine a5 _ _ (blockQ fun a6 a7 => bE g fun a8 a9 g => ?_)
  have b0 : ∀ (b : Int) (f : FV) w, f 1 = (pB n) → f 5 = .int .u64 b → St w0 ros (box n 27 [.bool d, m.v] :: rs) w → b = a8 → a6 (.exit 0) (fr 59 f) w := by
   intro b f w x y c ho
   subst ho
   refine a7 _ _ _ (a4 _ _ (seqQ fun e3 b1 D => blockQ fun _ z => sR fun _ b2 => yY (yFb FL_27_0 (eh x)) (yY (lb_ (.bool d) O_4 e0 c R0) (Ym (.bool d) e0 ?_))))
   refine joinW 3 (fun f w => f 1 = (pB n) ∧ f 5 = .int .u64 b ∧ f 35 = .bool (d && (decide ((0 : Int) < b))) ∧ St w0 ros (box n 27 [.bool d, m.v] :: rs) w) (fun E => ?_) ?_
   ·rcases Bool.eq_false_or_eq_true d with i | i
    ·exact yG i (m_ (.int .u64 b) (eh y)) (yG i (ygtr e0 rfl) (yY (pt_ (.bool (decide ((0 : Int) < b))) e0 i e0) (E _ _ ⟨x, y, (congrArg Value.bool (andT i)), c⟩)))
    ·exact gN i (gN i (yY (pf_ (.bool false) e0 i rfl) (E _ _ ⟨x, y, (congrArg Value.bool (andF i)), c⟩)))
   rintro f w ⟨F, A, b3, c⟩
   refine Ym (.bool (d && (decide ((0 : Int) < b)))) (eh b3) ?_
   refine joinW 3 (fun f w => f 1 = (pB n) ∧ f 5 = .int .u64 b ∧ f 39 = .bool ((d && (decide ((0 : Int) < b))) && (decide (b ≤ 9223372036854775808))) ∧ St w0 ros (box n 27 [.bool d, m.v] :: rs) w) (fun G => ?_) ?_
   ·rcases Bool.eq_false_or_eq_true (d && (decide ((0 : Int) < b))) with j | j
    ·exact yG j (m_ (.int .u64 b) (eh A)) (yG j (yleq e0 rfl) (yY (pt_ (.bool (decide (b ≤ 9223372036854775808))) e0 j e0) (G _ _ ⟨F, A, (congrArg Value.bool (andT j)), c⟩)))
    ·exact gN j (gN j (yY (pf_ (.bool false) e0 j rfl) (G _ _ ⟨F, A, (congrArg Value.bool (andF j)), c⟩)))
   rintro f w ⟨b5, p, b6, c⟩
   refine Ya (.bool ((d && (decide ((0 : Int) < b))) && (decide (b ≤ 9223372036854775808)))) (eh b6) (wK b2 (cB e0 g (fun b7 g => ?_) fun b7 g => ?_))
   ·refine sR fun _ b8 => Ym (.int .u64 b) (eh p) (yY (ysub e0 rfl) (yY (ycv (k' := .i64) (by kernel_rfl) (by kernel_rfl) e0) (yY (yneg e0) (yY (ysub e0 rfl) (Ya (iV (ws .i64 (wneg .i64 (wc .i64 (ws .u64 b 1))) 1)) e0 (Ya (.bool true) rfl (wK b8 (wp_ret (z _ _ _ (D _ _ _ rfl ?_))))))))))
    cases g
    exact t _ _ _ (fin2r Tryz.results107 ⟨rfl, rfl⟩ ⟨rfl, rfl⟩ ⟨rfl, (c.k10)⟩)
   ·refine sR fun _ b9 => Ym (.int .u64 b) (eh p) (yY (ylss e0 rfl) (Ym (.bool (decide (b < 9223372036854775808))) e0 ?_))
    refine joinW 8 (fun f w => f 5 = .int .u64 b ∧ f 56 = .bool ((decide (b < 9223372036854775808)) && ((!d) || (decide (b = 0)))) ∧ St w0 ros rs w) (fun H => ?_) ?_
    ·rcases Bool.eq_false_or_eq_true (decide (b < 9223372036854775808)) with h | h
     ·refine yG h (yFb FL_27_0 (eh b5)) (yG h (lb_ (.bool d) O_4 e0 c R0) (yG h (ynot e0) (yG h (m_ (.bool (!d)) e0) ?_)))
      refine joinW 3 (fun f w => f 5 = .int .u64 b ∧ f 48 = .bool (decide (b < 9223372036854775808)) ∧ f 55 = .bool ((!d) || (decide (b = 0))) ∧ St w0 ros rs w) (fun I => ?_) ?_
      ·rcases Bool.eq_false_or_eq_true (!d) with k | k
       ·exact gN k (gN k (yG h (pt_ (.bool true) e0 k rfl) (I _ _ ⟨p, rfl, (congrArg Value.bool (orT k)), (c.k10)⟩)))
       ·exact yG k (m_ (.int .u64 b) (eh p)) (yG k (yeql e0 rfl) (yG h (pf_ (.bool (decide (b = 0))) e0 k e0) (I _ _ ⟨p, rfl, (congrArg Value.bool (orF k)), (c.k10)⟩)))
      rintro f w ⟨c0, c1, c2, c⟩
      exact yY (pt_ (.bool ((!d) || (decide (b = 0)))) (eh c1) h (eh c2)) (H _ _ ⟨c0, (congrArg Value.bool (andT h)), c⟩)
     ·exact gN h (gN h (gN h (gN h (Gn (wxu rfl rfl rfl) rfl (Gn (wxu rfl rfl rfl) rfl (gN h (yY (pf_ (.bool false) e0 h rfl) (H _ _ ⟨p, (congrArg Value.bool (andF h)), (c.k10)⟩))))))))
    rintro f w ⟨c3, c4, c⟩
    refine Ya (.bool ((decide (b < 9223372036854775808)) && ((!d) || (decide (b = 0))))) (eh c4) (wK b9 (cB e0 g (fun c5 g => ?_) fun c5 g => ?_))
    ·refine sR fun _ c6 => Ym (.int .u64 b) (eh c3) (yY (ycv (k' := .i64) (by kernel_rfl) (by kernel_rfl) e0) (Ya (iV (wc .i64 b)) e0 (Ya (.bool true) rfl (wK c6 (wp_ret (z _ _ _ (D _ _ _ rfl ?_)))))))
     cases g
     exact t _ _ _ (fin2r Tryz.results107 ⟨rfl, rfl⟩ ⟨rfl, rfl⟩ ⟨rfl, c⟩)
    ·refine wp_skip (z _ _ _ (b1 _ _ (sR fun _ c8 => Ya (iV 0) rfl (Ya (.bool false) rfl (wK c8 (wp_ret ?_))))))
     cases g
     exact t _ _ _ (fin2r Tryz.results107 ⟨rfl, rfl⟩ ⟨rfl, rfl⟩ ⟨rfl, c⟩)
  refine loopQ (fun s a w => ∃ (r o : Int) (f : FV), (r, o) = s ∧ a = fr 59 f ∧ f 1 = (pB n) ∧ f 5 = .int .u64 r ∧ f 14 = q.v ∧ f 15 = iV (C.length : Int) ∧ f 16 = iV o ∧ St w0 (imm (rI .u32) q.v C :: ros) (box n 27 [.bool d, m.v] :: rs) w) a9 ⟨_, _, _, rfl, rfl, rfl, rfl, rfl, rfl, rfl, c⟩ ?_
  rintro _ _ w e4 ⟨r, o, f, rfl, rfl, J, K, L, N, u, c⟩ l c9 e5 d0 d1
  refine sR fun _ d2 => yY (ylss (eh u) (eh N)) (wK d2 (seqQ fun e6 d3 d4 => ?_))
  refine cIf e0 l (fun d5 l => ?_) fun d5 l => ?_
  ·refine wp_skip (d3 _ _ (sQ fun _ d6 => blockQ fun _ d7 => sR fun _ d8 => Ym (iV o) (eh u) (bE l fun O R l => yY (yIa SL_25 (eh L) (eh u) c (rdI F0) R) (yY (yI O_88 e0 c (rdI F0) R) (Ya (iV o) e0 (Ya (.int .u32 O) e0 (wK d8 ?_)))))))
   refine wR (Ym (.int .u64 r) (eh K) (Ym (.int .u32 O) e0 (yY (ycv (k' := .u64) (by kernel_rfl) (by kernel_rfl) e0) (Ym (iV o) e0 (yY (ymul rfl e0) (bE l fun d9 e1 l => yY (yshl e0 e0 e1) (yY (yor e0 e0) (Ya (.int .u64 (wor .u64 r d9)) e0 (wN (d7 _ _ _ (d6 _ _ (wR ?_))))))))))))
   refine yY (yadd (eh u) rfl) (Ym (iV (wa .i64 o 1)) e0 (wN ?_))
   cases l
   exact d0 _ _ _ rfl ⟨_, _, _, rfl, rfl, J, rfl, L, N, rfl, c⟩
  ·refine wp_exit (d4 _ _ _ rfl ?_)
   cases l
   exact d1 _ _ _ _ rfl rfl (b0 _ _ _ J K (c.facts (allT allI)) (c9 _ rfl))
theorem modular_remainder_ok {g : Bool} {x : LI} {p : Int} {h : Hdr} {out : Int} (q : modular_remainder g x p = some out) (j : imm (rI .u32) h.v x ∈ ros) (b : St w0 ros rs w) :
  Calls Tryz.prog 63 #[.agg #[.bool g, h.v], iV p] w (fun e w => e = .returned (iV out) ∧ St w0 ros rs w) := by
 refine enterQ Tryz.func63 rfl Tryz.ntmps63 rfl fun Q y => sR fun _ z => yBb (r_box (vals := [.bool g, h.v]) b e0 rfl) fun F w b => Ya (iV 0) rfl (wK z (sQ fun _ A => bE q fun G r q => bE q fun a k q => ?_))
 refine joinN (n := 24) (fun f w => ∃ (u : Nat) (s : Hdr), f 6 = (pB u) ∧ St w0 (imm (rI .u32) s.v a.2.2.2.1 :: ros) (box u 27 [.bool a.2.2.1, s.v] :: rs) w) (fun i => ?_) ?_
 ·refine dR [0, 0, 2, 7, 15, 31, 31, 31, 0, 0, 831, 1919, 4095] [2, 3, 8, 9, 10, 11, 12] 7 folM ?_
  replace b := b.drew
  refine Dn [0, 1] [] [2, 8, 9] (yR rfl (lbs_ [.bool g, h.v] ST_27 e0 b R0) (yR rfl (m_ (iV p) e0) (Rn QSn ?_)))
  refine Lc rfl ?_ (Lc rfl ?_ (Lc1 rfl ?_))
  ·refine Lk wn (yCall FN_23 (a1 e0)) (integer_FromInt_ok r b) ?_
   rintro _ w ⟨t, rfl, b⟩
   refine ⟨_, rfl, ?_⟩
   refine Dn [] [0] [3, 8, 9] (Rn (yS rfl (lbs_ [.bool g, h.v] ST_27 e0 b R0) QSn) ?_)
   refine Lc rfl ?_ (Lc rfl ?_ (Lc1 rfl ?_))
   ·refine Lk wn (yCall FN_85 (a2 e0 e0)) (integer_DivMod_ok k (mtF j) F0 b) ?_
    rintro _ w ⟨d, c, rfl, b⟩
    refine ⟨_, rfl, ?_⟩
    refine Dn [4, 5, 6, 7] [] [8, 9] (yR rfl (m_ (.tuple #[.agg #[.bool a.1, d.v], .agg #[.bool a.2.2.1, c.v], iV a.2.2.2.2]) e0) (yR rfl (x_ (.agg #[.bool a.1, d.v]) e0) (yR rfl (x_ (.agg #[.bool a.2.2.1, c.v]) e0) (yR rfl (x_ (iV a.2.2.2.2) e0) (Rn QSn ?_)))))
    refine Lc rfl ?_ (Lc1 rfl ?_)
    ·refine LB wn (rAl b ZT_27) fun l w b => Dn [] [4, 5, 6, 7] [9] (Rn (yS rfl (m_ (.tuple #[.agg #[.bool a.1, d.v], .agg #[.bool a.2.2.1, c.v], iV a.2.2.2.2]) e0) (yS rfl (x_ (.agg #[.bool a.1, d.v]) e0) (yS rfl (x_ (.agg #[.bool a.2.2.1, c.v]) e0) (yS rfl (x_ (iV a.2.2.2.2) e0) QSn)))) ?_)
     refine Lc1 rfl ?_
     refine LB wn (rAl b ZT_27) fun m w b => Dn [] [4, 5, 6, 7] [10] (Rn (yS rfl (m_ (.tuple #[.agg #[.bool a.1, d.v], .agg #[.bool a.2.2.1, c.v], iV a.2.2.2.2]) e0) (yS rfl (x_ (.agg #[.bool a.1, d.v]) e0) (yS rfl (x_ (.agg #[.bool a.2.2.1, c.v]) e0) (yS rfl (x_ (iV a.2.2.2.2) e0) QSn)))) ?_)
     refine Lc1 rfl ?_
     replace b := b.k11
     refine LT wn (r_stbn (vals' := [.bool a.1, d.v]) (us := [.bool a.1, d.v]) b ST_27 e0 e0 rfl rfl (one_of rfl) rfl) fun w b => Dn [] [6, 7] [11] (Rn (yS rfl (x_ (.agg #[.bool a.2.2.1, c.v]) e0) (yS rfl (x_ (iV a.2.2.2.2) e0) QSn)) ?_)
     refine Lc1 rfl ?_
     replace b := b.k11
     refine LT wn (r_stbn (vals' := [.bool a.2.2.1, c.v]) (us := [.bool a.2.2.1, c.v]) b ST_27 e0 e0 rfl rfl (one_of rfl) rfl) fun w b => Dn [] [7] [12] (Rn (yS rfl (x_ (iV a.2.2.2.2) e0) QSn) ?_)
     refine Lc1 rfl ?_
     exact Ly wn (a_ (iV a.2.2.2.2) e0) (Dz [] [] (Rn QSn (i _ _ ⟨_, _, rfl, ((b.k17).facts (allC F1 (allT (allT (allT allI)))))⟩)))
    ·refine LB wn (rAl b ZT_27) fun m w b => Dn [] [4, 5, 6, 7] [8] (Rn (yS rfl (m_ (.tuple #[.agg #[.bool a.1, d.v], .agg #[.bool a.2.2.1, c.v], iV a.2.2.2.2]) e0) (yS rfl (x_ (.agg #[.bool a.1, d.v]) e0) (yS rfl (x_ (.agg #[.bool a.2.2.1, c.v]) e0) (yS rfl (x_ (iV a.2.2.2.2) e0) QSn)))) ?_)
     refine Lc1 rfl ?_
     refine LB wn (rAl b ZT_27) fun l w b => Dn [] [4, 5, 6, 7] [10] (Rn (yS rfl (m_ (.tuple #[.agg #[.bool a.1, d.v], .agg #[.bool a.2.2.1, c.v], iV a.2.2.2.2]) e0) (yS rfl (x_ (.agg #[.bool a.1, d.v]) e0) (yS rfl (x_ (.agg #[.bool a.2.2.1, c.v]) e0) (yS rfl (x_ (iV a.2.2.2.2) e0) QSn)))) ?_)
     refine Lc1 rfl ?_
     refine LT wn (r_stbn (vals' := [.bool a.1, d.v]) (us := [.bool a.1, d.v]) b ST_27 e0 e0 rfl rfl (one_of rfl) rfl) fun w b => Dn [] [6, 7] [11] (Rn (yS rfl (x_ (.agg #[.bool a.2.2.1, c.v]) e0) (yS rfl (x_ (iV a.2.2.2.2) e0) QSn)) ?_)
     refine Lc1 rfl ?_
     replace b := b.k11
     refine LT wn (r_stbn (vals' := [.bool a.2.2.1, c.v]) (us := [.bool a.2.2.1, c.v]) b ST_27 e0 e0 rfl rfl (one_of rfl) rfl) fun w b => Dn [] [7] [12] (Rn (yS rfl (x_ (iV a.2.2.2.2) e0) QSn) ?_)
     refine Lc1 rfl ?_
     exact Ly wn (a_ (iV a.2.2.2.2) e0) (Dz [] [] (Rn QSn (i _ _ ⟨_, _, rfl, ((b.k17).facts (allC F1 (allT (allT (allT allI)))))⟩)))
   ·refine LB wn (rAl b ZT_27) fun l w b => Dn [] [0] [3, 9] (Rn (yS rfl (lbs_ [.bool g, h.v] ST_27 e0 b R1) QSn) ?_)
    refine Lc rfl ?_ (Lc1 rfl ?_)
    ·refine Lk wn (yCall FN_85 (a2 e0 e0)) (integer_DivMod_ok k (mtF j) F0 b) ?_
     rintro _ w ⟨d, c, rfl, b⟩
     refine ⟨_, rfl, ?_⟩
     refine Dn [4, 5, 6, 7] [] [9] (yR rfl (m_ (.tuple #[.agg #[.bool a.1, d.v], .agg #[.bool a.2.2.1, c.v], iV a.2.2.2.2]) e0) (yR rfl (x_ (.agg #[.bool a.1, d.v]) e0) (yR rfl (x_ (.agg #[.bool a.2.2.1, c.v]) e0) (yR rfl (x_ (iV a.2.2.2.2) e0) (Rn QSn ?_)))))
     refine Lc1 rfl ?_
     refine LB wn (rAl b ZT_27) fun m w b => Dn [] [4, 5, 6, 7] [10] (Rn (yS rfl (m_ (.tuple #[.agg #[.bool a.1, d.v], .agg #[.bool a.2.2.1, c.v], iV a.2.2.2.2]) e0) (yS rfl (x_ (.agg #[.bool a.1, d.v]) e0) (yS rfl (x_ (.agg #[.bool a.2.2.1, c.v]) e0) (yS rfl (x_ (iV a.2.2.2.2) e0) QSn)))) ?_)
     refine Lc1 rfl ?_
     replace b := b.k11
     refine LT wn (r_stbn (vals' := [.bool a.1, d.v]) (us := [.bool a.1, d.v]) b ST_27 e0 e0 rfl rfl (one_of rfl) rfl) fun w b => Dn [] [6, 7] [11] (Rn (yS rfl (x_ (.agg #[.bool a.2.2.1, c.v]) e0) (yS rfl (x_ (iV a.2.2.2.2) e0) QSn)) ?_)
     refine Lc1 rfl ?_
     replace b := b.k11
     refine LT wn (r_stbn (vals' := [.bool a.2.2.1, c.v]) (us := [.bool a.2.2.1, c.v]) b ST_27 e0 e0 rfl rfl (one_of rfl) rfl) fun w b => Dn [] [7] [12] (Rn (yS rfl (x_ (iV a.2.2.2.2) e0) QSn) ?_)
     refine Lc1 rfl ?_
     exact Ly wn (a_ (iV a.2.2.2.2) e0) (Dz [] [] (Rn QSn (i _ _ ⟨_, _, rfl, ((b.k17).facts (allC F1 (allT (allT (allT allI)))))⟩)))
    ·refine LB wn (rAl b ZT_27) fun m w b => Dn [] [0] [3] (Rn (yS rfl (lbs_ [.bool g, h.v] ST_27 e0 b R2) QSn) ?_)
     refine Lc1 rfl ?_
     refine Lk wn (yCall FN_85 (a2 e0 e0)) (integer_DivMod_ok k (mtF j) F0 b) ?_
     rintro _ w ⟨d, c, rfl, b⟩
     refine ⟨_, rfl, ?_⟩
     refine Dn [4, 5, 6, 7] [] [10] (yR rfl (m_ (.tuple #[.agg #[.bool a.1, d.v], .agg #[.bool a.2.2.1, c.v], iV a.2.2.2.2]) e0) (yR rfl (x_ (.agg #[.bool a.1, d.v]) e0) (yR rfl (x_ (.agg #[.bool a.2.2.1, c.v]) e0) (yR rfl (x_ (iV a.2.2.2.2) e0) (Rn QSn ?_)))))
     refine Lc1 rfl ?_
     replace b := b.k11
     refine LT wn (r_stbn (vals' := [.bool a.1, d.v]) (us := [.bool a.1, d.v]) b ST_27 e0 e0 rfl rfl (one_of rfl) rfl) fun w b => Dn [] [6, 7] [11] (Rn (yS rfl (x_ (.agg #[.bool a.2.2.1, c.v]) e0) (yS rfl (x_ (iV a.2.2.2.2) e0) QSn)) ?_)
     refine Lc1 rfl ?_
     replace b := b.k11
     refine LT wn (r_stbn (vals' := [.bool a.2.2.1, c.v]) (us := [.bool a.2.2.1, c.v]) b ST_27 e0 e0 rfl rfl (one_of rfl) rfl) fun w b => Dn [] [7] [12] (Rn (yS rfl (x_ (iV a.2.2.2.2) e0) QSn) ?_)
     refine Lc1 rfl ?_
     exact Ly wn (a_ (iV a.2.2.2.2) e0) (Dz [] [] (Rn QSn (i _ _ ⟨_, _, rfl, ((b.k17).facts (allC F1 (allT (allT (allT allI)))))⟩)))
   ·refine LB wn (rAl b ZT_27) fun m w b => Dn [] [0] [3, 8] (Rn (yS rfl (lbs_ [.bool g, h.v] ST_27 e0 b R1) QSn) ?_)
    refine Lc rfl ?_ (Lc1 rfl ?_)
    ·refine Lk wn (yCall FN_85 (a2 e0 e0)) (integer_DivMod_ok k (mtF j) F0 b) ?_
     rintro _ w ⟨d, c, rfl, b⟩
     refine ⟨_, rfl, ?_⟩
     refine Dn [4, 5, 6, 7] [] [8] (yR rfl (m_ (.tuple #[.agg #[.bool a.1, d.v], .agg #[.bool a.2.2.1, c.v], iV a.2.2.2.2]) e0) (yR rfl (x_ (.agg #[.bool a.1, d.v]) e0) (yR rfl (x_ (.agg #[.bool a.2.2.1, c.v]) e0) (yR rfl (x_ (iV a.2.2.2.2) e0) (Rn QSn ?_)))))
     refine Lc1 rfl ?_
     refine LB wn (rAl b ZT_27) fun l w b => Dn [] [4, 5, 6, 7] [10] (Rn (yS rfl (m_ (.tuple #[.agg #[.bool a.1, d.v], .agg #[.bool a.2.2.1, c.v], iV a.2.2.2.2]) e0) (yS rfl (x_ (.agg #[.bool a.1, d.v]) e0) (yS rfl (x_ (.agg #[.bool a.2.2.1, c.v]) e0) (yS rfl (x_ (iV a.2.2.2.2) e0) QSn)))) ?_)
     refine Lc1 rfl ?_
     refine LT wn (r_stbn (vals' := [.bool a.1, d.v]) (us := [.bool a.1, d.v]) b ST_27 e0 e0 rfl rfl (one_of rfl) rfl) fun w b => Dn [] [6, 7] [11] (Rn (yS rfl (x_ (.agg #[.bool a.2.2.1, c.v]) e0) (yS rfl (x_ (iV a.2.2.2.2) e0) QSn)) ?_)
     refine Lc1 rfl ?_
     replace b := b.k11
     refine LT wn (r_stbn (vals' := [.bool a.2.2.1, c.v]) (us := [.bool a.2.2.1, c.v]) b ST_27 e0 e0 rfl rfl (one_of rfl) rfl) fun w b => Dn [] [7] [12] (Rn (yS rfl (x_ (iV a.2.2.2.2) e0) QSn) ?_)
     refine Lc1 rfl ?_
     exact Ly wn (a_ (iV a.2.2.2.2) e0) (Dz [] [] (Rn QSn (i _ _ ⟨_, _, rfl, ((b.k17).facts (allC F1 (allT (allT (allT allI)))))⟩)))
    ·refine LB wn (rAl b ZT_27) fun l w b => Dn [] [0] [3] (Rn (yS rfl (lbs_ [.bool g, h.v] ST_27 e0 b R2) QSn) ?_)
     refine Lc1 rfl ?_
     refine Lk wn (yCall FN_85 (a2 e0 e0)) (integer_DivMod_ok k (mtF j) F0 b) ?_
     rintro _ w ⟨d, c, rfl, b⟩
     refine ⟨_, rfl, ?_⟩
     refine Dn [4, 5, 6, 7] [] [10] (yR rfl (m_ (.tuple #[.agg #[.bool a.1, d.v], .agg #[.bool a.2.2.1, c.v], iV a.2.2.2.2]) e0) (yR rfl (x_ (.agg #[.bool a.1, d.v]) e0) (yR rfl (x_ (.agg #[.bool a.2.2.1, c.v]) e0) (yR rfl (x_ (iV a.2.2.2.2) e0) (Rn QSn ?_)))))
     refine Lc1 rfl ?_
     refine LT wn (r_stbn (vals' := [.bool a.1, d.v]) (us := [.bool a.1, d.v]) b ST_27 e0 e0 rfl rfl (one_of rfl) rfl) fun w b => Dn [] [6, 7] [11] (Rn (yS rfl (x_ (.agg #[.bool a.2.2.1, c.v]) e0) (yS rfl (x_ (iV a.2.2.2.2) e0) QSn)) ?_)
     refine Lc1 rfl ?_
     replace b := b.k11
     refine LT wn (r_stbn (vals' := [.bool a.2.2.1, c.v]) (us := [.bool a.2.2.1, c.v]) b ST_27 e0 e0 rfl rfl (one_of rfl) rfl) fun w b => Dn [] [7] [12] (Rn (yS rfl (x_ (iV a.2.2.2.2) e0) QSn) ?_)
     refine Lc1 rfl ?_
     exact Ly wn (a_ (iV a.2.2.2.2) e0) (Dz [] [] (Rn QSn (i _ _ ⟨_, _, rfl, ((b.k17).facts (allC F1 (allT (allT (allT allI)))))⟩)))
  ·refine LB wn (rAl b ZT_27) fun l w b => Dn [] [0, 1] [2, 9] (Rn (yS rfl (lbs_ [.bool g, h.v] ST_27 e0 b R1) (yS rfl (m_ (iV p) e0) QSn)) ?_)
   refine Lc rfl ?_ (Lc1 rfl ?_)
   ·refine Lk wn (yCall FN_23 (a1 e0)) (integer_FromInt_ok r b) ?_
    rintro _ w ⟨t, rfl, b⟩
    refine ⟨_, rfl, ?_⟩
    refine Dn [] [0] [3, 9] (Rn (yS rfl (lbs_ [.bool g, h.v] ST_27 e0 b R1) QSn) ?_)
    refine Lc rfl ?_ (Lc1 rfl ?_)
    ·refine Lk wn (yCall FN_85 (a2 e0 e0)) (integer_DivMod_ok k (mtF j) F0 b) ?_
     rintro _ w ⟨d, c, rfl, b⟩
     refine ⟨_, rfl, ?_⟩
     refine Dn [4, 5, 6, 7] [] [9] (yR rfl (m_ (.tuple #[.agg #[.bool a.1, d.v], .agg #[.bool a.2.2.1, c.v], iV a.2.2.2.2]) e0) (yR rfl (x_ (.agg #[.bool a.1, d.v]) e0) (yR rfl (x_ (.agg #[.bool a.2.2.1, c.v]) e0) (yR rfl (x_ (iV a.2.2.2.2) e0) (Rn QSn ?_)))))
     refine Lc1 rfl ?_
     refine LB wn (rAl b ZT_27) fun m w b => Dn [] [4, 5, 6, 7] [10] (Rn (yS rfl (m_ (.tuple #[.agg #[.bool a.1, d.v], .agg #[.bool a.2.2.1, c.v], iV a.2.2.2.2]) e0) (yS rfl (x_ (.agg #[.bool a.1, d.v]) e0) (yS rfl (x_ (.agg #[.bool a.2.2.1, c.v]) e0) (yS rfl (x_ (iV a.2.2.2.2) e0) QSn)))) ?_)
     refine Lc1 rfl ?_
     replace b := b.k11
     refine LT wn (r_stbn (vals' := [.bool a.1, d.v]) (us := [.bool a.1, d.v]) b ST_27 e0 e0 rfl rfl (one_of rfl) rfl) fun w b => Dn [] [6, 7] [11] (Rn (yS rfl (x_ (.agg #[.bool a.2.2.1, c.v]) e0) (yS rfl (x_ (iV a.2.2.2.2) e0) QSn)) ?_)
     refine Lc1 rfl ?_
     replace b := b.k11
     refine LT wn (r_stbn (vals' := [.bool a.2.2.1, c.v]) (us := [.bool a.2.2.1, c.v]) b ST_27 e0 e0 rfl rfl (one_of rfl) rfl) fun w b => Dn [] [7] [12] (Rn (yS rfl (x_ (iV a.2.2.2.2) e0) QSn) ?_)
     refine Lc1 rfl ?_
     exact Ly wn (a_ (iV a.2.2.2.2) e0) (Dz [] [] (Rn QSn (i _ _ ⟨_, _, rfl, ((b.k17).facts (allC F1 (allT (allT (allT allI)))))⟩)))
    ·refine LB wn (rAl b ZT_27) fun m w b => Dn [] [0] [3] (Rn (yS rfl (lbs_ [.bool g, h.v] ST_27 e0 b R2) QSn) ?_)
     refine Lc1 rfl ?_
     refine Lk wn (yCall FN_85 (a2 e0 e0)) (integer_DivMod_ok k (mtF j) F0 b) ?_
     rintro _ w ⟨d, c, rfl, b⟩
     refine ⟨_, rfl, ?_⟩
     refine Dn [4, 5, 6, 7] [] [10] (yR rfl (m_ (.tuple #[.agg #[.bool a.1, d.v], .agg #[.bool a.2.2.1, c.v], iV a.2.2.2.2]) e0) (yR rfl (x_ (.agg #[.bool a.1, d.v]) e0) (yR rfl (x_ (.agg #[.bool a.2.2.1, c.v]) e0) (yR rfl (x_ (iV a.2.2.2.2) e0) (Rn QSn ?_)))))
     refine Lc1 rfl ?_
     replace b := b.k11
     refine LT wn (r_stbn (vals' := [.bool a.1, d.v]) (us := [.bool a.1, d.v]) b ST_27 e0 e0 rfl rfl (one_of rfl) rfl) fun w b => Dn [] [6, 7] [11] (Rn (yS rfl (x_ (.agg #[.bool a.2.2.1, c.v]) e0) (yS rfl (x_ (iV a.2.2.2.2) e0) QSn)) ?_)
     refine Lc1 rfl ?_
     replace b := b.k11
     refine LT wn (r_stbn (vals' := [.bool a.2.2.1, c.v]) (us := [.bool a.2.2.1, c.v]) b ST_27 e0 e0 rfl rfl (one_of rfl) rfl) fun w b => Dn [] [7] [12] (Rn (yS rfl (x_ (iV a.2.2.2.2) e0) QSn) ?_)
     refine Lc1 rfl ?_
     exact Ly wn (a_ (iV a.2.2.2.2) e0) (Dz [] [] (Rn QSn (i _ _ ⟨_, _, rfl, ((b.k17).facts (allC F1 (allT (allT (allT allI)))))⟩)))
   ·refine LB wn (rAl b ZT_27) fun m w b => Dn [] [0, 1] [2] (Rn (yS rfl (lbs_ [.bool g, h.v] ST_27 e0 b R2) (yS rfl (m_ (iV p) e0) QSn)) ?_)
    refine Lc1 rfl ?_
    refine Lk wn (yCall FN_23 (a1 e0)) (integer_FromInt_ok r b) ?_
    rintro _ w ⟨t, rfl, b⟩
    refine ⟨_, rfl, ?_⟩
    refine Dn [] [0] [3] (Rn (yS rfl (lbs_ [.bool g, h.v] ST_27 e0 b R2) QSn) ?_)
    refine Lc1 rfl ?_
    refine Lk wn (yCall FN_85 (a2 e0 e0)) (integer_DivMod_ok k (mtF j) F0 b) ?_
    rintro _ w ⟨d, c, rfl, b⟩
    refine ⟨_, rfl, ?_⟩
    refine Dn [4, 5, 6, 7] [] [10] (yR rfl (m_ (.tuple #[.agg #[.bool a.1, d.v], .agg #[.bool a.2.2.1, c.v], iV a.2.2.2.2]) e0) (yR rfl (x_ (.agg #[.bool a.1, d.v]) e0) (yR rfl (x_ (.agg #[.bool a.2.2.1, c.v]) e0) (yR rfl (x_ (iV a.2.2.2.2) e0) (Rn QSn ?_)))))
    refine Lc1 rfl ?_
    replace b := b.k11
    refine LT wn (r_stbn (vals' := [.bool a.1, d.v]) (us := [.bool a.1, d.v]) b ST_27 e0 e0 rfl rfl (one_of rfl) rfl) fun w b => Dn [] [6, 7] [11] (Rn (yS rfl (x_ (.agg #[.bool a.2.2.1, c.v]) e0) (yS rfl (x_ (iV a.2.2.2.2) e0) QSn)) ?_)
    refine Lc1 rfl ?_
    replace b := b.k11
    refine LT wn (r_stbn (vals' := [.bool a.2.2.1, c.v]) (us := [.bool a.2.2.1, c.v]) b ST_27 e0 e0 rfl rfl (one_of rfl) rfl) fun w b => Dn [] [7] [12] (Rn (yS rfl (x_ (iV a.2.2.2.2) e0) QSn) ?_)
    refine Lc1 rfl ?_
    exact Ly wn (a_ (iV a.2.2.2.2) e0) (Dz [] [] (Rn QSn (i _ _ ⟨_, _, rfl, ((b.k17).facts (allC F1 (allT (allT (allT allI)))))⟩)))
  ·refine LB wn (rAl b ZT_27) fun m w b => Dn [] [0, 1] [2, 8] (Rn (yS rfl (lbs_ [.bool g, h.v] ST_27 e0 b R1) (yS rfl (m_ (iV p) e0) QSn)) ?_)
   refine Lc rfl ?_ (Lc1 rfl ?_)
   ·refine Lk wn (yCall FN_23 (a1 e0)) (integer_FromInt_ok r b) ?_
    rintro _ w ⟨t, rfl, b⟩
    refine ⟨_, rfl, ?_⟩
    refine Dn [] [0] [3, 8] (Rn (yS rfl (lbs_ [.bool g, h.v] ST_27 e0 b R1) QSn) ?_)
    refine Lc rfl ?_ (Lc1 rfl ?_)
    ·refine Lk wn (yCall FN_85 (a2 e0 e0)) (integer_DivMod_ok k (mtF j) F0 b) ?_
     rintro _ w ⟨d, c, rfl, b⟩
     refine ⟨_, rfl, ?_⟩
     refine Dn [4, 5, 6, 7] [] [8] (yR rfl (m_ (.tuple #[.agg #[.bool a.1, d.v], .agg #[.bool a.2.2.1, c.v], iV a.2.2.2.2]) e0) (yR rfl (x_ (.agg #[.bool a.1, d.v]) e0) (yR rfl (x_ (.agg #[.bool a.2.2.1, c.v]) e0) (yR rfl (x_ (iV a.2.2.2.2) e0) (Rn QSn ?_)))))
     refine Lc1 rfl ?_
     refine LB wn (rAl b ZT_27) fun l w b => Dn [] [4, 5, 6, 7] [10] (Rn (yS rfl (m_ (.tuple #[.agg #[.bool a.1, d.v], .agg #[.bool a.2.2.1, c.v], iV a.2.2.2.2]) e0) (yS rfl (x_ (.agg #[.bool a.1, d.v]) e0) (yS rfl (x_ (.agg #[.bool a.2.2.1, c.v]) e0) (yS rfl (x_ (iV a.2.2.2.2) e0) QSn)))) ?_)
     refine Lc1 rfl ?_
     refine LT wn (r_stbn (vals' := [.bool a.1, d.v]) (us := [.bool a.1, d.v]) b ST_27 e0 e0 rfl rfl (one_of rfl) rfl) fun w b => Dn [] [6, 7] [11] (Rn (yS rfl (x_ (.agg #[.bool a.2.2.1, c.v]) e0) (yS rfl (x_ (iV a.2.2.2.2) e0) QSn)) ?_)
     refine Lc1 rfl ?_
     replace b := b.k11
     refine LT wn (r_stbn (vals' := [.bool a.2.2.1, c.v]) (us := [.bool a.2.2.1, c.v]) b ST_27 e0 e0 rfl rfl (one_of rfl) rfl) fun w b => Dn [] [7] [12] (Rn (yS rfl (x_ (iV a.2.2.2.2) e0) QSn) ?_)
     refine Lc1 rfl ?_
     exact Ly wn (a_ (iV a.2.2.2.2) e0) (Dz [] [] (Rn QSn (i _ _ ⟨_, _, rfl, ((b.k17).facts (allC F1 (allT (allT (allT allI)))))⟩)))
    ·refine LB wn (rAl b ZT_27) fun l w b => Dn [] [0] [3] (Rn (yS rfl (lbs_ [.bool g, h.v] ST_27 e0 b R2) QSn) ?_)
     refine Lc1 rfl ?_
     refine Lk wn (yCall FN_85 (a2 e0 e0)) (integer_DivMod_ok k (mtF j) F0 b) ?_
     rintro _ w ⟨d, c, rfl, b⟩
     refine ⟨_, rfl, ?_⟩
     refine Dn [4, 5, 6, 7] [] [10] (yR rfl (m_ (.tuple #[.agg #[.bool a.1, d.v], .agg #[.bool a.2.2.1, c.v], iV a.2.2.2.2]) e0) (yR rfl (x_ (.agg #[.bool a.1, d.v]) e0) (yR rfl (x_ (.agg #[.bool a.2.2.1, c.v]) e0) (yR rfl (x_ (iV a.2.2.2.2) e0) (Rn QSn ?_)))))
     refine Lc1 rfl ?_
     refine LT wn (r_stbn (vals' := [.bool a.1, d.v]) (us := [.bool a.1, d.v]) b ST_27 e0 e0 rfl rfl (one_of rfl) rfl) fun w b => Dn [] [6, 7] [11] (Rn (yS rfl (x_ (.agg #[.bool a.2.2.1, c.v]) e0) (yS rfl (x_ (iV a.2.2.2.2) e0) QSn)) ?_)
     refine Lc1 rfl ?_
     replace b := b.k11
     refine LT wn (r_stbn (vals' := [.bool a.2.2.1, c.v]) (us := [.bool a.2.2.1, c.v]) b ST_27 e0 e0 rfl rfl (one_of rfl) rfl) fun w b => Dn [] [7] [12] (Rn (yS rfl (x_ (iV a.2.2.2.2) e0) QSn) ?_)
     refine Lc1 rfl ?_
     exact Ly wn (a_ (iV a.2.2.2.2) e0) (Dz [] [] (Rn QSn (i _ _ ⟨_, _, rfl, ((b.k17).facts (allC F1 (allT (allT (allT allI)))))⟩)))
   ·refine LB wn (rAl b ZT_27) fun l w b => Dn [] [0, 1] [2] (Rn (yS rfl (lbs_ [.bool g, h.v] ST_27 e0 b R2) (yS rfl (m_ (iV p) e0) QSn)) ?_)
    refine Lc1 rfl ?_
    refine Lk wn (yCall FN_23 (a1 e0)) (integer_FromInt_ok r b) ?_
    rintro _ w ⟨t, rfl, b⟩
    refine ⟨_, rfl, ?_⟩
    refine Dn [] [0] [3] (Rn (yS rfl (lbs_ [.bool g, h.v] ST_27 e0 b R2) QSn) ?_)
    refine Lc1 rfl ?_
    refine Lk wn (yCall FN_85 (a2 e0 e0)) (integer_DivMod_ok k (mtF j) F0 b) ?_
    rintro _ w ⟨d, c, rfl, b⟩
    refine ⟨_, rfl, ?_⟩
    refine Dn [4, 5, 6, 7] [] [10] (yR rfl (m_ (.tuple #[.agg #[.bool a.1, d.v], .agg #[.bool a.2.2.1, c.v], iV a.2.2.2.2]) e0) (yR rfl (x_ (.agg #[.bool a.1, d.v]) e0) (yR rfl (x_ (.agg #[.bool a.2.2.1, c.v]) e0) (yR rfl (x_ (iV a.2.2.2.2) e0) (Rn QSn ?_)))))
    refine Lc1 rfl ?_
    refine LT wn (r_stbn (vals' := [.bool a.1, d.v]) (us := [.bool a.1, d.v]) b ST_27 e0 e0 rfl rfl (one_of rfl) rfl) fun w b => Dn [] [6, 7] [11] (Rn (yS rfl (x_ (.agg #[.bool a.2.2.1, c.v]) e0) (yS rfl (x_ (iV a.2.2.2.2) e0) QSn)) ?_)
    refine Lc1 rfl ?_
    replace b := b.k11
    refine LT wn (r_stbn (vals' := [.bool a.2.2.1, c.v]) (us := [.bool a.2.2.1, c.v]) b ST_27 e0 e0 rfl rfl (one_of rfl) rfl) fun w b => Dn [] [7] [12] (Rn (yS rfl (x_ (iV a.2.2.2.2) e0) QSn) ?_)
    refine Lc1 rfl ?_
    exact Ly wn (a_ (iV a.2.2.2.2) e0) (Dz [] [] (Rn QSn (i _ _ ⟨_, _, rfl, ((b.k17).facts (allC F1 (allT (allT (allT allI)))))⟩)))
 rintro f w ⟨u, s, B, b⟩
 refine A _ _ (sR fun _ C => yY (lbs_ [.bool a.2.2.1, s.v] ST_27 (eh B) b R0) (bE q fun o D q => yC (yCall FN_107 (a1 e0)) (integer_Int_ok D F0 b) ?_))
 rintro _ w ⟨rfl, b⟩
 refine ⟨_, rfl, ?_⟩
 refine Ym (.tuple #[iV o.1, .bool o.2]) e0 (yY (x_ (iV o.1) e0) (yY (x_ (.bool o.2) e0) (Ya (iV o.1) e0 (Ya (.bool o.2) e0 (wK C (sR fun _ E => Ym (iV o.1) e0 (Ya (iV o.1) e0 (wK E (wp_ret ?_)))))))))
 cases q
 exact y _ _ _ (fin1r Tryz.results63 ⟨rfl, rfl⟩ ⟨rfl, ((b.k10).facts (allT allI))⟩)
theorem modular_Reduce_ok {c : Bool} {h : LI} {d : Int} {f : Hdr} {out : Int × Int} (a : modular_Reduce c h d = some out) (j : imm (rI .u32) f.v h ∈ ros) (b : St w0 ros rs w) :
  Calls Tryz.prog 19 #[.agg #[.bool c, f.v], iV d] w (fun e w => e = .returned (.tuple #[iV out.1, iV out.2]) ∧ St w0 ros rs w) := by
 refine enterQ Tryz.func19 rfl Tryz.ntmps19 rfl fun Q i => sR fun _ k => yBb (r_box (vals := [.bool c, f.v]) b e0 rfl) fun t w b => Ya (iV 0) rfl (Ya (iV 0) rfl (wK k (seqQ fun u l m => sR fun _ n => Ym (iV d) e0 (bE a fun x o a => ?_))))
 refine yC (yCall FN_24 (a1 e0)) (modular_IsPrime_ok o b) ?_
 rintro _ w ⟨rfl, b⟩
 refine ⟨_, rfl, ?_⟩
 refine yY (ynot e0) (wK n ?_)
 rcases iteS a with ⟨g, a⟩ | ⟨g, a⟩
 ·refine condF e0 (nF g) (wp_skip (l _ _ (sR fun _ p => yY (lbs_ [.bool c, f.v] ST_27 e0 b R0) (Ym (iV d) e0 (bE a fun q r a => yC (yCall FN_63 (a2 e0 e0)) (modular_remainder_ok r j b) ?_)))))
  rintro _ w ⟨rfl, b⟩
  refine ⟨_, rfl, ?_⟩
  refine Ya (iV q) e0 (Ya (iV 0) rfl (wK p (wp_ret ?_)))
  cases a
  exact i _ _ _ (fin2r Tryz.results19 ⟨rfl, rfl⟩ ⟨rfl, rfl⟩ ⟨rfl, (b.k10)⟩)
 ·refine condT e0 (nT (bfalse g)) (sR fun _ s => Ya (iV 0) rfl (Ya (iV 70) rfl (wK s (wp_ret (m _ _ _ rfl ?_)))))
  cases a
  exact i _ _ _ (fin2r Tryz.results19 ⟨rfl, rfl⟩ ⟨rfl, rfl⟩ ⟨rfl, (b.k10)⟩)
theorem sparsekit_Place_ok {a b out : Int} (c : sparsekit_Place a b = some out) (d : St w0 ros rs w) :
  Calls Tryz.prog 20 #[iV a, iV b] w (fun e w => e = .returned (iV out) ∧ St w0 ros rs w) := by
 refine enterQ Tryz.func20 rfl Tryz.ntmps20 rfl fun Q f => sR fun _ g => Ya (iV 0) rfl (wK g (sR fun _ h => Ym (iV a) e0 (yY (ycv (k' := .u64) (by kernel_rfl) (by kernel_rfl) e0) (Ym (iV b) e0 (yY (ycv (k' := .u64) (by kernel_rfl) (by kernel_rfl) e0) (bE c fun i j c => yY (yrem e0 e0 j) ?_))))))
 refine yY (ycv (k' := .i64) (by kernel_rfl) (by kernel_rfl) e0) (Ya (iV (wc .i64 i)) e0 (wK h (wp_ret ?_)))
 cases c
 exact f _ _ _ (fin1r Tryz.results20 ⟨rfl, rfl⟩ ⟨rfl, d⟩)
end Go.Proofs.YtnfamnfdndaekaaGreatDoor
