/- Walks: each function computes its model, printed. -/
import Derived.Test.YtpfmbaidflhamaaGreatDoorW2
namespace Go.Proofs.YtpfmbaidflhamaaGreatDoor
open Go Sx M
set_option maxRecDepth 100000
set_option maxHeartbeats 40000000
set_option linter.unusedVariables false
attribute [local irreducible] wpList Code.wp Calls DR QR QS LA LS St
variable {w0 : World} {ros : List Fact} {rs : List Res} {w : World}
theorem integer_down_ok {u : LI} {d : Int} {h : Hdr} {out : LI × Bool} (c : integer_down u d = some out) (k : imm (rI .u32) h.v u ∈ ros) (b : St w0 ros rs w) :
  Calls Tryz.prog 129 #[h.v, iV d] w (fun e w => ∃ (C : Hdr), e = .returned (.tuple #[C.v, .bool out.2]) ∧ St w0 (imm (rI .u32) C.v out.1 :: ros) rs w) := by
 refine enterQ Tryz.func129 rfl Tryz.ntmps129 rfl fun Q D => sR fun _ k1 => Ya hnil.v rfl (Ya (.bool false) rfl (wK k1 (sR fun _ U => Ym (iV d) e0 (yY (yquoc e0 rfl (by decide)) (Ym (iV d) e0 (yY (yremc e0 rfl (by decide)) (yY (ycv (k' := .u64) (by kernel_rfl) (by kernel_rfl) e0) ?_)))))))
 refine Ya (iV (wqc .i64 d 32)) e0 (Ya (.int .u64 (wc .u64 (wrc d 32))) e0 (wK U (seqQ fun f3 V W => sR fun _ X => Ym (iV (wqc .i64 d 32)) e0 (Ym h.v e0 (yY (yLen SL_29 e0 b (rdI k)) (yY (ygeq e0 e0) (wK X ?_)))))))
 refine cIf e0 c (fun Z c => ?_) fun Z c => ?_
 ·refine sR fun _ a0 => Ym h.v e0 (yY (yLen SL_29 e0 b (rdI k)) (yY (ygtr e0 rfl) (Ya hnil.v rfl (Ya (.bool (decide ((0 : Int) < (u.length : Int)))) e0 (wK a0 (wp_ret (W _ _ _ rfl ?_)))))))
  cases c
  replace b := b.immNh (rI .u32)
  exact D _ _ _ (fin2r Tryz.results129 ⟨rfl, rfl⟩ ⟨rfl, rfl⟩ ⟨_, rfl, b⟩)
 ·refine wp_skip (V _ _ (sR fun _ a3 => Ym h.v e0 (Ym (iV (wqc .i64 d 32)) e0 (bE c fun f4 E c => yY (ySl (k1 := .i64) SL_29 e0 b (rdI k) (.inr ⟨rfl, rfl⟩) (.inl (congrArg some e0)) E) ?_))))
  replace b := b.sub k E
  refine bE c fun a4 a5 c => yC (yCall FN_148 (a2 e0 rfl)) (slices_ContainsFunc_uint32_ok a5 F0 b) ?_
  rintro _ w ⟨rfl, b⟩
  refine ⟨_, rfl, ?_⟩
  refine Ym (.bool a4) e0 (bE c fun n m c => ?_)
  refine joinW 10 (fun f w => f 0 = h.v ∧ f 6 = iV (wqc .i64 d 32) ∧ f 7 = .int .u64 (wc .u64 (wrc d 32)) ∧ f 38 = .bool n ∧ St w0 ros rs w) (fun F => ?_) ?_
  ·rcases iteS m with ⟨g, m⟩ | ⟨g, m⟩
   ·refine gN g (gN g (gN g (gN g (gN g (gN g (gN g (gN g (gN g (yY (pt_ (.bool true) e0 g rfl) ?_)))))))))
    cases m
    exact F _ _ ⟨rfl, rfl, rfl, rfl, (b.facts (allT allI))⟩
   ·refine yG (bfalse g) (m_ h.v e0) (yG (bfalse g) (m_ (iV (wqc .i64 d 32)) e0) (bE m fun a6 G m => yG (bfalse g) (yIa SL_29 e0 e0 b (rdI (mtF k)) G) (yG (bfalse g) (yI O_103 e0 b (rdI (mtF k)) G) (yG (bfalse g) (m_ (.int .u64 (wc .u64 (wrc d 32))) e0) (bE m fun a7 a8 m => yG (bfalse g) (yshl rfl e0 a8) (yG (bfalse g) (ysub e0 rfl) (yG (bfalse g) (yand e0 e0) (yG (bfalse g) (yneq e0 rfl) (yY (pf_ (.bool (!(decide ((wand .u32 a6 (ws .u32 a7 1)) = 0)))) e0 (bfalse g) e0) ?_)))))))))
    cases m
    exact F _ _ ⟨rfl, rfl, rfl, rfl, (b.facts (allT allI))⟩
  rintro f w ⟨H, I, a9, b0, b⟩
  refine Ya (.bool n) (eh b0) (wK a3 (sR fun _ b1 => Ym h.v (eh H) (yY (yLen SL_29 e0 b (rdI k)) (Ym (iV (wqc .i64 d 32)) (eh I) (yY (ysub e0 e0) (bE c fun J b2 c => yH (rMk b SL_29 e0 b2) fun l w b => Ya l.v e0 (wN ?_)))))))
  refine b1 _ _ (sQ fun _ b3 => sR fun _ b4 => Ym l.v e0 (yY (yLen SL_29 e0 b rO0) (Ym (iV 0) rfl (wK b4 (blockQ fun b5 b6 => bE c fun b7 b8 c => ?_)))))
  have b9 : ∀ (x : LI) (f : FV) w, f 8 = .bool n → f 9 = l.v → St w0 ros (row 103 (rI .u32) l.v x :: rs) w → x = b7 → b5 (.exit 0) (fr 86 f) w := by
   intro x f w c0 c1 b ho
   subst ho
   refine b6 _ _ _ (b3 _ _ (sR fun _ c2 => Ym l.v (eh c1) (bE c fun f5 c3 c => ?_)))
   replace b := b.fz
   refine yC (yCall FN_73 (a1 e0)) (integer_trim_ok c3 F0 b) ?_
   rintro _ w ⟨c5, rfl, b⟩
   refine ⟨_, rfl, ?_⟩
   refine Ym (.bool n) (eh c0) (Ya c5.v e0 (Ya (.bool n) e0 (wK c2 (wp_ret ?_))))
   cases c
   exact D _ _ _ (fin2r Tryz.results129 ⟨rfl, rfl⟩ ⟨rfl, rfl⟩ ⟨_, rfl, (b.facts (allC F0 (allT (allT allI))))⟩)
  refine loopQ (fun s a w => ∃ (o : LI) (i : Int) (f : FV), (o, i) = s ∧ a = fr 86 f ∧ f 0 = h.v ∧ f 6 = iV (wqc .i64 d 32) ∧ f 7 = .int .u64 (wc .u64 (wrc d 32)) ∧ f 8 = .bool n ∧ f 9 = l.v ∧ f 45 = iV (J.length : Int) ∧ f 46 = iV i ∧ St w0 ros (row 103 (rI .u32) l.v o :: rs) w) b8 ⟨_, _, _, rfl, rfl, H, I, a9, rfl, rfl, rfl, rfl, b⟩ ?_
  rintro _ _ w c6 ⟨o, i, f, rfl, rfl, p, q, K, y, z, A, r, b⟩ j c7 f6 c8 c9
  refine sR fun _ d0 => yY (ylss (eh r) (eh A)) (wK d0 (seqQ fun f7 d1 d2 => ?_))
  refine cIf e0 j (fun d3 j => ?_) fun d3 j => ?_
  ·refine wp_skip (d1 _ _ (sQ fun _ d4 => blockQ fun _ d5 => sR fun _ d6 => Ym (iV i) (eh r) (Ya (iV i) e0 (wK d6 (sR fun _ d7 => Ym h.v (eh p) (Ym (iV (wqc .i64 d 32)) (eh q) ?_))))))
   refine Ym (iV i) e0 (yY (yadd e0 e0) (bE j fun B L j => yY (yIa SL_29 e0 e0 b (rdI k) L) (yY (yI O_103 e0 b (rdI k) L) (yY (ycv (k' := .u64) (by kernel_rfl) (by kernel_rfl) e0) (Ya (.int .u64 (wc .u64 B)) e0 (wK d7 (sQ fun d8 d9 => sR fun _ e1 => Ym (iV (wqc .i64 d 32)) (eh q) (Ym (iV i) e0 ?_))))))))
   refine yY (yadd e0 e0) (yY (yadd e0 rfl) (Ym h.v (eh p) (yY (yLen SL_29 e0 b (rdI k)) (yY (ylss e0 e0) (wK e1 ?_)))))
   have N : ∀ (t : Int) (f : FV) w, f 0 = h.v → f 6 = iV (wqc .i64 d 32) → f 7 = .int .u64 (wc .u64 (wrc d 32)) → f 8 = .bool n → f 9 = l.v → f 10 = iV i → f 11 = .int .u64 t → f 45 = iV (J.length : Int) → f 46 = iV i → St w0 ros (row 103 (rI .u32) l.v o :: rs) w → integer_down_j5 d o i t = some c6 → d8 .normal (fr 86 f) w := by
    intro t f w e2 e3 O e4 R e5 e6 e7 e8 b c
    refine d9 _ _ (wR (Ym l.v (eh R) (Ym (iV i) (eh e5) (Ym (.int .u64 t) (eh e6) (Ym (.int .u64 (wc .u64 (wrc d 32))) (eh O) (bE c fun e9 f0 c => yY (yshr e0 e0 f0) (yY (yand e0 rfl) (yY (ycv (k' := .u32) (by kernel_rfl) (by kernel_rfl) e0) (bE c fun f8 S c => yY (yIs SL_29 e0 e0 b rO0 S) (yT (r_sti (cs := [.int .u32 (wc .u32 (wand .u64 e9 4294967295))]) b O_103 rfl e0 e0 rfl mkI S) fun w b => ?_))))))))))
    refine wN (d5 _ _ _ (d4 _ _ (wR (yY (yadd (eh e8) rfl) (Ym (iV (wa .i64 i 1)) e0 (wN ?_))))))
    cases c
    exact c8 _ _ _ rfl ⟨_, _, _, rfl, rfl, e2, e3, O, e4, R, e7, rfl, b⟩
   refine cIf e0 j (fun f1 j => ?_) fun f1 j => ?_
   ·refine wR (Ym (.int .u64 (wc .u64 B)) e0 (Ym h.v (eh p) (Ym (iV (wqc .i64 d 32)) (eh q) (Ym (iV i) e0 (yY (yadd e0 e0) (yY (yadd e0 rfl) (bE j fun f2 T j => yY (yIa SL_29 e0 e0 b (rdI k) T) (yY (yI O_103 e0 b (rdI k) T) (yY (ycv (k' := .u64) (by kernel_rfl) (by kernel_rfl) e0) (yY (yshlc e0 rfl) (yY (yor e0 e0) (Ya (.int .u64 (wor .u64 (wc .u64 B) (wslc .u64 (wc .u64 f2) 32))) e0 ?_))))))))))))
    exact wN (N _ _ _ p q K y z rfl rfl A r b j)
   ·exact wp_skip (N _ _ _ p q K y z rfl rfl A r b j)
  ·refine wp_exit (d2 _ _ _ rfl ?_)
   cases j
   exact c9 _ _ _ _ rfl rfl (b9 _ _ _ y z b (c7 _ rfl))
theorem integer_divide_ok {H I : LI} {m i : Hdr} {out : LI × LI} (c : integer_divide H I = some out) (r : imm (rI .u32) m.v H ∈ ros) (j : imm (rI .u32) i.v I ∈ ros) (b : St w0 ros rs w) :
  Calls Tryz.prog 93 #[m.v, i.v] w (fun e w => ∃ (J K : Hdr), e = .returned (.tuple #[J.v, K.v]) ∧ St w0 (imm (rI .u32) J.v out.1 :: imm (rI .u32) K.v out.2 :: ros) rs w) := by
 refine enterQ Tryz.func93 rfl Tryz.ntmps93 rfl fun Q z => sR fun _ k1 => Ya hnil.v rfl (Ya hnil.v rfl (wK k1 (seqQ fun g0 V W => sR fun _ X => Ym m.v e0 (Ym i.v e0 (bE c fun g1 Z c => yC (yCall FN_99 (a2 e0 e0)) (integer_compare_ok Z r j b) ?_)))))
 rintro _ w ⟨rfl, b⟩
 refine ⟨_, rfl, ?_⟩
 refine yY (ylss e0 rfl) (wK X ?_)
 refine cIf e0 c (fun a0 c => ?_) fun a0 c => ?_
 ·refine sR fun _ a3 => Ym m.v e0 (bE c fun g2 a4 c => yC (yCall FN_92 (a1 e0)) (slices_Clone_uint32_ok a4 r b) ?_)
  rintro _ w ⟨a5, rfl, b⟩
  refine ⟨_, rfl, ?_⟩
  refine Ya hnil.v rfl (Ya a5.v e0 (wK a3 (wp_ret (W _ _ _ rfl ?_))))
  cases c
  replace b := (b.immNh (rI .u32)).fz
  exact z _ _ _ (fin2r Tryz.results93 ⟨rfl, rfl⟩ ⟨rfl, rfl⟩ ⟨_, _, rfl, (b.facts (allC F1 (allC F0 (allT (allT allI)))))⟩)
 ·refine wp_skip (V _ _ (seqQ fun g3 a6 a7 => sR fun _ a8 => Ym i.v e0 (yY (yLen SL_29 e0 b (rdI j)) (yY (yeql e0 rfl) (wK a8 ?_)))))
  refine cIf e0 c (fun a9 c => ?_) fun a9 c => ?_
  ·refine sR fun _ b0 => Ym m.v e0 (Ym i.v e0 (bE c fun g4 L c => yY (yIa SL_29 e0 rfl b (rdI j) L) (yY (yI O_103 e0 b (rdI j) L) (bE c fun o b1 c => yC (yCall FN_94 (a2 e0 e0)) (integer_short_ok b1 r b) ?_))))
   rintro _ w ⟨t, rfl, b⟩
   refine ⟨_, rfl, ?_⟩
   refine Ym (.tuple #[t.v, .int .u32 o.2]) e0 (yY (x_ t.v e0) (yY (x_ (.int .u32 o.2) e0) (Ya t.v e0 (Ya (.int .u32 o.2) e0 (wK b0 (sR fun _ b2 => Ym t.v e0 (Ym (.int .u32 o.2) e0 (yH (rLt (n := 1) (l := [o.2]) b SL_29 [.int .u32 o.2] (bp1 e0) rfl rfl (mks1 (cs := [.int .u32 o.2]) rfl mkI mks0)) fun g5 w b => bE c fun g6 b3 c => ?_))))))))
   replace b := b.fz
   refine yC (yCall FN_73 (a1 e0)) (integer_trim_ok b3 F0 b) ?_
   rintro _ w ⟨b4, rfl, b⟩
   refine ⟨_, rfl, ?_⟩
   refine Ya t.v e0 (Ya b4.v e0 (wK b2 (wp_ret (a7 _ _ _ rfl ?_))))
   cases c
   exact z _ _ _ (fin2r Tryz.results93 ⟨rfl, rfl⟩ ⟨rfl, rfl⟩ ⟨_, _, rfl, (b.facts (allC F2 (allC F0 (allT (allT (allT allI))))))⟩)
  ·refine wp_skip (a6 _ _ (sR fun _ b5 => Ym i.v e0 (Ym i.v e0 (yY (yLen SL_29 e0 b (rdI j)) (yY (ysub e0 rfl) (bE c fun g7 N c => yY (yIa SL_29 e0 e0 b (rdI j) N) (yY (yI O_103 e0 b (rdI j) N) (bE c fun q b6 c => yC (yCall FN_126 (a1 e0)) (math_bits_LeadingZeros32_ok b6 b) ?_))))))))
   rintro _ w ⟨rfl, b⟩
   refine ⟨_, rfl, ?_⟩
   refine Ya (iV q) e0 (wK b5 (sR fun _ b7 => Ym i.v e0 (Ym (iV q) e0 (bE c fun p b8 c => yC (yCall FN_127 (a2 e0 e0)) (integer_up_ok b8 j b) ?_))))
   rintro _ w ⟨u, rfl, b⟩
   refine ⟨_, rfl, ?_⟩
   refine Ya u.v e0 (wK b7 (sR fun _ b9 => Ym m.v e0 (yY (yLen SL_29 e0 b (rdI (mtF r))) (yY (yadd e0 rfl) (bE c fun g8 c0 c => yH (rMk b SL_29 e0 c0) fun g w b => Ya g.v e0 (wK b9 ?_))))))
   refine sR fun _ c1 => Ym g.v e0 (Ym m.v e0 (Ym (iV q) e0 (bE c fun g9 c2 c => yC (yCall FN_127 (a2 e0 e0)) (integer_up_ok c2 (mtF r) b) ?_)))
   rintro _ w ⟨h0, rfl, b⟩
   refine ⟨_, rfl, ?_⟩
   refine bE c fun h1 c3 c => YV wn rfl (rCp b SL_29 rfl e0 (.inr ⟨rfl, rfl, rfl⟩) e0 (rdI F0) c3) fun w b => wK c1 (sR fun _ c4 => Ym u.v e0 (yY (yLen SL_29 e0 b (rdI F1)) (Ya (iV (p.length : Int)) e0 (wK c4 (sR fun _ c5 => ?_)))))
   refine Ym g.v e0 (yY (yLen SL_29 e0 b rO0) (Ym (iV (p.length : Int)) e0 (yY (ysub e0 e0) (bE c fun c7 c8 c => yH (rMk b SL_29 e0 c8) fun k w b => Ya k.v e0 (wK c5 (sQ fun _ d0 => sR fun _ d1 => Ym k.v e0 ?_))))))
   refine yY (yLen SL_29 e0 b rO0) (yY (ysub e0 rfl) (Ya (iV (ws .i64 (c7.length : Int) 1)) e0 (wK d1 (blockQ fun d2 d3 => bE c fun d4 d5 c => ?_))))
   have d6 : ∀ (A B : LI) (f : FV) w, f 4 = k.v → f 8 = iV q → f 10 = g.v → f 11 = iV (p.length : Int) → St w0 ros (row 103 (rI .u32) k.v A :: row 103 (rI .u32) g.v B :: rs) w → (A, B) = d4 → d2 (.exit 0) (fr 91 f) w := by
    intro A B f w d7 d8 d9 e1 b ho
    subst ho
    refine d3 _ _ _ (d0 _ _ (sR fun _ e2 => Ym g.v (eh d9) (Ym (iV (p.length : Int)) (eh e1) (bE c fun h3 O c => ?_))))
    replace b := (b.k17).fz
    refine yY (ySl (k1 := .i64) SL_29 e0 b (rdI F0) (.inr ⟨rfl, rfl⟩) (.inl (congrArg some e0)) O) ?_
    replace b := b.sub F0 O
    refine bE c fun h5 e3 c => yC (yCall FN_73 (a1 e0)) (integer_trim_ok e3 F0 b) ?_
    rintro _ w ⟨h6, rfl, b⟩
    refine ⟨_, rfl, ?_⟩
    refine Ym (iV q) (eh d8) (bE c fun R e4 c => yC (yCall FN_129 (a2 e0 e0)) (integer_down_ok e4 F0 b) ?_)
    rintro _ w ⟨x, rfl, b⟩
    refine ⟨_, rfl, ?_⟩
    refine Ym (.tuple #[x.v, .bool R.2]) e0 (yY (x_ x.v e0) (yY (x_ (.bool R.2) e0) (Ya x.v e0 (wK e2 (sR fun _ e5 => Ym k.v (eh d7) (bE c fun h7 e6 c => ?_))))))
    replace b := b.fz
    refine yC (yCall FN_73 (a1 e0)) (integer_trim_ok e6 F0 b) ?_
    rintro _ w ⟨e7, rfl, b⟩
    refine ⟨_, rfl, ?_⟩
    refine Ym x.v e0 (Ya e7.v e0 (Ya x.v e0 (wK e5 (wp_ret ?_))))
    cases c
    exact z _ _ _ (fin2r Tryz.results93 ⟨rfl, rfl⟩ ⟨rfl, rfl⟩ ⟨_, _, rfl, (b.facts (allC F0 (allC F2 (allT (allT (allT (allT (allT (allT allI)))))))))⟩)
   refine loopQ (fun s a w => ∃ (C D : LI) (h : Int) (f : FV), (C, D, h) = s ∧ a = fr 91 f ∧ f 4 = k.v ∧ f 8 = iV q ∧ f 9 = u.v ∧ f 10 = g.v ∧ f 11 = iV (p.length : Int) ∧ f 12 = iV h ∧ St w0 (imm (rI .u32) u.v p :: ros) (row 103 (rI .u32) k.v C :: row 103 (rI .u32) g.v D :: rs) w) d5 ⟨_, _, _, _, rfl, rfl, rfl, rfl, rfl, rfl, rfl, rfl, (b.facts (allC F1 (allT (allT allI))))⟩ ?_
   rintro _ _ w h9 ⟨C, D, h, f, rfl, rfl, E, S, T, F, G, y, b⟩ d e8 i0 e9 f0
   refine seqQ fun i1 f1 f2 => sR fun _ f3 => Ym (iV h) (eh y) (yY (ygeq e0 rfl) (wK f3 ?_))
   refine cIf e0 d (fun f4 d => ?_) fun f4 d => ?_
   ·refine wp_skip (f1 _ _ (sQ fun _ f5 => blockQ fun _ f6 => wR (Ym k.v (eh E) (Ym (iV h) (eh y) (Ym g.v (eh F) (Ym (iV h) (eh y) (Ym (iV h) (eh y) (Ym (iV (p.length : Int)) (eh G) (yY (yadd e0 e0) (yY (yadd e0 rfl) (bE d fun i2 f7 d => ?_)))))))))))
    refine yY (ySl SL_29 e0 b rO1 (.inl (congrArg some e0)) (.inl (congrArg some e0)) f7) (Ym u.v (eh T) (bE d fun f8 f9 d => ?_))
    replace b := b.k17
    refine yC (yCall FN_128 (a2 e0 e0)) (integer_digit_ok f9 F0 b) ?_
    rintro _ w ⟨rfl, b⟩
    refine ⟨_, rfl, ?_⟩
    refine bE d fun i3 U d => yY (yIs SL_29 e0 e0 b rO1 U) (yT (r_sti (cs := [.int .u32 f8.2]) (b.k17) O_103 rfl e0 e0 rfl mkI U) fun w b => wN (f6 _ _ _ (f5 _ _ (wR (Ym (iV h) (eh y) (yY (ysub e0 rfl) (Ya (iV (ws .i64 h 1)) e0 (wN ?_))))))))
    cases d
    exact e9 _ _ _ rfl ⟨_, _, _, _, rfl, rfl, E, S, T, F, G, rfl, b⟩
   ·refine wp_exit (f2 _ _ _ rfl ?_)
    cases d
    exact f0 _ _ _ _ rfl rfl (d6 _ _ _ _ E S F G (b.facts (allT allI)) (e8 _ rfl))
theorem integer_DivMod_ok {c : Bool} {z : LI} {g : Bool} {A : LI} {i j : Hdr} {out : Bool × LI × Bool × LI × Int} (b : integer_DivMod c z g A = some out) (V : imm (rI .u32) i.v z ∈ ros) (W : imm (rI .u32) j.v A ∈ ros) (a : St w0 ros rs w) :
  Calls Tryz.prog 114 #[.agg #[.bool c, i.v], .agg #[.bool g, j.v]] w (fun e w => ∃ (B C : Hdr), e = .returned (.tuple #[.agg #[.bool out.1, B.v], .agg #[.bool out.2.2.1, C.v], iV out.2.2.2.2]) ∧ St w0 (imm (rI .u32) B.v out.2.1 :: imm (rI .u32) C.v out.2.2.2.1 :: ros) rs w) := by
 refine enterQ Tryz.func114 rfl Tryz.ntmps114 rfl fun Q D => sR fun _ X => yBb (r_box (vals := [.bool c, i.v]) a e0 rfl) fun o w a => yBb (r_box (vals := [.bool g, j.v]) a e0 rfl) fun p w a => yBb (rAl a ZT_31) fun q w a => yBb (rAl a ZT_31) fun r w a => Ya (iV 0) rfl (wK X ?_)
 refine sR fun _ Z => yY (yFb FL_31_1 e0) (yY (lb_ j.v O_29 e0 a R2) (bE b fun a0 a3 b => yC (yCall FN_73 (a1 e0)) (integer_trim_ok a3 W a) ?_))
 rintro _ w ⟨k, rfl, a⟩
 refine ⟨_, rfl, ?_⟩
 refine Ya k.v e0 (wK Z (seqQ fun d2 a4 a5 => sR fun _ a6 => Ym k.v e0 (yY (yLen SL_29 e0 a (rdI F0)) (yY (yeql e0 rfl) (wK a6 ?_)))))
 refine cIf e0 b (fun a7 b => ?_) fun a7 b => ?_
 ·refine sR fun _ a8 => yY (ybuild (us := [.bool false, hnil.v]) [] SO_31 bp0 rfl) (yY (ybuild (us := [.bool false, hnil.v]) [] SO_31 bp0 rfl) (yT (r_stbn (vals' := [.bool false, hnil.v]) (us := [.bool false, hnil.v]) (a.k17) ST_31 e0 e0 rfl rfl (one_of rfl) rfl) fun w a => yT (r_stbn (vals' := [.bool false, hnil.v]) (us := [.bool false, hnil.v]) (a.k17) ST_31 e0 e0 rfl rfl (one_of rfl) rfl) fun w a => Ya (iV 8) rfl (wK a8 (wp_ret (a5 _ _ _ rfl ?_)))))
  cases b
  replace a := a.immNh (rI .u32)
  exact D _ _ _ (fin3r Tryz.results114 (rcs2 rfl rfl a R1 ST_31 rfl) (rcs2 rfl rfl a R0 ST_31 rfl) ⟨rfl, rfl⟩ ⟨_, _, rfl, ((a.k1k).facts (allC F0 (allC F0 (allT (allT allI)))))⟩)
 ·refine wp_skip (a4 _ _ (sR fun _ a9 => yY (yFb FL_31_1 e0) (yY (lb_ i.v O_29 e0 a R3) (bE b fun d3 b0 b => yC (yCall FN_73 (a1 e0)) (integer_trim_ok b0 (mtF V) a) ?_))))
  rintro _ w ⟨d4, rfl, a⟩
  refine ⟨_, rfl, ?_⟩
  refine Ym k.v e0 (bE b fun s b1 b => yC (yCall FN_93 (a2 e0 e0)) (integer_divide_ok b1 F0 F1 a) ?_)
  rintro _ w ⟨m, h, rfl, a⟩
  refine ⟨_, rfl, ?_⟩
  refine Ym (.tuple #[m.v, h.v]) e0 (yY (x_ m.v e0) (yY (x_ h.v e0) (Ya m.v e0 (Ya h.v e0 (wK a9 (sQ fun b2 b3 => sR fun _ b4 => yY (yFb FL_31_0 e0) (yY (lb_ (.bool c) O_4 e0 a R3) (Ym (.bool c) e0 ?_))))))))
  refine joinW 4 (fun f w => f 2 = (pB o) ∧ f 3 = (pB p) ∧ f 4 = (pB q) ∧ f 5 = (pB r) ∧ f 7 = k.v ∧ f 8 = m.v ∧ f 9 = h.v ∧ f 32 = .bool (c && (decide ((0 : Int) < (s.2.length : Int)))) ∧ St w0 (imm (rI .u32) k.v a0 :: imm (rI .u32) m.v s.1 :: imm (rI .u32) h.v s.2 :: ros) (box o 31 [.bool c, i.v] :: box p 31 [.bool g, j.v] :: box q 31 [.bool false, hnil.v] :: box r 31 [.bool false, hnil.v] :: rs) w) (fun E => ?_) ?_
  ·rcases Bool.eq_false_or_eq_true c with d | d
   ·exact yG d (m_ h.v e0) (yG d (yLen SL_29 e0 a (rdI F1)) (yG d (ygtr e0 rfl) (yY (pt_ (.bool (decide ((0 : Int) < (s.2.length : Int)))) e0 d e0) (E _ _ ⟨rfl, rfl, rfl, rfl, rfl, rfl, rfl, (congrArg Value.bool (andT d)), ((a.k1l).facts (allC F3 (allC F0 (allC F1 (allT (allT (allT (allT allI))))))))⟩))))
   ·exact gN d (gN d (gN d (yY (pf_ (.bool false) e0 d rfl) (E _ _ ⟨rfl, rfl, rfl, rfl, rfl, rfl, rfl, (congrArg Value.bool (andF d)), ((a.k1l).facts (allC F3 (allC F0 (allC F1 (allT (allT (allT (allT allI))))))))⟩))))
  rintro f w ⟨F, G, H, I, b5, J, K, b6, a⟩
  refine wK b4 ?_
  have L : ∀ (x y : LI) (t u : Hdr) (f : FV) w, f 2 = (pB o) → f 3 = (pB p) → f 4 = (pB q) → f 5 = (pB r) → f 8 = t.v → f 9 = u.v → St w0 (imm (rI .u32) t.v x :: imm (rI .u32) u.v y :: ros) (box o 31 [.bool c, i.v] :: box p 31 [.bool g, j.v] :: box q 31 [.bool false, hnil.v] :: box r 31 [.bool false, hnil.v] :: rs) w → integer_DivMod_j2 c g x y = some out → b2 .normal (fr 48 f) w := by
   intro x y t u f w c0 c1 N O c2 c3 a b
   refine b3 _ _ (sR fun _ c4 => yY (yFb FL_31_0 (eh c0)) (yY (lb_ (.bool c) O_4 e0 a R0) (yY (yFb FL_31_0 (eh c1)) (yY (lb_ (.bool g) O_4 e0 a R1) (yY (yneb (by kernel_rfl) e0 e0) (Ym t.v (eh c2) (bE b fun R c5 b => yC (yCall FN_76 (a2 e0 e0)) (integer_big_ok c5 F0 a) ?_)))))))
   rintro _ w ⟨S, rfl, a⟩
   refine ⟨_, rfl, ?_⟩
   refine Ym u.v (eh c3) (bE b fun T c6 b => yC (yCall FN_76 (a2 rfl e0)) (integer_big_ok c6 F2 a) ?_)
   rintro _ w ⟨U, rfl, a⟩
   refine ⟨_, rfl, ?_⟩
   refine yT (r_stbn (vals' := [.bool R.1, S.v]) (us := [.bool R.1, S.v]) (a.k19) ST_31 (eh N) e0 rfl rfl (one_of rfl) rfl) fun w a => yT (r_stbn (vals' := [.bool T.1, U.v]) (us := [.bool T.1, U.v]) (a.k13) ST_31 (eh O) e0 rfl rfl (one_of rfl) rfl) fun w a => Ya (iV 0) rfl (wK c4 (wp_ret ?_))
   cases b
   exact D _ _ _ (fin3r Tryz.results114 (rcs2 rfl N a R1 ST_31 rfl) (rcs2 rfl O a R0 ST_31 rfl) ⟨rfl, rfl⟩ ⟨_, _, rfl, ((a.k1k).facts (allC F1 (allC F0 (allT (allT (allT (allT allI)))))))⟩)
  refine cB (eh b6) b (fun c7 b => ?_) fun c7 b => ?_
  ·refine wR (Ym m.v (eh J) (yH (rLt (n := 1) (l := [1]) a SL_29 [.int .u32 1] (bp1 rfl) rfl rfl (mks1 (cs := [.int .u32 1]) rfl mkI mks0)) fun d5 w a => bE b fun d6 c8 b => ?_))
   replace a := a.fz
   refine yC (yCall FN_112 (a2 e0 e0)) (integer_plus_ok c8 F2 F0 a) ?_
   rintro _ w ⟨c9, rfl, a⟩
   refine ⟨_, rfl, ?_⟩
   refine Ym k.v (eh b5) (Ym h.v (eh K) (bE b fun d7 d0 b => yC (yCall FN_113 (a2 e0 e0)) (integer_minus_ok d0 F2 F4 a) ?_))
   rintro _ w ⟨d1, rfl, a⟩
   refine ⟨_, rfl, ?_⟩
   exact Ya c9.v e0 (Ya d1.v e0 (wN (L _ _ _ _ _ _ F G H I rfl rfl (a.facts (allC F1 (allC F0 (allT (allT (allT (allT (allT (allT allI))))))))) b)))
  ·exact wp_skip (L _ _ _ _ _ _ F G H I J K (a.facts (allC F1 (allC F2 (allT (allT (allT allI)))))) b)
theorem integer_Quo_ok {i : Bool} {n : LI} {j : Bool} {o : LI} {k l : Hdr} {out : Bool × LI × Int} (g : integer_Quo i n j o = some out) (u : imm (rI .u32) k.v n ∈ ros) (x : imm (rI .u32) l.v o ∈ ros) (a : St w0 ros rs w) :
  Calls Tryz.prog 81 #[.agg #[.bool i, k.v], .agg #[.bool j, l.v]] w (fun e w => ∃ (p : Hdr), e = .returned (.tuple #[.agg #[.bool out.1, p.v], iV out.2.2]) ∧ St w0 (imm (rI .u32) p.v out.2.1 :: ros) rs w) := by
 refine enterQ Tryz.func81 rfl Tryz.ntmps81 rfl fun Q q => sR fun _ y => yBb (r_box (vals := [.bool i, k.v]) a e0 rfl) fun K w a => yBb (r_box (vals := [.bool j, l.v]) a e0 rfl) fun L w a => yBb (rAl a ZT_31) fun r w a => Ya (iV 0) rfl (wK y (sR fun _ z => ?_))
 refine yY (lbs_ [.bool i, k.v] ST_31 e0 a R2) (yY (lbs_ [.bool j, l.v] ST_31 e0 a R1) (bE g fun b A g => yC (yCall FN_114 (a2 e0 e0)) (integer_DivMod_ok A u x a) ?_))
 rintro _ w ⟨d, h, rfl, a⟩
 refine ⟨_, rfl, ?_⟩
 refine Ym (.tuple #[.agg #[.bool b.1, d.v], .agg #[.bool b.2.2.1, h.v], iV b.2.2.2.2]) e0 (yY (x_ (.agg #[.bool b.1, d.v]) e0) (yY (x_ (.agg #[.bool b.2.2.1, h.v]) e0) (yY (x_ (iV b.2.2.2.2) e0) (yBb (rAl a ZT_31) fun s w a => yBb (rAl a ZT_31) fun N w a => yT (r_stbn (vals' := [.bool b.1, d.v]) (us := [.bool b.1, d.v]) (a.k17) ST_31 e0 e0 rfl rfl (one_of rfl) rfl) fun w a => yT (r_stbn (vals' := [.bool b.2.2.1, h.v]) (us := [.bool b.2.2.1, h.v]) (a.k17) ST_31 e0 e0 rfl rfl (one_of rfl) rfl) fun w a => Ya (iV b.2.2.2.2) e0 (wN ?_)))))
 refine z _ _ (seqQ fun O B C => sR fun _ D => Ym (iV b.2.2.2.2) e0 (yY (yeql e0 rfl) (Ym (.bool (decide (b.2.2.2.2 = 0))) e0 ?_)))
 refine joinW 5 (fun f w => f 4 = (pB r) ∧ f 6 = (pB s) ∧ f 8 = iV b.2.2.2.2 ∧ f 23 = .bool ((decide (b.2.2.2.2 = 0)) && (decide ((0 : Int) < (b.2.2.2.1.length : Int)))) ∧ St w0 (imm (rI .u32) d.v b.2.1 :: ros) (box r 31 [.bool false, hnil.v] :: box s 31 [.bool b.1, d.v] :: rs) w) (fun t => ?_) ?_
 ·rcases Bool.eq_false_or_eq_true (decide (b.2.2.2.2 = 0)) with c | c
  ·exact yG c (yFb FL_31_1 e0) (yG c (lb_ h.v O_29 e0 a R0) (yG c (yLen SL_29 e0 a (rdI F1)) (yG c (ygtr e0 rfl) (yY (pt_ (.bool (decide ((0 : Int) < (b.2.2.2.1.length : Int)))) e0 c e0) (t _ _ ⟨rfl, rfl, rfl, (congrArg Value.bool (andT c)), ((a.k1m).facts (allC F0 (allT (allT allI))))⟩)))))
  ·exact gN c (gN c (gN c (gN c (yY (pf_ (.bool false) e0 c rfl) (t _ _ ⟨rfl, rfl, rfl, (congrArg Value.bool (andF c)), ((a.k1m).facts (allC F0 (allT (allT allI))))⟩)))))
 rintro f w ⟨m, E, F, G, a⟩
 refine wK D (cB (eh G) g (fun H g => ?_) fun H g => ?_)
 ·refine sR fun _ I => yY (ybuild (us := [.bool false, hnil.v]) [] SO_31 bp0 rfl) (yT (r_stbn (vals' := [.bool false, hnil.v]) (us := [.bool false, hnil.v]) a ST_31 (eh m) e0 rfl rfl (one_of rfl) rfl) fun w a => Ya (iV 10) rfl (wK I (wp_ret (C _ _ _ rfl ?_))))
  cases g
  replace a := a.immNh (rI .u32)
  exact q _ _ _ (fin2r Tryz.results81 (rcs2 rfl m a R0 ST_31 rfl) ⟨rfl, rfl⟩ ⟨_, rfl, ((a.k1c).facts (allC F0 (allT (allT allI))))⟩)
 ·refine wp_skip (B _ _ (sR fun _ J => yY (lbs_ [.bool b.1, d.v] ST_31 (eh E) a R1) (Ym (iV b.2.2.2.2) (eh F) (yT (r_stbn (vals' := [.bool b.1, d.v]) (us := [.bool b.1, d.v]) a ST_31 (eh m) e0 rfl rfl (one_of rfl) rfl) fun w a => Ya (iV b.2.2.2.2) e0 (wK J (wp_ret ?_))))))
  cases g
  exact q _ _ _ (fin2r Tryz.results81 (rcs2 rfl m a R0 ST_31 rfl) ⟨rfl, rfl⟩ ⟨_, rfl, (a.k1c)⟩)
theorem integer_Neg_ok {b : Bool} {f : LI} {d : Hdr} {out : Bool × LI} (c : integer_Neg b f = some out) (j : imm (rI .u32) d.v f ∈ ros) (a : St w0 ros rs w) :
  Calls Tryz.prog 80 #[.agg #[.bool b, d.v]] w (fun e w => ∃ (g : Hdr), e = .returned (.agg #[.bool out.1, g.v]) ∧ St w0 (imm (rI .u32) g.v out.2 :: ros) rs w) := by
 refine enterQ Tryz.func80 rfl Tryz.ntmps80 rfl fun Q k => sR fun _ l => yBb (r_box (vals := [.bool b, d.v]) a e0 rfl) fun p w a => yBb (rAl a ZT_31) fun q w a => wK l (sQ fun _ m => bE c fun r n c => bE c fun h o c => dR [0, 1, 3, 0, 8, 24, 63, 127] [5, 6, 7] 3 folM ?_)
 replace a := a.drew
 refine Dn [0, 1, 2, 3, 4] [] [5] (yR rfl (yFb FL_31_0 e0) (yR rfl (lb_ (.bool b) O_4 e0 a R1) (yR rfl (ynot e0) (yR rfl (yFb FL_31_1 e0) (yR rfl (lb_ d.v O_29 e0 a R1) (Rn QSn ?_))))))
 refine Lc1 rfl ?_
 refine Lk wn (yCall FN_92 (a1 e0)) (slices_Clone_uint32_ok n j a) ?_
 rintro _ w ⟨s, rfl, a⟩
 refine ⟨_, rfl, ?_⟩
 refine Dn [] [0, 1, 2] [6] (Rn (yS rfl (yFb FL_31_0 e0) (yS rfl (lb_ (.bool b) O_4 e0 a R2) (yS rfl (ynot e0) QSn))) ?_)
 refine Lc1 rfl ?_
 replace a := a.fz
 refine Lk wn (yCall FN_76 (a2 e0 e0)) (integer_big_ok o F0 a) ?_
 rintro _ w ⟨i, rfl, a⟩
 refine ⟨_, rfl, ?_⟩
 refine Dn [] [] [7] (Rn QSn ?_)
 refine Lc1 rfl ?_
 refine LT wn (r_stbn (vals' := [.bool h.1, i.v]) (us := [.bool h.1, i.v]) a ST_31 e0 e0 rfl rfl (one_of rfl) rfl) fun w a => Dz [] [] (Rn QSn (m _ _ (wp_ret ?_)))
 cases c
 exact k _ _ _ (fin1r Tryz.results80 (rcs2 rfl rfl a R0 ST_31 rfl) ⟨_, rfl, ((a.k1c).facts (allC F0 (allT (allT allI))))⟩)
theorem exact_product_v2_ok {u o : List (List (Bool × LI))} {q d : Hdr} {c : List Hdr} {out : (List (List (Bool × LI)))} (S : exact_product_v2 u o = some out) (T : imm (rS (rP rB (rS (rI .u32)))) q.v u ∈ ros) (b : St w0 ros (row 32 rH d.v c :: fam 31 (rP rB (rS (rI .u32))) c o :: rs) w) :
  Calls Tryz.prog 103 #[q.v, d.v] w (fun e w => ∃ (a3 : Hdr) (a4 : List Hdr), e = .returned (a3.v) ∧ St w0 ros (row 32 rH d.v c :: fam 31 (rP rB (rS (rI .u32))) c o :: row 32 rH a3.v a4 :: fam 31 (rP rB (rS (rI .u32))) a4 out :: rs) w) := by
 refine enterQ Tryz.func103 rfl Tryz.ntmps103 rfl fun Q d3 => sR fun _ d4 => Ya hnil.v rfl (wK d4 (sR fun _ d5 => Ya hnil.v rfl (wK d5 (sQ fun _ d6 => sR fun _ d7 => ?_))))
 refine Ym q.v e0 (yY (yLen SL_22 e0 b (rdI T)) (Ym (iV 0) rfl (wK d7 (blockQ fun d8 d9 => bE S fun e1 e2 S => ?_))))
 have e3 : ∀ (U : List (List (Bool × LI))) (D : Hdr) (V : List Hdr) (f : FV) w, f 5 = D.v → St w0 ros (row 32 rH d.v c :: fam 31 (rP rB (rS (rI .u32))) c o :: row 32 rH D.v V :: fam 31 (rP rB (rS (rI .u32))) V U :: rs) w → U = e1 → d8 (.exit 0) (fr 54 f) w := by
  intro U D V f w e4 b ho
  subst ho
  refine d9 _ _ _ (d6 _ _ (sR fun _ e5 => Ym D.v (eh e4) (Ya D.v e0 (wK e5 (wp_ret ?_)))))
  cases S
  exact d3 _ _ _ (fin1r Tryz.results103 ⟨rfl, rfl⟩ ⟨_, _, rfl, b⟩)
 replace b := ((b.rowNh 32 rH).fNew 31 (rP rB (rS (rI .u32)))).k17
 refine loopQ (fun s a w => ∃ (x : List (List (Bool × LI))) (r : Int) (f : FV) (h : Hdr) (i : List Hdr), (x, r) = s ∧ a = fr 54 f ∧ f 1 = d.v ∧ f 5 = h.v ∧ f 13 = q.v ∧ f 14 = iV (u.length : Int) ∧ f 15 = iV r ∧ St w0 ros (row 32 rH d.v c :: fam 31 (rP rB (rS (rI .u32))) c o :: row 32 rH h.v i :: fam 31 (rP rB (rS (rI .u32))) i x :: rs) w) e2 ⟨_, _, _, _, _, rfl, rfl, rfl, rfl, rfl, rfl, rfl, (b.k1a)⟩ ?_
 rintro _ _ w m3 ⟨x, r, f, h, i, rfl, rfl, e6, a5, a6, a7, W, b⟩ j e7 m4 e8 e9
 refine sR fun _ f0 => yY (ylss (eh W) (eh a7)) (wK f0 (seqQ fun m5 f1 f2 => ?_))
 refine cIf e0 j (fun f3 j => ?_) fun f3 j => ?_
 ·refine wp_skip (f1 _ _ (sQ fun _ f4 => blockQ fun _ f5 => sR fun _ f6 => bE j fun y a8 j => yY (yIa SL_22 (eh a6) (eh W) b (rdI T) a8) ?_))
  obtain ⟨k, b⟩ := iLs b T a8
  refine yY (yCt O_32 e0 b F1 rfl) (Ya k.v e0 (wK f6 (sR fun _ f7 => Ya hnil.v rfl (wK f7 (sQ fun _ f8 => sR fun _ f9 => Ym k.v e0 (yY (yLen SL_32 e0 b (rdI F0)) ?_))))))
  refine Ym (iV 0) rfl (wK f9 (blockQ fun g0 g1 => bE j fun g2 g3 j => ?_))
  have g4 : ∀ (I : List (Bool × LI)) (z : Hdr) (f : FV) w, f 1 = d.v → f 5 = h.v → f 8 = z.v → f 13 = q.v → f 14 = iV (u.length : Int) → f 15 = iV r → St w0 ros (row 32 rH d.v c :: fam 31 (rP rB (rS (rI .u32))) c o :: row 32 rH h.v i :: fam 31 (rP rB (rS (rI .u32))) i x :: row 31 (rP rB (rS (rI .u32))) z.v I :: rs) w → I = g2 → g0 (.exit 2) (fr 54 f) w := by
   intro I z f w g5 g6 g7 g8 g9 h0 b ho
   subst ho
   refine g1 _ _ _ (f8 _ _ (wR (Ym h.v (eh g6) (Ym z.v (eh g7) (yH (rLt (n := 1) (l := [z]) b SLH_22 [z.v] (bp1 e0) rfl rfl (mks1 rfl (mkF rfl) mks0)) fun m6 w b => bE j fun m7 a9 j => ?_)))))
   replace b := b.k13
   obtain ⟨m8, ey624, h1⟩ := app_rep a9 (b.famL R4) (show [z].length = [I].length from rfl)
   refine yH (rAp b SLH_22 e0 e0 rO1 h1) fun h3 w b => ?_
   replace b := (b.k1n).fPush
   rw [← ey624, ← (app_some a9).1] at b
   refine Ya h3.v e0 (wN (f5 _ _ _ (f4 _ _ (wR (yY (yadd (eh h0) rfl) (Ym (iV (wa .i64 r 1)) e0 (wN ?_)))))))
   cases j
   exact e8 _ _ _ rfl ⟨_, _, _, _, _, rfl, rfl, g5, rfl, g8, g9, rfl, (b.k15)⟩
  replace b := b.rowNh 31 (rP rB (rS (rI .u32)))
  refine loopQ (fun s a w => ∃ (E : List (Bool × LI)) (m : Int) (f : FV) (t : Hdr), (E, m) = s ∧ a = fr 54 f ∧ f 1 = d.v ∧ f 5 = h.v ∧ f 7 = k.v ∧ f 8 = t.v ∧ f 13 = q.v ∧ f 14 = iV (u.length : Int) ∧ f 15 = iV r ∧ f 20 = iV (y.length : Int) ∧ f 21 = iV m ∧ St w0 (imm (rP rB (rS (rI .u32))) k.v y :: ros) (row 32 rH d.v c :: fam 31 (rP rB (rS (rI .u32))) c o :: row 32 rH h.v i :: fam 31 (rP rB (rS (rI .u32))) i x :: row 31 (rP rB (rS (rI .u32))) t.v E :: rs) w) g3 ⟨_, _, _, _, rfl, rfl, e6, a5, rfl, rfl, a6, a7, W, rfl, rfl, ((b.k1o).facts (allC F0 (allT (allT allI))))⟩ ?_
  rintro _ _ w m9 ⟨E, m, f, t, rfl, rfl, b0, b1, b2, b3, b4, b5, b6, b7, X, b⟩ p h5 n0 h6 h7
  refine sR fun _ h8 => yY (ylss (eh X) (eh b7)) (wK h8 (seqQ fun n1 h9 i0 => ?_))
  refine cIf e0 p (fun i1 p => ?_) fun i1 p => ?_
  ·refine wp_skip (h9 _ _ (sQ fun _ i2 => blockQ fun _ i3 => sR fun _ i4 => Ym (iV m) (eh X) (Ya (iV m) e0 (wK i4 (sR fun _ i5 => yBb (rAl b ZT_31) fun J w b => ?_)))))
   refine wK i5 (sQ fun _ i6 => sR fun _ i7 => Ym k.v (eh b2) (yY (yLen SL_32 e0 b (rdI F0)) (Ym (iV 0) rfl (wK i7 (blockQ fun i8 i9 => bE p fun j0 j1 p => ?_)))))
   have j2 : ∀ (A : Bool) (K : LI) (C : Hdr) (f : FV) w, f 1 = d.v → f 5 = h.v → f 7 = k.v → f 8 = t.v → f 10 = (pB J) → f 13 = q.v → f 14 = iV (u.length : Int) → f 15 = iV r → f 20 = iV (y.length : Int) → f 21 = iV m → St w0 (imm (rP rB (rS (rI .u32))) k.v y :: imm (rI .u32) C.v K :: ros) (row 32 rH d.v c :: fam 31 (rP rB (rS (rI .u32))) c o :: row 32 rH h.v i :: fam 31 (rP rB (rS (rI .u32))) i x :: row 31 (rP rB (rS (rI .u32))) t.v E :: box J 31 [.bool A, C.v] :: rs) w → (A, K) = j0 → i8 (.exit 4) (fr 54 f) w := by
    intro A K C f w j3 j4 j5 j6 j7 j8 j9 k0 k5 k6 b ho
    subst ho
    refine i9 _ _ _ (i6 _ _ (wR (Ym t.v (eh j6) (yY (lbs_ [.bool A, C.v] ST_31 (eh j7) b R5) (yH (rLt (n := 1) (l := [(A, K)]) b SL_32 [.agg #[.bool A, C.v]] (bp1 e0) rfl rfl (mks1 (cs := [.bool A, C.v]) rfl (mkP mkB (mkS F1)) mks0)) fun n2 w b => bE p fun n3 k7 p => yH (rAp (b.k1p) SL_32 e0 e0 rO1 k7) fun k8 w b => Ya k8.v e0 (wN (i3 _ _ _ (i2 _ _ ?_))))))))
    refine wR (yY (yadd (eh k6) rfl) (Ym (iV (wa .i64 m 1)) e0 (wN ?_)))
    cases p
    exact h6 _ _ _ rfl ⟨_, _, _, _, rfl, rfl, j3, j4, j5, rfl, j8, j9, k0, k5, rfl, ((b.k1q).facts (allC F0 (allT (allT allI))))⟩
   replace b := b.immNh (rI .u32)
   refine loopQ (fun s a w => ∃ (F : Bool) (Z : LI) (B : Int) (f : FV) (G : Hdr), (F, Z, B) = s ∧ a = fr 54 f ∧ f 1 = d.v ∧ f 5 = h.v ∧ f 7 = k.v ∧ f 8 = t.v ∧ f 9 = iV m ∧ f 10 = (pB J) ∧ f 13 = q.v ∧ f 14 = iV (u.length : Int) ∧ f 15 = iV r ∧ f 20 = iV (y.length : Int) ∧ f 21 = iV m ∧ f 24 = k.v ∧ f 25 = iV (y.length : Int) ∧ f 26 = iV B ∧ St w0 (imm (rP rB (rS (rI .u32))) k.v y :: imm (rI .u32) G.v Z :: ros) (row 32 rH d.v c :: fam 31 (rP rB (rS (rI .u32))) c o :: row 32 rH h.v i :: fam 31 (rP rB (rS (rI .u32))) i x :: row 31 (rP rB (rS (rI .u32))) t.v E :: box J 31 [.bool F, G.v] :: rs) w) j1 ⟨_, _, _, _, _, rfl, rfl, b0, b1, b2, b3, rfl, rfl, b4, b5, b6, b7, X, rfl, rfl, rfl, ((b.k1r).facts (allC F1 (allC F0 (allT (allT allI)))))⟩ ?_
   rintro _ _ w n4 ⟨F, Z, B, f, G, rfl, rfl, a0, b8, b9, c0, c1, H, c2, c3, c4, c5, c6, c7, c8, L, b⟩ g k9 n5 l0 l1
   refine sR fun _ l2 => yY (ylss (eh L) (eh c8)) (wK l2 (seqQ fun n6 l3 l4 => ?_))
   refine cIf e0 g (fun l5 g => ?_) fun l5 g => ?_
   ·refine wp_skip (l3 _ _ (sQ fun _ l6 => blockQ fun _ l7 => sR fun _ l8 => Ym (iV B) (eh L) (bE g fun N c9 g => yY (yIa SL_32 (eh c7) (eh L) b (rdI F0) c9) ?_)))
    obtain ⟨n7, n8, b⟩ := iLd b F0 c9
    obtain ⟨o0, o1, rfl, b⟩ := b.eltP
    obtain ⟨rfl, b⟩ := b.eltB
    obtain ⟨O, rfl, b⟩ := b.eltS
    refine yY (yCtn (cs := [.bool N.1, O.v]) ST_31 rfl e0 b F1) (yBb (rAl b ZT_31) fun o2 w b => Ya (iV B) e0 (yT (r_stbn (vals' := [.bool N.1, O.v]) (us := [.bool N.1, O.v]) b ST_31 e0 e0 rfl rfl (one_of rfl) rfl) fun w b => wK l8 (bE g fun o3 a1 g => bE g fun l9 d0 g => bE g fun o4 m0 g => bE g fun d1 m1 g => dR [0, 0, 0, 0, 12, 28, 0, 124, 252, 510, 1023, 2047] [9, 10, 11] 3 folM ?_)))
    replace b := b.drew
    refine Dn [0, 1, 2, 3, 4, 5, 6, 7, 8] [] [9] (yR rfl (lbs_ [.bool F, G.v] ST_31 (eh H) b R6) (yR rfl (lbs_ [.bool N.1, O.v] ST_31 e0 b R0) (yR rfl (m_ d.v (eh a0)) (yR rfl (m_ (iV B) e0) ?_))))
    obtain ⟨o5, R⟩ := b.famI R2 a1
    refine yR rfl (yIa SLH_22 e0 e0 b rO1 R) (yR rfl (yF1 O_32 e0 b rO1 R rfl) (yR rfl (m_ (iV m) (eh c1)) (yR rfl (yIa SL_32 e0 e0 b (rdF R2 R a1) d0) ?_)))
    obtain ⟨o6, o7, cc692, b⟩ := b.ld (rdF R2 R a1) d0
    replace b := b.eltP
    obtain ⟨o8, p0, rfl, b⟩ := b
    replace b := b.eltB
    obtain ⟨rfl, b⟩ := b
    replace b := b.eltS
    obtain ⟨m2, rfl, b⟩ := b
    refine yR rfl (yCn (cs := [.bool l9.1, m2.v]) ST_31 rfl e0 cc692) (Rn QSn ?_)
    refine Lc1 rfl ?_
    refine Lk wn (yCall FN_32 (a2 e0 e0)) (integer_Mul_ok m0 F1 F0 b) ?_
    rintro _ w ⟨p1, rfl, b⟩
    refine ⟨_, rfl, ?_⟩
    refine Dn [] [0] [10] (Rn (yS rfl (lbs_ [.bool F, G.v] ST_31 (eh H) b R6) QSn) ?_)
    refine Lc1 rfl ?_
    refine Lk wn (yCall FN_75 (a2 e0 e0)) (integer_Add_ok m1 F5 F0 b) ?_
    rintro _ w ⟨d2, rfl, b⟩
    refine ⟨_, rfl, ?_⟩
    refine Dn [] [] [11] (Rn QSn ?_)
    refine Lc1 rfl ?_
    replace b := b.k1s
    refine LT wn (r_stbn (vals' := [.bool d1.1, d2.v]) (us := [.bool d1.1, d2.v]) b ST_31 (eh H) e0 rfl rfl (one_of rfl) rfl) fun w b => Dz [] [] (Rn QSn (l7 _ _ _ (l6 _ _ (wR (yY (yadd (eh L) rfl) (Ym (iV (wa .i64 B 1)) e0 (wN ?_)))))))
    cases g
    exact l0 _ _ _ rfl ⟨_, _, _, _, _, rfl, rfl, a0, b8, b9, c0, c1, H, c2, c3, c4, c5, c6, c7, c8, rfl, ((b.k1t).facts (allC F5 (allC F0 (allT (allT (allT (allT (allT (allT (allT allI))))))))))⟩
   ·refine wp_exit (l4 _ _ _ rfl ?_)
    cases g
    exact l1 _ _ _ _ rfl rfl (j2 _ _ _ _ _ a0 b8 b9 c0 H c2 c3 c4 c5 c6 b (k9 _ rfl))
  ·refine wp_exit (i0 _ _ _ rfl ?_)
   cases p
   exact h7 _ _ _ _ rfl rfl (g4 _ _ _ _ b0 b1 b3 b4 b5 b6 (b.facts (allT allI)) (h5 _ rfl))
 ·refine wp_exit (f2 _ _ _ rfl ?_)
  cases j
  exact e9 _ _ _ _ rfl rfl (e3 _ _ _ _ _ a5 b (e7 _ rfl))
theorem exact_characteristic_ok {i : List (List (Bool × LI))} {m : Hdr} {out : (List (Bool × LI))} (l : exact_characteristic i = some out) (c7 : imm (rS (rP rB (rS (rI .u32)))) m.v i ∈ ros) (b : St w0 ros rs w) :
  Calls Tryz.prog 53 #[m.v] w (fun e w => ∃ (c8 : Hdr), e = .returned (c8.v) ∧ St w0 ros (row 31 (rP rB (rS (rI .u32))) c8.v out :: rs) w) := by
 refine enterQ Tryz.func53 rfl Tryz.ntmps53 rfl fun Q g1 => sR fun _ g2 => Ya hnil.v rfl (wK g2 (sR fun _ g3 => Ym m.v e0 (yY (yLen SL_22 e0 b (rdI c7)) (Ya (iV (i.length : Int)) e0 (wK g3 (sQ fun _ g4 => ?_))))))
 refine wR (Ym (iV (i.length : Int)) e0 (yY (yadd e0 rfl) (bE l fun t5 g5 l => yH (rMk b SL_32 e0 g5) fun d w b => Ya d.v e0 (wK g4 (sR fun _ g6 => Ym d.v e0 (Ym (iV (i.length : Int)) e0 (bE l fun g7 g8 l => ?_)))))))
 refine yC (yCall FN_82 (a1 rfl)) (integer_FromInt_ok g8 b) ?_
 rintro _ w ⟨g9, rfl, b⟩
 refine ⟨_, rfl, ?_⟩
 refine bE l fun c9 d0 l => yY (yIs SL_32 e0 e0 b rO0 d0) (yT (r_stn (cs := [.bool g7.1, g9.v]) b ST_31 e0 e0 rfl (mkP mkB (mkS F0)) d0) fun w b => wK g6 (sR fun _ h0 => Ym (iV (i.length : Int)) e0 (bE l fun h1 h4 l => ?_)))
 obtain ⟨h5, em10, h6⟩ := mkL_rep h4 hnil
 refine yH (rMk b SLH_22 e0 h6) fun B w b => ?_
 replace b := (b.fReps 31 (rP rB (rS (rI .u32))) h5).k17
 rw [← em10] at b
 refine Ya B.v e0 (wK h0 (sQ fun _ h8 => sR fun _ i0 => Ym B.v e0 (yY (yLenF SLH_22 e0 b rO0 R1) (Ym (iV 0) rfl (wK i0 (blockQ fun i1 i2 => bE l fun i3 i4 l => ?_))))))
 have i5 : ∀ (V : List (List (Bool × LI))) (W : List Hdr) (f : FV) w, f 0 = m.v → f 3 = iV (i.length : Int) → f 4 = d.v → f 5 = B.v → St w0 ros (row 31 (rP rB (rS (rI .u32))) d.v c9 :: row 32 rH B.v W :: fam 31 (rP rB (rS (rI .u32))) W V :: rs) w → V = i3 → i1 (.exit 0) (fr 102 f) w := by
  intro V W f w i6 i7 i8 i9 b ho
  subst ho
  refine i2 _ _ _ (h8 _ _ (sQ fun _ j0 => sR fun _ j1 => Ya (iV 1) rfl (wK j1 (blockQ fun j2 j3 => bE l fun j4 j5 l => ?_))))
  have j6 : ∀ (X : List (Bool × LI)) (f : FV) w, f 4 = d.v → St w0 ros (row 31 (rP rB (rS (rI .u32))) d.v X :: rs) w → X = j4 → j2 (.exit 2) (fr 102 f) w := by
   intro X f w j7 b ho
   subst ho
   refine j3 _ _ _ (j0 _ _ (sR fun _ j8 => Ym d.v (eh j7) (Ya d.v e0 (wK j8 (wp_ret ?_)))))
   cases l
   exact g1 _ _ _ (fin1r Tryz.results53 ⟨rfl, rfl⟩ ⟨_, rfl, b⟩)
  refine loopQ (fun s a w => ∃ (x : List (Bool × LI)) (J : List (List (Bool × LI))) (k : Int) (f : FV) (o : Hdr) (C : List Hdr), (x, J, k) = s ∧ a = fr 102 f ∧ f 0 = m.v ∧ f 3 = iV (i.length : Int) ∧ f 4 = d.v ∧ f 5 = o.v ∧ f 7 = iV k ∧ St w0 ros (row 31 (rP rB (rS (rI .u32))) d.v x :: row 32 rH o.v C :: fam 31 (rP rB (rS (rI .u32))) C J :: rs) w) j5 ⟨_, _, _, _, _, _, rfl, rfl, i6, i7, i8, i9, rfl, b⟩ ?_
  rintro _ _ w t6 ⟨x, J, k, f, o, C, rfl, rfl, j9, d1, d2, d3, d4, b⟩ g k0 t7 k8 k9
  refine seqQ fun t8 l0 l1 => sR fun _ l2 => Ym (iV k) (eh d4) (Ym (iV (i.length : Int)) (eh d1) (yY (yleq e0 e0) (wK l2 ?_)))
  refine cIf e0 g (fun l3 g => ?_) fun l3 g => ?_
  ·refine wp_skip (l0 _ _ (sQ fun _ l4 => blockQ fun _ l5 => sQ fun _ l6 => sR fun _ l7 => Ym o.v (eh d3) (yY (yLenF SLH_22 e0 b rO1 R2) (Ym (iV 0) rfl (wK l7 (blockQ fun l8 l9 => bE g fun m0 m1 g => ?_))))))
   have m2 : ∀ (Z : List (List (Bool × LI))) (f : FV) w, f 0 = m.v → f 3 = iV (i.length : Int) → f 4 = d.v → f 5 = o.v → f 7 = iV k → St w0 ros (row 31 (rP rB (rS (rI .u32))) d.v x :: row 32 rH o.v C :: fam 31 (rP rB (rS (rI .u32))) C Z :: rs) w → Z = m0 → l8 (.exit 4) (fr 102 f) w := by
    intro Z f w d5 m3 m4 m5 m6 b ho
    subst ho
    refine l9 _ _ _ (l6 _ _ (sR fun _ m7 => Ym m.v (eh d5) (Ym o.v (eh m5) (bE g fun K m8 g => ?_))))
    replace b := b.k1e
    refine yC (yCall FN_103 (a2 e0 e0)) (exact_product_v2_ok m8 c7 b) ?_
    rintro _ w ⟨q, F, rfl, b⟩
    refine ⟨_, rfl, ?_⟩
    refine Ya q.v e0 (wK m7 (sR fun _ m9 => yBb (rAl b ZT_31) fun L w b => wK m9 (sQ fun _ n0 => sR fun _ n2 => Ym q.v e0 (yY (yLenF SLH_22 e0 b rO3 R4) ?_))))
    refine Ym (iV 0) rfl (wK n2 (blockQ fun n3 n4 => bE g fun n5 n6 g => ?_))
    have n7 : ∀ (y : Bool) (a0 : LI) (z : Hdr) (f : FV) w, f 0 = m.v → f 3 = iV (i.length : Int) → f 4 = d.v → f 7 = iV k → f 9 = q.v → f 10 = (pB L) → St w0 (imm (rI .u32) z.v a0 :: ros) (row 31 (rP rB (rS (rI .u32))) d.v x :: row 32 rH q.v F :: fam 31 (rP rB (rS (rI .u32))) F K :: box L 31 [.bool y, z.v] :: rs) w → (y, a0) = n5 → n3 (.exit 6) (fr 102 f) w := by
     intro y a0 z f w a3 a4 a5 G a6 H b ho
     subst ho
     refine n4 _ _ _ (n0 _ _ (sQ fun _ o0 => bE g fun t9 d6 g => bE g fun c a7 g => ?_))
     refine joinN (n := 102) (fun f w => ∃ (a8 : Nat) (N : Hdr), f 0 = m.v ∧ f 3 = iV (i.length : Int) ∧ f 4 = d.v ∧ f 7 = iV k ∧ f 9 = q.v ∧ f 12 = (pB a8) ∧ St w0 (imm (rI .u32) N.v c.2.1 :: ros) (row 31 (rP rB (rS (rI .u32))) d.v x :: row 32 rH q.v F :: fam 31 (rP rB (rS (rI .u32))) F K :: box a8 31 [.bool c.1, N.v] :: rs) w) (fun a9 => ?_) ?_
     ·refine dR [0, 0, 2, 7, 15, 31, 31, 0, 191, 511] [2, 3, 7, 8, 9] 5 folM ?_
      replace b := b.drew
      refine Dn [0, 1] [] [2, 7] (yR rfl (lbs_ [.bool y, z.v] ST_31 (eh H) b R3) (yR rfl (m_ (iV k) (eh G)) (Rn QSn ?_)))
      refine Lc rfl ?_ (Lc1 rfl ?_)
      ·refine Lk wn (yCall FN_82 (a1 e0)) (integer_FromInt_ok d6 b) ?_
       rintro _ w ⟨o2, rfl, b⟩
       refine ⟨_, rfl, ?_⟩
       refine Dn [] [0] [3, 7] (Rn (yS rfl (lbs_ [.bool y, z.v] ST_31 (eh H) b R3) QSn) ?_)
       refine Lc rfl ?_ (Lc1 rfl ?_)
       ·refine Lk wn (yCall FN_81 (a2 e0 e0)) (integer_Quo_ok a7 F1 F0 b) ?_
        rintro _ w ⟨j, rfl, b⟩
        refine ⟨_, rfl, ?_⟩
        refine Dn [4, 5, 6] [] [7] (yR rfl (m_ (.tuple #[.agg #[.bool c.1, j.v], iV c.2.2]) e0) (yR rfl (x_ (.agg #[.bool c.1, j.v]) e0) (yR rfl (x_ (iV c.2.2) e0) (Rn QSn ?_))))
        refine Lc1 rfl ?_
        refine LB wn (rAl b ZT_31) fun d7 w b => Dn [] [4, 5, 6] [8] (Rn (yS rfl (m_ (.tuple #[.agg #[.bool c.1, j.v], iV c.2.2]) e0) (yS rfl (x_ (.agg #[.bool c.1, j.v]) e0) (yS rfl (x_ (iV c.2.2) e0) QSn))) ?_)
        refine Lc1 rfl ?_
        refine LT wn (r_stbn (vals' := [.bool c.1, j.v]) (us := [.bool c.1, j.v]) b ST_31 e0 e0 rfl rfl (one_of rfl) rfl) fun w b => Dn [] [6] [9] (Rn (yS rfl (x_ (iV c.2.2) e0) QSn) ?_)
        refine Lc1 rfl ?_
        exact Ly wn (a_ (iV c.2.2) e0) (Dz [] [] (Rn QSn (a9 _ _ ⟨_, _, a3, a4, a5, G, a6, rfl, ((b.k1u).facts (allC F0 (allT (allT (allT allI)))))⟩)))
       ·refine LB wn (rAl b ZT_31) fun d7 w b => Dn [] [0] [3] (Rn (yS rfl (lbs_ [.bool y, z.v] ST_31 (eh H) b R4) QSn) ?_)
        refine Lc1 rfl ?_
        refine Lk wn (yCall FN_81 (a2 e0 e0)) (integer_Quo_ok a7 F1 F0 b) ?_
        rintro _ w ⟨j, rfl, b⟩
        refine ⟨_, rfl, ?_⟩
        refine Dn [4, 5, 6] [] [8] (yR rfl (m_ (.tuple #[.agg #[.bool c.1, j.v], iV c.2.2]) e0) (yR rfl (x_ (.agg #[.bool c.1, j.v]) e0) (yR rfl (x_ (iV c.2.2) e0) (Rn QSn ?_))))
        refine Lc1 rfl ?_
        refine LT wn (r_stbn (vals' := [.bool c.1, j.v]) (us := [.bool c.1, j.v]) b ST_31 e0 e0 rfl rfl (one_of rfl) rfl) fun w b => Dn [] [6] [9] (Rn (yS rfl (x_ (iV c.2.2) e0) QSn) ?_)
        refine Lc1 rfl ?_
        exact Ly wn (a_ (iV c.2.2) e0) (Dz [] [] (Rn QSn (a9 _ _ ⟨_, _, a3, a4, a5, G, a6, rfl, ((b.k1u).facts (allC F0 (allT (allT (allT allI)))))⟩)))
      ·refine LB wn (rAl b ZT_31) fun d7 w b => Dn [] [0, 1] [2] (Rn (yS rfl (lbs_ [.bool y, z.v] ST_31 (eh H) b R4) (yS rfl (m_ (iV k) (eh G)) QSn)) ?_)
       refine Lc1 rfl ?_
       refine Lk wn (yCall FN_82 (a1 e0)) (integer_FromInt_ok d6 b) ?_
       rintro _ w ⟨o2, rfl, b⟩
       refine ⟨_, rfl, ?_⟩
       refine Dn [] [0] [3] (Rn (yS rfl (lbs_ [.bool y, z.v] ST_31 (eh H) b R4) QSn) ?_)
       refine Lc1 rfl ?_
       refine Lk wn (yCall FN_81 (a2 e0 e0)) (integer_Quo_ok a7 F1 F0 b) ?_
       rintro _ w ⟨j, rfl, b⟩
       refine ⟨_, rfl, ?_⟩
       refine Dn [4, 5, 6] [] [8] (yR rfl (m_ (.tuple #[.agg #[.bool c.1, j.v], iV c.2.2]) e0) (yR rfl (x_ (.agg #[.bool c.1, j.v]) e0) (yR rfl (x_ (iV c.2.2) e0) (Rn QSn ?_))))
       refine Lc1 rfl ?_
       refine LT wn (r_stbn (vals' := [.bool c.1, j.v]) (us := [.bool c.1, j.v]) b ST_31 e0 e0 rfl rfl (one_of rfl) rfl) fun w b => Dn [] [6] [9] (Rn (yS rfl (x_ (iV c.2.2) e0) QSn) ?_)
       refine Lc1 rfl ?_
       exact Ly wn (a_ (iV c.2.2) e0) (Dz [] [] (Rn QSn (a9 _ _ ⟨_, _, a3, a4, a5, G, a6, rfl, ((b.k1u).facts (allC F0 (allT (allT (allT allI)))))⟩)))
     rintro f w ⟨a8, N, o3, d8, d9, e1, o4, o5, b⟩
     refine o0 _ _ (wR (Ym d.v (eh d9) (Ym (iV (i.length : Int)) (eh d8) (Ym (iV k) (eh e1) (yY (ysub e0 e0) (yY (lbs_ [.bool c.1, N.v] ST_31 (eh o5) b R3) (bE g fun o6 o7 g => yC (yCall FN_80 (a1 e0)) (integer_Neg_ok o7 F0 b) ?_)))))))
     rintro _ w ⟨p0, rfl, b⟩
     refine ⟨_, rfl, ?_⟩
     refine Ym q.v (eh o4) (bE g fun u0 e2 g => yY (yIs SL_32 e0 e0 b rO0 e2) (yT (r_stn (cs := [.bool o6.1, p0.v]) b ST_31 e0 e0 rfl (mkP mkB (mkS F0)) e2) fun w b => Ya q.v e0 (wN (l5 _ _ _ (l4 _ _ (wR (Ym (iV k) (eh e1) (yY (yadd e0 rfl) (Ya (iV (wa .i64 k 1)) e0 (wN ?_))))))))))
     cases g
     exact k8 _ _ _ rfl ⟨_, _, _, _, _, _, rfl, rfl, o3, d8, d9, rfl, rfl, ((b.k1v).facts (allT (allT allI)))⟩
    replace b := b.immNh (rI .u32)
    refine loopQ (fun s a w => ∃ (O : Bool) (b0 : LI) (A : Int) (f : FV) (R : Hdr), (O, b0, A) = s ∧ a = fr 102 f ∧ f 0 = m.v ∧ f 3 = iV (i.length : Int) ∧ f 4 = d.v ∧ f 7 = iV k ∧ f 9 = q.v ∧ f 10 = (pB L) ∧ f 72 = iV (K.length : Int) ∧ f 73 = iV A ∧ St w0 (imm (rI .u32) R.v b0 :: ros) (row 31 (rP rB (rS (rI .u32))) d.v x :: row 32 rH q.v F :: fam 31 (rP rB (rS (rI .u32))) F K :: box L 31 [.bool O, R.v] :: rs) w) n6 ⟨_, _, _, _, _, rfl, rfl, d5, m3, m4, m6, rfl, rfl, rfl, rfl, (b.k1w)⟩ ?_
    rintro _ _ w u1 ⟨O, b0, A, f, R, rfl, rfl, e3, e4, e5, e6, b1, S, e7, b2, b⟩ r p1 u2 p2 p3
    refine sR fun _ p4 => yY (ylss (eh b2) (eh e7)) (wK p4 (seqQ fun u3 p5 p6 => ?_))
    refine cIf e0 r (fun p7 r => ?_) fun p7 r => ?_
    ·refine wp_skip (p5 _ _ (sQ fun _ p8 => blockQ fun _ p9 => sR fun _ q0 => Ym (iV A) (eh b2) (Ya (iV A) e0 (wK q0 (bE r fun u4 b3 r => bE r fun q2 e8 r => bE r fun e9 q3 r => dR [0, 0, 0, 6, 14, 0, 62, 126, 255, 511] [8, 9] 2 folM ?_)))))
     replace b := b.drew
     refine Dn [0, 1, 2, 3, 4, 5, 6, 7] [] [8] (yR rfl (lbs_ [.bool O, R.v] ST_31 (eh S) b R3) (yR rfl (m_ q.v (eh b1)) (yR rfl (m_ (iV A) e0) ?_)))
     obtain ⟨u5, T⟩ := b.famI R2 b3
     refine yR rfl (yIa SLH_22 e0 e0 b rO1 T) (yR rfl (yF1 O_32 e0 b rO1 T rfl) (yR rfl (m_ (iV A) e0) (yR rfl (yIa SL_32 e0 e0 b (rdF R2 T b3) e8) ?_)))
     obtain ⟨u6, u7, cc378, b⟩ := b.ld (rdF R2 T b3) e8
     replace b := b.eltP
     obtain ⟨u8, u9, rfl, b⟩ := b
     replace b := b.eltB
     obtain ⟨rfl, b⟩ := b
     replace b := b.eltS
     obtain ⟨q4, rfl, b⟩ := b
     refine yR rfl (yCn (cs := [.bool q2.1, q4.v]) ST_31 rfl e0 cc378) (Rn QSn ?_)
     refine Lc1 rfl ?_
     refine Lk wn (yCall FN_75 (a2 e0 e0)) (integer_Add_ok q3 F1 F0 b) ?_
     rintro _ w ⟨f0, rfl, b⟩
     refine ⟨_, rfl, ?_⟩
     refine Dn [] [] [9] (Rn QSn ?_)
     refine Lc1 rfl ?_
     replace b := b.k13
     refine LT wn (r_stbn (vals' := [.bool e9.1, f0.v]) (us := [.bool e9.1, f0.v]) b ST_31 (eh S) e0 rfl rfl (one_of rfl) rfl) fun w b => Dz [] [] (Rn QSn (p9 _ _ _ (p8 _ _ (wR (yY (yadd (eh b2) rfl) (Ym (iV (wa .i64 A 1)) e0 (wN ?_)))))))
     cases r
     exact p2 _ _ _ rfl ⟨_, _, _, _, _, rfl, rfl, e3, e4, e5, e6, b1, S, e7, rfl, ((b.k1i).facts (allC F0 (allT (allT (allT allI)))))⟩
    ·refine wp_exit (p6 _ _ _ rfl ?_)
     cases r
     exact p3 _ _ _ _ rfl rfl (n7 _ _ _ _ _ e3 e4 e5 e6 b1 S b (p1 _ rfl))
   refine loopQ (fun s a w => ∃ (b4 : List (List (Bool × LI))) (p : Int) (f : FV), (b4, p) = s ∧ a = fr 102 f ∧ f 0 = m.v ∧ f 3 = iV (i.length : Int) ∧ f 4 = d.v ∧ f 5 = o.v ∧ f 7 = iV k ∧ f 42 = iV (J.length : Int) ∧ f 43 = iV p ∧ St w0 ros (row 31 (rP rB (rS (rI .u32))) d.v x :: row 32 rH o.v C :: fam 31 (rP rB (rS (rI .u32))) C b4 :: rs) w) m1 ⟨_, _, _, rfl, rfl, j9, d1, d2, d3, d4, rfl, rfl, b⟩ ?_
   rintro _ _ w v0 ⟨b4, p, f, rfl, rfl, f1, b5, b6, I, b7, f2, b8, b⟩ h q5 v1 q6 q7
   refine sR fun _ q8 => yY (ylss (eh b8) (eh f2)) (wK q8 (seqQ fun v2 q9 r0 => ?_))
   refine cIf e0 h (fun r1 h => ?_) fun r1 h => ?_
   ·refine wp_skip (q9 _ _ (sQ fun _ r2 => blockQ fun _ r3 => sR fun _ r4 => Ym (iV p) (eh b8) (Ya (iV p) e0 (wK r4 (bE h fun v3 b9 h => bE h fun v4 c0 h => bE h fun r5 f3 h => bE h fun r7 f4 h => ?_)))))
    refine bE h fun r8 r9 h => bE h fun v5 f5 h => bE h fun v6 s0 h => dR [0, 0, 3, 7, 0, 0, 0, 96, 224, 0, 992, 2016, 0, 0, 0, 24576, 57344, 126976, 258048, 524256, 1048575, 2097151] [19, 21] 2 folM ?_
    replace b := b.drew
    refine Dn [0, 1, 2, 3, 4, 5, 6, 7, 8, 9, 10, 11, 12, 13, 14, 15, 16, 17, 18] [] [19] (yR rfl (m_ o.v (eh I)) (yR rfl (m_ (iV p) e0) ?_))
    obtain ⟨v7, D⟩ := b.famI R2 b9
    refine yR rfl (yIa SLH_22 e0 e0 b rO1 D) (yR rfl (yF1 O_32 e0 b rO1 D rfl) (yR rfl (m_ (iV p) e0) (yR rfl (m_ o.v (eh I)) (yR rfl (m_ (iV p) e0) ?_))))
    obtain ⟨v8, U⟩ := b.famI R2 c0
    refine yR rfl (yIa SLH_22 e0 e0 b rO1 U) (yR rfl (yF1 O_32 e0 b rO1 U rfl) (yR rfl (m_ (iV p) e0) (yR rfl (yIa SL_32 e0 e0 b (rdF R2 U c0) f3) ?_)))
    obtain ⟨v9, w1, cc394, b⟩ := b.ld (rdF R2 U c0) f3
    replace b := b.eltP
    obtain ⟨w2, w3, rfl, b⟩ := b
    replace b := b.eltB
    obtain ⟨rfl, b⟩ := b
    replace b := b.eltS
    obtain ⟨s1, rfl, b⟩ := b
    refine yR rfl (yCn (cs := [.bool r5.1, s1.v]) ST_31 rfl e0 cc394) (yR rfl (m_ d.v (eh b6)) (yR rfl (m_ (iV (i.length : Int)) (eh b5)) (yR rfl (m_ (iV k) (eh b7)) (yR rfl (ysub e0 e0) (yR rfl (yadd e0 rfl) (yR rfl (yIa SL_32 e0 e0 b rO0 f4) ?_))))))
    obtain ⟨w4, w5, cc397, b⟩ := b.ld rO0 f4
    replace b := b.eltP
    obtain ⟨w6, w7, rfl, b⟩ := b
    replace b := b.eltB
    obtain ⟨rfl, b⟩ := b
    replace b := b.eltS
    obtain ⟨s2, rfl, b⟩ := b
    refine yR rfl (yCn (cs := [.bool r7.1, s2.v]) ST_31 rfl e0 cc397) (Rn QSn ?_)
    refine Lc1 rfl ?_
    refine Lk wn (yCall FN_75 (a2 e0 e0)) (integer_Add_ok r9 F1 F0 b) ?_
    rintro _ w ⟨s3, rfl, b⟩
    refine ⟨_, rfl, ?_⟩
    refine Dn [20] [0, 1, 2, 3, 4] [21] (yR rfl (yIs SL_32 e0 e0 b (rdF R2 D b9) f5) (Rn (yS rfl (m_ o.v (eh I)) (yS rfl (m_ (iV p) e0) (yS rfl (yIa SLH_22 e0 e0 b rO1 D) (yS rfl (yF1 O_32 e0 b rO1 D rfl) (yS rfl (m_ (iV p) e0) QSn))))) ?_))
    refine Lc1 rfl ?_
    replace b := b.k19
    refine LT wn (r_stn (cs := [.bool r8.1, s3.v]) (b.foc D b9) ST_31 e0 e0 rfl (mkP mkB (mkS F0)) f5) fun w b => ?_
    replace b := b.unfoc' D s0
    refine Dz [] [] (Rn QSn (r3 _ _ _ (r2 _ _ (wR (yY (yadd (eh b8) rfl) (Ym (iV (wa .i64 p 1)) e0 (wN ?_)))))))
    cases h
    exact q6 _ _ _ rfl ⟨_, _, _, rfl, rfl, f1, b5, b6, I, b7, f2, rfl, ((b.k1e).facts (allT (allT (allT allI))))⟩
   ·refine wp_exit (r0 _ _ _ rfl ?_)
    cases h
    exact q7 _ _ _ _ rfl rfl (m2 _ _ _ f1 b5 b6 I b7 b (q5 _ rfl))
  ·refine wp_exit (l1 _ _ _ rfl ?_)
   cases g
   exact k9 _ _ _ _ rfl rfl (j6 _ _ _ d2 (b.k1x) (k0 _ rfl))
 refine loopQ (fun s a w => ∃ (c1 : List (List (Bool × LI))) (E : Int) (f : FV) (c2 : List Hdr), (c1, E) = s ∧ a = fr 102 f ∧ f 0 = m.v ∧ f 3 = iV (i.length : Int) ∧ f 4 = d.v ∧ f 5 = B.v ∧ f 26 = iV (h1.length : Int) ∧ f 27 = iV E ∧ St w0 ros (row 31 (rP rB (rS (rI .u32))) d.v c9 :: row 32 rH B.v c2 :: fam 31 (rP rB (rS (rI .u32))) c2 c1 :: rs) w) i4 ⟨_, _, _, _, rfl, rfl, rfl, rfl, rfl, rfl, rfl, rfl, ((b.k19).facts (allT allI))⟩ ?_
 rintro _ _ w w8 ⟨c1, E, f, c2, rfl, rfl, f6, c3, f7, c4, f8, c5, b⟩ t s4 w9 s5 s6
 refine sR fun _ s7 => yY (ylss (eh c5) (eh f8)) (wK s7 (seqQ fun x0 s8 s9 => ?_))
 refine cIf e0 t (fun t0 t => ?_) fun t0 t => ?_
 ·refine wp_skip (s8 _ _ (sQ fun _ t1 => blockQ fun _ t2 => sR fun _ t3 => Ym (iV E) (eh c5) (Ya (iV E) e0 (wK t3 (wR (Ym B.v (eh c4) (Ym (iV E) e0 (Ym (iV (i.length : Int)) (eh c3) ?_))))))))
  refine bE t fun x2 t4 t => yH (rMk b SL_32 e0 t4) fun f9 w b => bE t fun x3 g0 t => ?_
  obtain ⟨x4, c6⟩ := setI_len (u := f9) g0 (b.famL (mtR (mtR (mtR mhR))))
  refine yY (yIs SLH_22 e0 e0 b rO2 c6) (yT (r_sti (cs := [f9.v]) (b.k19) O_32 rfl e0 e0 rfl (mkF rfl) c6) fun w b => ?_)
  replace b := (b.k1y).fput c6 g0
  refine wN (t2 _ _ _ (t1 _ _ (wR (yY (yadd (eh c5) rfl) (Ym (iV (wa .i64 E 1)) e0 (wN ?_))))))
  cases t
  exact s5 _ _ _ rfl ⟨_, _, _, _, rfl, rfl, f6, c3, f7, c4, f8, rfl, (b.k1z)⟩
 ·refine wp_exit (s9 _ _ _ rfl ?_)
  cases t
  exact s6 _ _ _ _ rfl rfl (i5 _ _ _ _ f6 c3 f7 c4 b (s4 _ rfl))
theorem exact_Inertia_ok {t : List (List (Bool × LI))} {d : Hdr} {out : Int × Int × Int × Int} (c : exact_Inertia t = some out) (n : imm (rS (rP rB (rS (rI .u32)))) d.v t ∈ ros) (b : St w0 ros rs w) :
  Calls Tryz.prog 14 #[d.v] w (fun e w => e = .returned (.tuple #[iV out.1, iV out.2.1, iV out.2.2.1, iV out.2.2.2]) ∧ St w0 ros rs w) := by
 refine enterQ Tryz.func14 rfl Tryz.ntmps14 rfl fun Q O => sR fun _ g0 => Ya (iV 0) rfl (Ya (iV 0) rfl (Ya (iV 0) rfl (Ya (iV 0) rfl (wK g0 (sR fun _ g1 => Ym d.v e0 (bE c fun D g2 c => yC (yCall FN_52 (a1 e0)) (exact_square_ok g2 n b) ?_))))))
 rintro _ w ⟨rfl, b⟩
 refine ⟨_, rfl, ?_⟩
 refine Ya (iV D) e0 (wK g1 (seqQ fun t0 g3 g4 => sR fun _ g5 => Ym (iV D) e0 (yY (yneq e0 rfl) (wK g5 ?_))))
 rcases iteS c with ⟨R, c⟩ | ⟨R, c⟩
 ·refine condF e0 (nF (dT R)) (wp_skip (g3 _ _ (seqQ fun t1 g6 g7 => sR fun _ g8 => Ym d.v e0 (yY (yLen SL_22 e0 b (rdI n)) (Ym (iV 0) rfl (wK g8 (blockQ fun a7 a8 => bE c fun a9 g9 c => ?_)))))))
  have h0 : ∀ (f : FV) w, f 0 = d.v → f 3 = iV 0 → f 4 = iV 0 → St w0 ros rs w → .inl () = a9 → a7 (.exit 0) (fr 89 f) w := by
   intro f w b0 h1 h3 b ho
   subst ho
   refine a8 _ _ _ (g6 _ _ (sR fun _ h4 => Ym d.v (eh b0) (bE c fun t2 h5 c => ?_)))
   replace b := b.immNh (rP rB (rS (rI .u32)))
   refine yC (yCall FN_54 (a2 e0 rfl)) (exact_twin_ok h5 (mtF n) F0 b) ?_
   rintro _ w ⟨t3, t4, rfl, b⟩
   refine ⟨_, rfl, ?_⟩
   refine bE c fun o h6 c => ?_
   replace b := b.ffz
   refine yC (yCall FN_53 (a1 e0)) (exact_characteristic_ok h6 F0 b) ?_
   rintro _ w ⟨h, rfl, b⟩
   refine ⟨_, rfl, ?_⟩
   refine Ya h.v e0 (wK h4 (sQ fun _ h7 => blockQ fun h8 h9 => bE c fun i0 i1 c => ?_))
   have i2 : ∀ (k : Int) (f : FV) w, f 0 = d.v → f 3 = iV k → f 4 = iV 0 → f 10 = h.v → St w0 ros (row 31 (rP rB (rS (rI .u32))) h.v o :: rs) w → k = i0 → h8 (.exit 4) (fr 89 f) w := by
    intro k f w i3 i4 i5 i6 b ho
    subst ho
    refine h9 _ _ _ (h7 _ _ (sR fun _ i7 => Ya (iV 0) rfl (wK i7 (sQ fun _ i8 => sR fun _ i9 => Ym h.v (eh i6) (yY (yLen SL_32 e0 b rO0) (Ym (iV 0) rfl (wN ?_)))))))
    refine i9 _ _ (blockQ fun j0 j1 => bE c fun j2 j3 c => ?_)
    have j4 : ∀ (u : Int) (f : FV) w, f 0 = d.v → f 3 = iV k → f 4 = iV u → St w0 ros rs w → u = j2 → j0 (.exit 6) (fr 89 f) w := by
     intro u f w j5 b1 b2 b ho
     subst ho
     refine j1 _ _ _ (i8 _ _ (sR fun _ j6 => Ym d.v (eh j5) (yY (yLen SL_22 e0 b (rdI n)) (Ym (iV k) (eh b1) (yY (ysub e0 e0) (Ym (iV u) (eh b2) (yY (ysub e0 e0) (Ym (iV k) (eh b1) (Ym (iV u) (eh b2) (Ya (iV (ws .i64 (ws .i64 (t.length : Int) k) u)) e0 (Ya (iV k) e0 ?_)))))))))))
     refine Ya (iV u) e0 (Ya (iV 0) rfl (wK j6 (wp_ret ?_)))
     cases c
     exact O _ _ _ (fin4r Tryz.results14 ⟨rfl, rfl⟩ ⟨rfl, rfl⟩ ⟨rfl, rfl⟩ ⟨rfl, rfl⟩ ⟨rfl, b⟩)
    refine loopQ (fun s a w => ∃ (B A r : Int) (f : FV), (B, A, r) = s ∧ a = fr 89 f ∧ f 0 = d.v ∧ f 3 = iV k ∧ f 4 = iV B ∧ f 11 = iV A ∧ f 63 = h.v ∧ f 64 = iV (o.length : Int) ∧ f 65 = iV r ∧ St w0 ros (row 31 (rP rB (rS (rI .u32))) h.v o :: rs) w) j3 ⟨_, _, _, _, rfl, rfl, i3, i4, i5, rfl, rfl, rfl, rfl, b⟩ ?_
    rintro _ _ w b3 ⟨B, A, r, f, rfl, rfl, S, T, U, V, W, X, E, b⟩ j j7 t5 j8 j9
    refine sR fun _ k0 => yY (ylss (eh E) (eh X)) (wK k0 (seqQ fun t6 k7 k8 => ?_))
    refine cIf e0 j (fun k9 j => ?_) fun k9 j => ?_
    ·refine wp_skip (k7 _ _ (sQ fun _ l0 => blockQ fun l1 l2 => sR fun _ l3 => bE j fun F b4 j => yY (yIa SL_32 (eh W) (eh E) b rO0 b4) ?_))
     obtain ⟨t7, t8, cc187, b⟩ := b.ld rO0 b4
     replace b := b.eltP
     obtain ⟨t9, u0, rfl, b⟩ := b
     replace b := b.eltB
     obtain ⟨rfl, b⟩ := b
     replace b := b.eltS
     obtain ⟨G, rfl, b⟩ := b
     refine yY (yCn (cs := [.bool F.1, G.v]) ST_31 rfl e0 cc187) (yBb (rAl b ZT_31) fun u1 w b => yT (r_stbn (vals' := [.bool F.1, G.v]) (us := [.bool F.1, G.v]) b ST_31 e0 e0 rfl rfl (one_of rfl) rfl) fun w b => wK l3 (sR fun _ l4 => yY (lbs_ [.bool F.1, G.v] ST_31 e0 b R0) (bE j fun x l5 j => yC (yCall FN_29 (a1 e0)) (integer_Sign_ok l5 F0 b) ?_)))
     rintro _ w ⟨rfl, b⟩
     refine ⟨_, rfl, ?_⟩
     refine Ya (iV x) e0 (wK l4 (sQ fun l6 l7 => sR fun _ l8 => Ym (iV x) e0 (Ym (iV A) (eh V) (yY (ymul e0 e0) (yY (ylss e0 rfl) (wK l8 ?_))))))
     have b5 : ∀ (C : Int) (f : FV) w, f 0 = d.v → f 3 = iV k → f 4 = iV C → f 11 = iV A → f 14 = iV x → f 63 = h.v → f 64 = iV (o.length : Int) → f 65 = iV r → St w0 ros (row 31 (rP rB (rS (rI .u32))) h.v o :: rs) w → exact_Inertia_j12 x r A C = some b3 → l6 .normal (fr 89 f) w := by
      intro C f w b6 b7 b8 l9 b9 c0 c1 c2 b c
      refine l7 _ _ (sR fun _ m0 => Ym (iV x) (eh b9) (yY (yneq e0 rfl) (wK m0 ?_)))
      have c3 : ∀ (Z : Int) (f : FV) w, f 0 = d.v → f 3 = iV k → f 4 = iV C → f 11 = iV Z → f 63 = h.v → f 64 = iV (o.length : Int) → f 65 = iV r → St w0 ros (row 31 (rP rB (rS (rI .u32))) h.v o :: rs) w → exact_Inertia_j13 C r Z = some b3 → l1 .normal (fr 89 f) w := by
       intro Z f w m1 m2 m3 m4 m5 m6 m7 b c
       refine l2 _ _ _ (l0 _ _ (wR (yY (yadd (eh m7) rfl) (Ym (iV (wa .i64 r 1)) e0 (wN ?_)))))
       cases c
       exact j8 _ _ _ rfl ⟨_, _, _, _, rfl, rfl, m1, m2, m3, m4, m5, m6, rfl, b⟩
      rcases iteS c with ⟨a0, c⟩ | ⟨a0, c⟩
      ·exact condF e0 (nF (dT a0)) (wp_skip (c3 _ _ _ b6 b7 b8 l9 c0 c1 c2 b c))
      ·exact condT e0 (nT (dF a0)) (wR (Ym (iV x) (eh b9) (Ya (iV x) e0 (wN (c3 _ _ _ b6 b7 b8 rfl c0 c1 c2 b c)))))
     refine cIf e0 j (fun m8 j => ?_) fun m8 j => ?_
     ·exact wR (Ym (iV B) (eh U) (yY (yadd e0 rfl) (Ya (iV (wa .i64 B 1)) e0 (wN (b5 _ _ _ S T rfl V rfl W X E ((b.k20).facts (allT allI)) j)))))
     ·exact wp_skip (b5 _ _ _ S T U V rfl W X E ((b.k20).facts (allT allI)) j)
    ·refine wp_exit (k8 _ _ _ rfl ?_)
     cases j
     exact j9 _ _ _ _ rfl rfl (j4 _ _ _ S T U (b.k10) (j7 _ rfl))
   refine loopQ (fun s a w => ∃ (p : Int) (f : FV), p = s ∧ a = fr 89 f ∧ f 0 = d.v ∧ f 3 = iV p ∧ f 4 = iV 0 ∧ f 10 = h.v ∧ St w0 ros (row 31 (rP rB (rS (rI .u32))) h.v o :: rs) w) i1 ⟨_, _, rfl, rfl, b0, h1, h3, rfl, (b.facts (allT (allT allI)))⟩ ?_
   rintro _ _ w u2 ⟨p, f, rfl, rfl, a3, H, c5, a4, b⟩ y m9 u3 n0 n1
   refine seqQ fun u4 n2 n4 => sR fun _ n5 => Ym (iV p) (eh H) (Ym d.v (eh a3) (yY (yLen SL_22 e0 b (rdI n)) (yY (ylss e0 e0) (Ym (.bool (decide (p < (t.length : Int)))) e0 (bE y fun n7 q y => ?_)))))
   refine joinW 7 (fun f w => f 0 = d.v ∧ f 3 = iV p ∧ f 4 = iV 0 ∧ f 10 = h.v ∧ f 60 = .bool n7 ∧ St w0 ros (row 31 (rP rB (rS (rI .u32))) h.v o :: rs) w) (fun c6 => ?_) ?_
   ·rcases iteS q with ⟨i, q⟩ | ⟨i, q⟩
    ·refine yG (dT i) (m_ h.v (eh a4)) (yG (dT i) (m_ (iV p) (eh H)) (bE q fun n8 c7 q => yG (dT i) (yIa SL_32 e0 e0 b rO0 c7) ?_))
     obtain ⟨u5, u6, cc207, b⟩ := b.ld rO0 c7
     replace b := b.eltP
     obtain ⟨u7, u8, rfl, b⟩ := b
     replace b := b.eltB
     obtain ⟨rfl, b⟩ := b
     replace b := b.eltS
     obtain ⟨n9, rfl, b⟩ := b
     refine yG (dT i) (yCn (cs := [.bool n8.1, n9.v]) ST_31 rfl e0 cc207) (bE q fun o0 o1 q => Yc (wG (dT i)) rfl (yCall FN_29 (a1 e0)) (integer_Sign_ok o1 F0 b) ?_)
     rintro _ w ⟨rfl, b⟩
     refine ⟨_, rfl, ?_⟩
     refine yG (dT i) (yeql e0 rfl) (yY (pt_ (.bool (decide (o0 = 0))) e0 (dT i) e0) ?_)
     cases q
     exact c6 _ _ ⟨a3, H, c5, a4, rfl, (b.facts (allT allI))⟩
    ·refine gN (dF i) (gN (dF i) (gN (dF i) (gN (dF i) (gN (dF i) (gN (dF i) (yY (pf_ (.bool false) e0 (dF i) rfl) ?_))))))
     cases q
     exact c6 _ _ ⟨a3, H, c5, a4, rfl, b⟩
   rintro f w ⟨c8, c9, d0, d1, o2, b⟩
   refine wK n5 (cB (eh o2) y (fun o4 y => ?_) fun o4 y => ?_)
   ·refine wp_skip (n2 _ _ (blockQ fun _ o5 => wR (Ym (iV p) (eh c9) (yY (yadd e0 rfl) (Ya (iV (wa .i64 p 1)) e0 (wN (o5 _ _ _ ?_)))))))
    cases y
    exact n0 _ _ _ rfl ⟨_, _, rfl, rfl, c8, rfl, d0, d1, b⟩
   ·refine wp_exit (n4 _ _ _ rfl ?_)
    cases y
    exact n1 _ _ _ _ rfl rfl (i2 _ _ _ c8 c9 d0 d1 b (m9 _ rfl))
  have o7 : ∀ (f : FV) w, f 2 = iV 0 → f 3 = iV 0 → f 4 = iV 0 → f 5 = iV 80 → St w0 ros rs w → .inr () = a9 → a7 .ret (fr 89 f) w := by
   intro f w o8 o9 p0 p1 b ho
   subst ho
   refine a8 _ _ _ (g7 _ _ _ rfl ?_)
   cases c
   exact O _ _ _ (fin4r Tryz.results14 ⟨rfl, o8⟩ ⟨rfl, o9⟩ ⟨rfl, p0⟩ ⟨rfl, p1⟩ ⟨rfl, b⟩)
  refine loopQ (fun s a w => ∃ (l : Int) (f : FV), l = s ∧ a = fr 89 f ∧ f 0 = d.v ∧ f 3 = iV 0 ∧ f 4 = iV 0 ∧ f 20 = d.v ∧ f 21 = iV (t.length : Int) ∧ f 22 = iV l ∧ St w0 ros rs w) g9 ⟨_, _, rfl, rfl, rfl, rfl, rfl, rfl, rfl, rfl, b⟩ ?_
  rintro _ _ w u9 ⟨l, f, rfl, rfl, d2, d3, d4, d5, d6, I, b⟩ m d7 v0 p2 d8
  refine sR fun _ p3 => yY (ylss (eh I) (eh d6)) (wK p3 (seqQ fun v1 p4 p5 => ?_))
  refine cIf e0 m (fun p6 m => ?_) fun p6 m => ?_
  ·refine wp_skip (p4 _ _ (seqQ fun v2 p7 p8 => blockQ fun _ d9 => sR fun _ p9 => Ym (iV l) (eh I) (bE m fun e1 e2 m => yY (yIa SL_22 (eh d5) (eh I) b (rdI n) e2) ?_)))
   obtain ⟨J, b⟩ := iLs b n e2
   refine yY (yCt O_32 e0 b F1 rfl) (Ya (iV l) e0 (Ya J.v e0 (wK p9 (sR fun _ q0 => Ym J.v e0 (yY (yLen SL_32 e0 b (rdI F0)) (Ym (iV 0) rfl (wK q0 (blockQ fun e3 e4 => bE m fun e5 q2 m => ?_))))))))
   have q3 : ∀ (f : FV) w, f 0 = d.v → f 3 = iV 0 → f 4 = iV 0 → f 20 = d.v → f 21 = iV (t.length : Int) → f 22 = iV l → St w0 ros rs w → .inl () = e5 → e3 (.exit 2) (fr 89 f) w := by
    intro f w q4 q5 q6 q7 q8 q9 b ho
    subst ho
    refine e4 _ _ _ (d9 _ _ _ (p7 _ _ (wR (yY (yadd (eh q9) rfl) (Ym (iV (wa .i64 l 1)) e0 (wN ?_))))))
    cases m
    exact p2 _ _ _ rfl ⟨_, _, rfl, rfl, q4, q5, q6, q7, q8, rfl, b⟩
   have r0 : ∀ (f : FV) w, f 2 = iV 0 → f 3 = iV 0 → f 4 = iV 0 → f 5 = iV 80 → St w0 ros rs w → .inr () = e5 → e3 .ret (fr 89 f) w := by
    intro f w r1 r2 r4 r5 b ho
    subst ho
    refine e4 _ _ _ (d9 _ _ _ (p8 _ _ _ rfl ?_))
    cases m
    exact d8 _ _ _ _ rfl rfl (o7 _ _ r1 r2 r4 r5 b (d7 _ rfl))
   refine loopQ (fun s a w => ∃ (z : Int) (f : FV), z = s ∧ a = fr 89 f ∧ f 0 = d.v ∧ f 3 = iV 0 ∧ f 4 = iV 0 ∧ f 6 = iV l ∧ f 20 = d.v ∧ f 21 = iV (t.length : Int) ∧ f 22 = iV l ∧ f 27 = J.v ∧ f 28 = iV (e1.length : Int) ∧ f 29 = iV z ∧ St w0 (imm (rP rB (rS (rI .u32))) J.v e1 :: ros) rs w) q2 ⟨_, _, rfl, rfl, d2, d3, d4, rfl, d5, d6, I, rfl, rfl, rfl, (b.facts (allC F0 (allT (allT allI))))⟩ ?_
   rintro _ _ w v3 ⟨z, f, rfl, rfl, a5, e6, e7, e8, e9, f0, f1, f2, f3, K, b⟩ g f4 v4 r6 f5
   refine sR fun _ r7 => yY (ylss (eh K) (eh f3)) (wK r7 (seqQ fun v5 r8 r9 => ?_))
   refine cIf e0 g (fun s0 g => ?_) fun s0 g => ?_
   ·refine wp_skip (r8 _ _ (seqQ fun v6 s1 s2 => blockQ fun _ f6 => sR fun _ s3 => Ym (iV z) (eh K) (bE g fun L f7 g => yY (yIa SL_32 (eh f2) (eh K) b (rdI F0) f7) ?_)))
    obtain ⟨v7, v8, b⟩ := iLd b F0 f7
    obtain ⟨v9, w1, rfl, b⟩ := b.eltP
    obtain ⟨rfl, b⟩ := b.eltB
    obtain ⟨N, rfl, b⟩ := b.eltS
    refine yY (yCtn (cs := [.bool L.1, N.v]) ST_31 rfl e0 b F1) (yBb (rAl b ZT_31) fun w2 w b => Ya (iV z) e0 (yT (r_stbn (vals' := [.bool L.1, N.v]) (us := [.bool L.1, N.v]) b ST_31 e0 e0 rfl rfl (one_of rfl) rfl) fun w b => wK s3 (sQ fun _ s4 => bE g fun w3 f8 g => bE g fun s5 f9 g => bE g fun w4 s6 g => dR [0, 0, 0, 6, 14, 0, 62, 126, 255, 511] [8] 1 folM ?_)))
    replace b := b.drew
    refine Dn [0, 1, 2, 3, 4, 5, 6, 7] [] [8] (yR rfl (lbs_ [.bool L.1, N.v] ST_31 e0 b R0) (yR rfl (m_ d.v (eh a5)) (yR rfl (m_ (iV z) e0) (yR rfl (yIa SL_22 e0 e0 b (rdI (F_3 n)) f8) ?_))))
    obtain ⟨w5, b⟩ := iLs b (F_3 n) f8
    refine yR rfl (yCt O_32 e0 b F1 rfl) (yR rfl (m_ (iV l) (eh e8)) (yR rfl (yIa SL_32 e0 e0 b (rdI F0) f9) ?_))
    obtain ⟨w6, w7, b⟩ := iLd b F0 f9
    obtain ⟨w8, w9, rfl, b⟩ := b.eltP
    obtain ⟨rfl, b⟩ := b.eltB
    obtain ⟨s7, rfl, b⟩ := b.eltS
    refine yR rfl (yCtn (cs := [.bool s5.1, s7.v]) ST_31 rfl e0 b F1) (Rn QSn ?_)
    refine Lc1 rfl ?_
    refine Lk wn (yCall FN_47 (a2 e0 e0)) (integer_Cmp_ok s6 F4 F0 b) ?_
    rintro _ w ⟨rfl, b⟩
    refine ⟨_, rfl, ?_⟩
    refine Dz [9] [] (yR rfl (yneq e0 rfl) (Rn QSn (s4 _ _ ?_)))
    rcases iteS g with ⟨a6, g⟩ | ⟨a6, g⟩
    ·refine condF e0 (nF (dT a6)) (wp_skip (f6 _ _ _ (s1 _ _ (wR (yY (yadd (eh K) rfl) (Ym (iV (wa .i64 z 1)) e0 (wN ?_)))))))
     cases g
     exact r6 _ _ _ rfl ⟨_, _, rfl, rfl, a5, e6, e7, e8, e9, f0, f1, f2, f3, rfl, ((b.k10).facts (allC F6 (allT (allT (allT (allT (allT (allT (allT allI)))))))))⟩
    ·refine condT e0 (nT (dF a6)) (sR fun _ s8 => Ya (iV 0) rfl (Ya (iV 0) rfl (Ya (iV 0) rfl (Ya (iV 80) rfl (wK s8 (wp_ret (f6 _ _ _ (s2 _ _ _ rfl ?_))))))))
     cases g
     exact f5 _ _ _ _ rfl rfl (r0 _ _ rfl rfl rfl rfl ((b.k10).facts (allT (allT (allT (allT (allT (allT (allT allI)))))))) (f4 _ rfl))
   ·refine wp_exit (r9 _ _ _ rfl ?_)
    cases g
    exact f5 _ _ _ _ rfl rfl (q3 _ _ a5 e6 e7 e9 f0 f1 (b.facts (allT allI)) (f4 _ rfl))
  ·refine wp_exit (p5 _ _ _ rfl ?_)
   cases m
   exact d8 _ _ _ _ rfl rfl (h0 _ _ d2 d3 d4 b (d7 _ rfl))
 ·refine condT e0 (nT (dF R)) (sR fun _ s9 => Ym (iV D) e0 (Ya (iV 0) rfl (Ya (iV 0) rfl (Ya (iV 0) rfl (Ya (iV D) e0 (wK s9 (wp_ret (g4 _ _ _ rfl ?_))))))))
  cases c
  exact O _ _ _ (fin4r Tryz.results14 ⟨rfl, rfl⟩ ⟨rfl, rfl⟩ ⟨rfl, rfl⟩ ⟨rfl, rfl⟩ ⟨rfl, b⟩)
theorem sparseref01_trim_ok {u : LI} {d : Hdr} {out : LI} (m : sparseref01_trim u = some out) (o : imm (rI .u32) d.v u ∈ ros) (b : St w0 ros rs w) :
  Calls Tryz.prog 116 #[d.v] w (fun e w => ∃ (C : Hdr), e = .returned (C.v) ∧ St w0 ros (row 103 (rI .u32) C.v out :: rs) w) := by
 refine enterQ Tryz.func116 rfl Tryz.ntmps116 rfl fun Q L => sR fun _ N => Ya hnil.v rfl (wK N (sR fun _ O => Ym d.v e0 (yY (yLen SL_29 e0 b (rdI o)) (Ya (iV (u.length : Int)) e0 (wK O (sQ fun _ R => ?_))))))
 refine blockQ fun S T => bE m fun U V m => ?_
 have W : ∀ (p : Int) (f : FV) w, f 0 = d.v → f 3 = iV p → St w0 ros rs w → p = U → S (.exit 0) (fr 33 f) w := by
  intro p f w X Z b ho
  subst ho
  refine T _ _ _ (R _ _ (sR fun _ a0 => Ya hnil.v rfl (wK a0 (sQ fun _ a1 => sR fun _ a2 => Ya (iV 0) rfl (wK a2 (blockQ fun a3 a4 => ?_))))))
  refine bE m fun a5 a6 m => ?_
  have a7 : ∀ (x : LI) (q : Hdr) (f : FV) w, f 4 = q.v → St w0 ros (row 103 (rI .u32) q.v x :: rs) w → x = a5 → a3 (.exit 2) (fr 33 f) w := by
   intro x q f w a8 b ho
   subst ho
   refine a4 _ _ _ (a1 _ _ (sR fun _ a9 => Ym q.v (eh a8) (Ya q.v e0 (wK a9 (wp_ret ?_)))))
   cases m
   exact L _ _ _ (fin1r Tryz.results116 ⟨rfl, rfl⟩ ⟨_, rfl, b⟩)
  replace b := b.rowNh 103 (rI .u32)
  refine loopQ (fun s a w => ∃ (y : LI) (i : Int) (f : FV) (r : Hdr), (y, i) = s ∧ a = fr 33 f ∧ f 0 = d.v ∧ f 3 = iV p ∧ f 4 = r.v ∧ f 5 = iV i ∧ St w0 ros (row 103 (rI .u32) r.v y :: rs) w) a6 ⟨_, _, _, _, rfl, rfl, X, Z, rfl, rfl, b⟩ ?_
  rintro _ _ w d2 ⟨y, i, f, r, rfl, rfl, D, E, F, z, b⟩ g b0 d3 b1 b2
  refine seqQ fun d4 b3 b4 => sR fun _ b5 => Ym (iV i) (eh z) (Ym (iV p) (eh E) (yY (ylss e0 e0) (wK b5 ?_)))
  refine cIf e0 g (fun b6 g => ?_) fun b6 g => ?_
  ·refine wp_skip (b3 _ _ (sQ fun _ b7 => blockQ fun _ b8 => wR (Ym r.v (eh F) (Ym d.v (eh D) (Ym (iV i) (eh z) (bE g fun A G g => yY (yIa SL_29 e0 e0 b (rdI o) G) (yY (yI O_103 e0 b (rdI o) G) (yH (rLt (n := 1) (l := [A]) b SL_29 [.int .u32 A] (bp1 e0) rfl rfl (mks1 (cs := [.int .u32 A]) rfl mkI mks0)) fun d5 w b => bE g fun d6 b9 g => ?_))))))))
   refine yH (rAp (b.k17) SL_29 e0 e0 rO1 b9) fun c0 w b => Ya c0.v e0 (wN (b8 _ _ _ (b7 _ _ (wR (Ym (iV i) (eh z) (yY (yadd e0 rfl) (Ya (iV (wa .i64 i 1)) e0 (wN ?_))))))))
   cases g
   exact b1 _ _ _ rfl ⟨_, _, _, _, rfl, rfl, D, E, rfl, rfl, (b.k18)⟩
  ·refine wp_exit (b4 _ _ _ rfl ?_)
   cases g
   exact b2 _ _ _ _ rfl rfl (a7 _ _ _ _ F b (b0 _ rfl))
 refine loopQ (fun s a w => ∃ (h : Int) (f : FV), h = s ∧ a = fr 33 f ∧ f 0 = d.v ∧ f 3 = iV h ∧ St w0 ros rs w) V ⟨_, _, rfl, rfl, rfl, rfl, b⟩ ?_
 rintro _ _ w d7 ⟨h, f, rfl, rfl, B, t, b⟩ j c1 d8 c2 c3
 refine seqQ fun d9 c4 c5 => sR fun _ c6 => Ym (iV h) (eh t) (yY (ygtr e0 rfl) (Ym (.bool (decide ((0 : Int) < h))) e0 (bE j fun c7 k j => ?_)))
 refine joinW 7 (fun f w => f 0 = d.v ∧ f 3 = iV h ∧ f 17 = .bool c7 ∧ St w0 ros rs w) (fun H => ?_) ?_
 ·rcases iteS k with ⟨c, k⟩ | ⟨c, k⟩
  ·refine yG (dT c) (m_ d.v (eh B)) (yG (dT c) (m_ (iV h) (eh t)) (yG (dT c) (ysub e0 rfl) (bE k fun c8 I k => yG (dT c) (yIa SL_29 e0 e0 b (rdI o) I) (yG (dT c) (yI O_103 e0 b (rdI o) I) (yG (dT c) (yeql e0 rfl) (yY (pt_ (.bool (decide (c8 = 0))) e0 (dT c) e0) ?_))))))
   cases k
   exact H _ _ ⟨B, t, rfl, b⟩
  ·refine gN (dF c) (gN (dF c) (gN (dF c) (gN (dF c) (gN (dF c) (gN (dF c) (yY (pf_ (.bool false) e0 (dF c) rfl) ?_))))))
   cases k
   exact H _ _ ⟨B, t, rfl, b⟩
 rintro f w ⟨J, K, c9, b⟩
 refine wK c6 (cB (eh c9) j (fun d0 j => ?_) fun d0 j => ?_)
 ·refine wp_skip (c4 _ _ (blockQ fun _ d1 => wR (Ym (iV h) (eh K) (yY (ysub e0 rfl) (Ya (iV (ws .i64 h 1)) e0 (wN (d1 _ _ _ ?_)))))))
  cases j
  exact c2 _ _ _ rfl ⟨_, _, rfl, rfl, J, rfl, b⟩
 ·refine wp_exit (c5 _ _ _ rfl ?_)
  cases j
  exact c3 _ _ _ _ rfl rfl (W _ _ _ J K b (c1 _ rfl))
theorem sparseref01_make1_ok {c : Bool} {j : LI} {h : Hdr} {out : Bool × LI} (i : sparseref01_make1 c j = some out) (o : imm (rI .u32) h.v j ∈ ros) (a : St w0 ros rs w) :
  Calls Tryz.prog 110 #[.bool c, h.v] w (fun e w => ∃ (k : Hdr), e = .returned (.agg #[.bool out.1, k.v]) ∧ St w0 ros (row 103 (rI .u32) k.v out.2 :: rs) w) := by
 refine enterQ Tryz.func110 rfl Tryz.ntmps110 rfl fun Q p => sR fun _ q => yBb (rAl a ZT_31) fun l w a => wK q (sR fun _ r => Ym h.v e0 (bE i fun g s i => yC (yCall FN_116 (a1 e0)) (sparseref01_trim_ok s o a) ?_))
 rintro _ w ⟨d, rfl, a⟩
 refine ⟨_, rfl, ?_⟩
 refine Ya d.v e0 (wK r (sR fun _ t => Ym (.bool c) e0 (Ym (.bool c) e0 ?_)))
 refine joinW 4 (fun f w => f 1 = d.v ∧ f 4 = (pB l) ∧ f 12 = .bool (c && (decide ((0 : Int) < (g.length : Int)))) ∧ St w0 ros (row 103 (rI .u32) d.v g :: box l 31 [.bool false, hnil.v] :: rs) w) (fun m => ?_) ?_
 ·rcases Bool.eq_false_or_eq_true c with b | b
  ·exact yG b (m_ d.v e0) (yG b (yLen SL_29 e0 a rO0) (yG b (ygtr e0 rfl) (yY (pt_ (.bool (decide ((0 : Int) < (g.length : Int)))) e0 b e0) (m _ _ ⟨rfl, rfl, (congrArg Value.bool (andT b)), a⟩))))
  ·exact gN b (gN b (gN b (yY (pf_ (.bool false) e0 b rfl) (m _ _ ⟨rfl, rfl, (congrArg Value.bool (andF b)), a⟩))))
 rintro f w ⟨u, n, x, a⟩
 refine Ym d.v (eh u) (yY (ybuild (us := [.bool (c && (decide ((0 : Int) < (g.length : Int)))), d.v]) [(0, .bool (c && (decide ((0 : Int) < (g.length : Int))))), (1, d.v)] SO_31 (bp2 (eh x) e0) rfl) (yT (r_stbn (vals' := [.bool (c && (decide ((0 : Int) < (g.length : Int)))), d.v]) (us := [.bool (c && (decide ((0 : Int) < (g.length : Int)))), d.v]) (a.k17) ST_31 (eh n) e0 rfl rfl (one_of rfl) rfl) fun w a => wK t (wp_ret ?_)))
 cases i
 exact p _ _ _ (fin1r Tryz.results110 (rcs2 rfl n a R0 ST_31 rfl) ⟨_, rfl, (a.k20)⟩)
theorem sparseref01_Neg_ok {b : Bool} {f : LI} {c : Hdr} {out : Bool × LI} (d : sparseref01_Neg b f = some out) (j : imm (rI .u32) c.v f ∈ ros) (a : St w0 ros rs w) :
  Calls Tryz.prog 71 #[.agg #[.bool b, c.v]] w (fun e w => ∃ (g : Hdr), e = .returned (.agg #[.bool out.1, g.v]) ∧ St w0 ros (row 103 (rI .u32) g.v out.2 :: rs) w) := by
 refine enterQ Tryz.func71 rfl Tryz.ntmps71 rfl fun Q k => sR fun _ l => yBb (r_box (vals := [.bool b, c.v]) a e0 rfl) fun o w a => yBb (rAl a ZT_31) fun p w a => wK l (sR fun _ m => yY (yFb FL_31_0 e0) (yY (lb_ (.bool b) O_4 e0 a R1) (yY (ynot e0) ?_)))
 refine yY (yFb FL_31_1 e0) (yY (lb_ c.v O_29 e0 a R1) (bE d fun h n d => yC (yCall FN_110 (a2 e0 e0)) (sparseref01_make1_ok n j a) ?_))
 rintro _ w ⟨i, rfl, a⟩
 refine ⟨_, rfl, ?_⟩
 refine yT (r_stbn (vals' := [.bool h.1, i.v]) (us := [.bool h.1, i.v]) (a.k17) ST_31 e0 e0 rfl rfl (one_of rfl) rfl) fun w a => wK m (wp_ret ?_)
 cases d
 exact k _ _ _ (fin1r Tryz.results71 (rcs2 rfl rfl a R0 ST_31 rfl) ⟨_, rfl, (a.k11)⟩)
theorem sparseref01_addMag_ok {G B : LI} {i j : Hdr} {out : LI} (c : sparseref01_addMag G B = some out) (u : imm (rI .u32) i.v G ∈ ros) (x : imm (rI .u32) j.v B ∈ ros) (b : St w0 ros rs w) :
  Calls Tryz.prog 142 #[i.v, j.v] w (fun e w => ∃ (H : Hdr), e = .returned (H.v) ∧ St w0 ros (row 103 (rI .u32) H.v out :: rs) w) := by
 refine enterQ Tryz.func142 rfl Tryz.ntmps142 rfl fun Q U => sR fun _ V => Ya hnil.v rfl (wK V (sR fun _ W => Ya hnil.v rfl (wK W (sR fun _ X => Ya (.int .u64 0) rfl ?_))))
 refine wK X (sQ fun _ Z => sR fun _ a0 => Ya (iV 0) rfl (wK a0 (blockQ fun a1 a2 => bE c fun a3 a4 c => ?_)))
 have a5 : ∀ (C : LI) (m : Int) (y : Hdr) (f : FV) w, f 5 = y.v → f 6 = .int .u64 m → St w0 ros (row 103 (rI .u32) y.v C :: rs) w → (C, m) = a3 → a1 (.exit 0) (fr 51 f) w := by
  intro C m y f w a6 a7 b ho
  subst ho
  refine a2 _ _ _ (Z _ _ (sR fun _ a8 => Ym y.v (eh a6) (Ym (.int .u64 m) (eh a7) (yY (ycv (k' := .u32) (by kernel_rfl) (by kernel_rfl) e0) (yH (rLt (n := 1) (l := [wc .u32 m]) b SL_29 [.int .u32 (wc .u32 m)] (bp1 e0) rfl rfl (mks1 (cs := [.int .u32 (wc .u32 m)]) rfl mkI mks0)) fun d7 w b => bE c fun d8 a9 c => yH (rAp (b.k17) SL_29 e0 e0 rO1 a9) fun b0 w b => Ya b0.v e0 (wN ?_))))))
  refine a8 _ _ (wp_ret ?_)
  cases c
  exact U _ _ _ (fin1r Tryz.results142 ⟨rfl, rfl⟩ ⟨_, rfl, (b.k18)⟩)
 replace b := b.rowNh 103 (rI .u32)
 refine loopQ (fun s a w => ∃ (o : LI) (p d : Int) (f : FV) (k : Hdr), (o, p, d) = s ∧ a = fr 51 f ∧ f 0 = i.v ∧ f 1 = j.v ∧ f 5 = k.v ∧ f 6 = .int .u64 p ∧ f 7 = iV d ∧ St w0 ros (row 103 (rI .u32) k.v o :: rs) w) a4 ⟨_, _, _, _, _, rfl, rfl, rfl, rfl, rfl, rfl, rfl, b⟩ ?_
 rintro _ _ w I ⟨o, p, d, f, k, rfl, rfl, q, D, E, F, r, b⟩ g b1 d9 b2 b3
 refine seqQ fun e1 b4 b5 => sR fun _ b6 => Ym (iV d) (eh r) (Ym i.v (eh q) (yY (yLen SL_29 e0 b (rdI u)) (Ym j.v (eh D) (yY (yLen SL_29 e0 b (rdI x)) (yY (ymax e0 e0) (yY (ylss e0 e0) (wK b6 ?_)))))))
 refine cIf e0 g (fun b7 g => ?_) fun b7 g => ?_
 ·refine wp_skip (b4 _ _ (sQ fun _ b8 => blockQ fun _ b9 => sQ fun c0 c1 => sR fun _ c2 => Ym (iV d) (eh r) (Ym i.v (eh q) (yY (yLen SL_29 e0 b (rdI u)) (yY (ylss e0 e0) (wK c2 ?_))))))
  have J : ∀ (t : Int) (f : FV) w, f 0 = i.v → f 1 = j.v → f 5 = k.v → f 6 = .int .u64 t → f 7 = iV d → St w0 ros (row 103 (rI .u32) k.v o :: rs) w → sparseref01_addMag_j6 d B o t = some I → c0 .normal (fr 51 f) w := by
   intro t f w K z L N A b c
   refine c1 _ _ (sQ fun c3 c4 => sR fun _ c5 => Ym (iV d) (eh A) (Ym j.v (eh z) (yY (yLen SL_29 e0 b (rdI x)) (yY (ylss e0 e0) (wK c5 ?_)))))
   have O : ∀ (h : Int) (f : FV) w, f 0 = i.v → f 1 = j.v → f 5 = k.v → f 6 = .int .u64 h → f 7 = iV d → St w0 ros (row 103 (rI .u32) k.v o :: rs) w → sparseref01_addMag_j7 o d h = some I → c3 .normal (fr 51 f) w := by
    intro h f w c6 c7 c8 R c9 b c
    refine c4 _ _ (sR fun _ d0 => Ym k.v (eh c8) (Ym (.int .u64 h) (eh R) (yY (ycv (k' := .u32) (by kernel_rfl) (by kernel_rfl) e0) (yH (rLt (n := 1) (l := [wc .u32 h]) b SL_29 [.int .u32 (wc .u32 h)] (bp1 e0) rfl rfl (mks1 (cs := [.int .u32 (wc .u32 h)]) rfl mkI mks0)) fun e2 w b => bE c fun e3 d1 c => yH (rAp (b.k17) SL_29 e0 e0 rO1 d1) fun d2 w b => Ya d2.v e0 (wK d0 ?_)))))
    refine wR (Ym (.int .u64 h) (eh R) (yY (yshrc e0 rfl) (Ya (.int .u64 (wsrc .u64 h 32)) e0 (wN (b9 _ _ _ (b8 _ _ (wR (Ym (iV d) (eh c9) (yY (yadd e0 rfl) (Ya (iV (wa .i64 d 1)) e0 (wN ?_)))))))))))
    cases c
    exact b2 _ _ _ rfl ⟨_, _, _, _, _, rfl, rfl, c6, c7, rfl, rfl, rfl, (b.k18)⟩
   refine cIf e0 c (fun d3 c => ?_) fun d3 c => ?_
   ·exact wR (Ym (.int .u64 t) (eh N) (Ym j.v (eh z) (Ym (iV d) (eh A) (bE c fun d4 S c => yY (yIa SL_29 e0 e0 b (rdI x) S) (yY (yI O_103 e0 b (rdI x) S) (yY (ycv (k' := .u64) (by kernel_rfl) (by kernel_rfl) e0) (yY (yadd e0 e0) (Ya (.int .u64 (wa .u64 t (wc .u64 d4))) e0 (wN (O _ _ _ K z L rfl A b c))))))))))
   ·exact wp_skip (O _ _ _ K z L N A b c)
  refine cIf e0 g (fun d5 g => ?_) fun d5 g => ?_
  ·exact wR (Ym (.int .u64 p) (eh F) (Ym i.v (eh q) (Ym (iV d) (eh r) (bE g fun d6 T g => yY (yIa SL_29 e0 e0 b (rdI u) T) (yY (yI O_103 e0 b (rdI u) T) (yY (ycv (k' := .u64) (by kernel_rfl) (by kernel_rfl) e0) (yY (yadd e0 e0) (Ya (.int .u64 (wa .u64 p (wc .u64 d6))) e0 (wN (J _ _ _ q D E rfl r b g))))))))))
  ·exact wp_skip (J _ _ _ q D E F r b g)
 ·refine wp_exit (b5 _ _ _ rfl ?_)
  cases g
  exact b3 _ _ _ _ rfl rfl (a5 _ _ _ _ _ E F b (b1 _ rfl))
theorem sparseref01_cmpMag_ok {n z : LI} {h i : Hdr} {out : Int} (d : sparseref01_cmpMag n z = some out) (j : imm (rI .u32) h.v n ∈ ros) (k : imm (rI .u32) i.v z ∈ ros) (b : St w0 ros rs w) :
  Calls Tryz.prog 143 #[h.v, i.v] w (fun e w => e = .returned (iV out) ∧ St w0 ros rs w) := by
 refine enterQ Tryz.func143 rfl Tryz.ntmps143 rfl fun Q m => sR fun _ K => Ya (iV 0) rfl (wK K (seqQ fun b7 L A => sR fun _ N => Ym h.v e0 (yY (yLen SL_29 e0 b (rdI j)) (Ym i.v e0 (yY (yLen SL_29 e0 b (rdI k)) (yY (yneq e0 e0) ?_))))))
 refine wK N ?_
 rcases iteS d with ⟨o, d⟩ | ⟨o, d⟩
 ·refine condF e0 (nF (dT o)) (wp_skip (L _ _ (seqQ fun b8 O R => sR fun _ S => Ym h.v e0 (yY (yLen SL_29 e0 b (rdI j)) (yY (ysub e0 rfl) (Ya (iV (ws .i64 (n.length : Int) 1)) e0 (wK S (blockQ fun B C => bE d fun D T d => ?_))))))))
  have U : ∀ (f : FV) w, St w0 ros rs w → .inl () = D → B (.exit 0) (fr 41 f) w := by
   intro f w b ho
   subst ho
   refine C _ _ _ (O _ _ (sR fun _ V => Ya (iV 0) rfl (wK V (wp_ret ?_))))
   cases d
   exact m _ _ _ (fin1r Tryz.results143 ⟨rfl, rfl⟩ ⟨rfl, b⟩)
  have E : ∀ (p : Int) (f : FV) w, f 4 = iV p → St w0 ros rs w → .inr p = D → B .ret (fr 41 f) w := by
   intro p f w W b ho
   subst ho
   refine C _ _ _ (R _ _ _ rfl ?_)
   cases d
   exact m _ _ _ (fin1r Tryz.results143 ⟨rfl, W⟩ ⟨rfl, b⟩)
  refine loopQ (fun s a w => ∃ (g : Int) (f : FV), g = s ∧ a = fr 41 f ∧ f 0 = h.v ∧ f 1 = i.v ∧ f 5 = iV g ∧ St w0 ros rs w) T ⟨_, _, rfl, rfl, rfl, rfl, rfl, b⟩ ?_
  rintro _ _ w b9 ⟨g, f, rfl, rfl, q, r, l, b⟩ c t c0 X u
  refine seqQ fun c1 Z a0 => sR fun _ a1 => Ym (iV g) (eh l) (yY (ygeq e0 rfl) (wK a1 ?_))
  refine cIf e0 c (fun a2 c => ?_) fun a2 c => ?_
  ·refine wp_skip (Z _ _ (seqQ fun c2 a3 F => blockQ fun _ x => sQ fun _ a4 => bE c fun c3 G c => bE c fun c4 H c => dR [0, 0, 3, 7, 0, 0, 48, 112, 255] [] 0 folM ?_))
   replace b := b.drew
   refine Dz [0, 1, 2, 3, 4, 5, 6, 7, 8] [] (yR rfl (m_ h.v (eh q)) (yR rfl (m_ (iV g) (eh l)) (yR rfl (yIa SL_29 e0 e0 b (rdI j) G) (yR rfl (yI O_103 e0 b (rdI j) G) (yR rfl (m_ i.v (eh r)) (yR rfl (m_ (iV g) (eh l)) (yR rfl (yIa SL_29 e0 e0 b (rdI k) H) (yR rfl (yI O_103 e0 b (rdI k) H) (yR rfl (yneq e0 e0) (Rn QSn (a4 _ _ ?_)))))))))))
   rcases iteS c with ⟨y, c⟩ | ⟨y, c⟩
   ·refine condF e0 (nF (dT y)) (wp_skip (x _ _ _ (a3 _ _ (wR (Ym (iV g) (eh l) (yY (ysub e0 rfl) (Ya (iV (ws .i64 g 1)) e0 (wN ?_))))))))
    cases c
    exact X _ _ _ rfl ⟨_, _, rfl, rfl, q, r, rfl, b⟩
   ·refine condT e0 (nT (dF y)) (seqQ fun c6 a5 a6 => sQ fun _ a7 => bE c fun c7 I c => bE c fun c8 J c => dR [0, 0, 3, 7, 0, 0, 48, 112, 255] [] 0 folM ?_)
    replace b := b.drew
    refine Dz [0, 1, 2, 3, 4, 5, 6, 7, 8] [] (yR rfl (m_ h.v (eh q)) (yR rfl (m_ (iV g) (eh l)) (yR rfl (yIa SL_29 e0 e0 b (rdI j) I) (yR rfl (yI O_103 e0 b (rdI j) I) (yR rfl (m_ i.v (eh r)) (yR rfl (m_ (iV g) (eh l)) (yR rfl (yIa SL_29 e0 e0 b (rdI k) J) (yR rfl (yI O_103 e0 b (rdI k) J) (yR rfl (ylss e0 e0) (Rn QSn (a7 _ _ ?_)))))))))))
    refine cIf e0 c (fun a8 c => ?_) fun a8 c => ?_
    ·refine sR fun _ a9 => Ya (iV (-1)) rfl (wK a9 (wp_ret (a6 _ _ _ rfl (x _ _ _ (F _ _ _ rfl ?_)))))
     cases c
     exact u _ _ _ _ rfl rfl (E _ _ _ rfl b (t _ rfl))
    ·refine wp_skip (a5 _ _ (sR fun _ b0 => Ya (iV 1) rfl (wK b0 (wp_ret (x _ _ _ (F _ _ _ rfl ?_))))))
     cases c
     exact u _ _ _ _ rfl rfl (E _ _ _ rfl b (t _ rfl))
  ·refine wp_exit (a0 _ _ _ rfl ?_)
   cases c
   exact u _ _ _ _ rfl rfl (U _ _ b (t _ rfl))
 ·refine condT e0 (nT (dF o)) (seqQ fun c9 b1 b2 => sR fun _ b3 => Ym h.v e0 (yY (yLen SL_29 e0 b (rdI j)) (Ym i.v e0 (yY (yLen SL_29 e0 b (rdI k)) (yY (ylss e0 e0) (wK b3 ?_))))))
  refine cIf e0 d (fun b4 d => ?_) fun b4 d => ?_
  ·refine sR fun _ b5 => Ya (iV (-1)) rfl (wK b5 (wp_ret (b2 _ _ _ rfl (A _ _ _ rfl ?_))))
   cases d
   exact m _ _ _ (fin1r Tryz.results143 ⟨rfl, rfl⟩ ⟨rfl, b⟩)
  ·refine wp_skip (b1 _ _ (sR fun _ b6 => Ya (iV 1) rfl (wK b6 (wp_ret (A _ _ _ rfl ?_)))))
   cases d
   exact m _ _ _ (fin1r Tryz.results143 ⟨rfl, rfl⟩ ⟨rfl, b⟩)
theorem sparseref01_subMag_ok {B C : LI} {j k : Hdr} {out : LI} (h : sparseref01_subMag B C = some out) (u : imm (rI .u32) j.v B ∈ ros) (x : imm (rI .u32) k.v C ∈ ros) (b : St w0 ros rs w) :
  Calls Tryz.prog 144 #[j.v, k.v] w (fun e w => ∃ (D : Hdr), e = .returned (D.v) ∧ St w0 ros (row 103 (rI .u32) D.v out :: rs) w) := by
 refine enterQ Tryz.func144 rfl Tryz.ntmps144 rfl fun Q I => sR fun _ J => Ya hnil.v rfl (wK J (sR fun _ K => Ya hnil.v rfl (wK K (sR fun _ L => Ya (.int .u64 0) rfl ?_))))
 refine wK L (sQ fun _ N => sR fun _ O => Ya (iV 0) rfl (wK O (blockQ fun R S => bE h fun T U h => ?_)))
 have V : ∀ (y : LI) (p : Hdr) (f : FV) w, f 5 = p.v → St w0 ros (row 103 (rI .u32) p.v y :: rs) w → y = T → R (.exit 0) (fr 41 f) w := by
  intro y p f w W b ho
  subst ho
  refine S _ _ _ (N _ _ (sR fun _ X => Ym p.v (eh W) (Ya p.v e0 (wK X (wp_ret ?_)))))
  cases h
  exact I _ _ _ (fin1r Tryz.results144 ⟨rfl, rfl⟩ ⟨_, rfl, b⟩)
 replace b := b.rowNh 103 (rI .u32)
 refine loopQ (fun s a w => ∃ (q : LI) (i d : Int) (f : FV) (m : Hdr), (q, i, d) = s ∧ a = fr 41 f ∧ f 0 = j.v ∧ f 1 = k.v ∧ f 5 = m.v ∧ f 6 = .int .u64 i ∧ f 7 = iV d ∧ St w0 ros (row 103 (rI .u32) m.v q :: rs) w) U ⟨_, _, _, _, _, rfl, rfl, rfl, rfl, rfl, rfl, rfl, b⟩ ?_
 rintro _ _ w Z ⟨q, i, d, f, m, rfl, rfl, r, t, z, a0, o, b⟩ c a1 c3 a2 a3
 refine seqQ fun c4 a4 a5 => sR fun _ a6 => Ym (iV d) (eh o) (Ym j.v (eh r) (yY (yLen SL_29 e0 b (rdI u)) (yY (ylss e0 e0) (wK a6 ?_))))
 refine cIf e0 c (fun a7 c => ?_) fun a7 c => ?_
 ·refine wp_skip (a4 _ _ (sQ fun _ a8 => blockQ fun _ a9 => sR fun _ b0 => Ym j.v (eh r) (Ym (iV d) (eh o) (bE c fun A E c => yY (yIa SL_29 e0 e0 b (rdI u) E) (yY (yI O_103 e0 b (rdI u) E) (yY (ycv (k' := .u64) (by kernel_rfl) (by kernel_rfl) e0) (Ym (.int .u64 i) (eh a0) (yY (ysub e0 e0) ?_))))))))
  refine Ya (.int .u64 (ws .u64 (wc .u64 A) i)) e0 (wK b0 (sQ fun b1 b2 => sR fun _ b3 => Ym (iV d) (eh o) (Ym k.v (eh t) (yY (yLen SL_29 e0 b (rdI x)) (yY (ylss e0 e0) (wK b3 ?_))))))
  have F : ∀ (g : Int) (f : FV) w, f 0 = j.v → f 1 = k.v → f 5 = m.v → f 7 = iV d → f 8 = .int .u64 g → St w0 ros (row 103 (rI .u32) m.v q :: rs) w → sparseref01_subMag_j4 q d g = some Z → b1 .normal (fr 41 f) w := by
   intro g f w b4 b5 b6 b7 G b h
   refine b2 _ _ (sR fun _ b8 => Ym m.v (eh b6) (Ym (.int .u64 g) (eh G) (yY (ycv (k' := .u32) (by kernel_rfl) (by kernel_rfl) e0) (yH (rLt (n := 1) (l := [wc .u32 g]) b SL_29 [.int .u32 (wc .u32 g)] (bp1 e0) rfl rfl (mks1 (cs := [.int .u32 (wc .u32 g)]) rfl mkI mks0)) fun c5 w b => bE h fun c6 b9 h => yH (rAp (b.k17) SL_29 e0 e0 rO1 b9) fun c0 w b => Ya c0.v e0 (wK b8 ?_)))))
   refine wR (Ym (.int .u64 g) (eh G) (yY (yshrc e0 rfl) (Ya (.int .u64 (wsrc .u64 g 63)) e0 (wN (a9 _ _ _ (a8 _ _ (wR (Ym (iV d) (eh b7) (yY (yadd e0 rfl) (Ya (iV (wa .i64 d 1)) e0 (wN ?_)))))))))))
   cases h
   exact a2 _ _ _ rfl ⟨_, _, _, _, _, rfl, rfl, b4, b5, rfl, rfl, rfl, (b.k18)⟩
  refine cIf e0 c (fun c1 c => ?_) fun c1 c => ?_
  ·exact wR (Ym (.int .u64 (ws .u64 (wc .u64 A) i)) e0 (Ym k.v (eh t) (Ym (iV d) (eh o) (bE c fun c2 H c => yY (yIa SL_29 e0 e0 b (rdI x) H) (yY (yI O_103 e0 b (rdI x) H) (yY (ycv (k' := .u64) (by kernel_rfl) (by kernel_rfl) e0) (yY (ysub e0 e0) (Ya (.int .u64 (ws .u64 (ws .u64 (wc .u64 A) i) (wc .u64 c2))) e0 (wN (F _ _ _ r t z o rfl b c))))))))))
  ·exact wp_skip (F _ _ _ r t z o rfl b c)
 ·refine wp_exit (a5 _ _ _ rfl ?_)
  cases c
  exact a3 _ _ _ _ rfl rfl (V _ _ _ _ z b (a1 _ rfl))
end Go.Proofs.YtpfmbaidflhamaaGreatDoor
