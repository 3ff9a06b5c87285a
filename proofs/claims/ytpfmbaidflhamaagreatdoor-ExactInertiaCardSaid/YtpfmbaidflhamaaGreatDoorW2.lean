/- Walks: each function computes its model, printed. -/
import Derived.Test.YtpfmbaidflhamaaGreatDoorW1
namespace Go.Proofs.YtpfmbaidflhamaaGreatDoor
open Go Sx M
set_option maxRecDepth 100000
set_option maxHeartbeats 40000000
set_option linter.unusedVariables false
attribute [local irreducible] wpList Code.wp Calls DR QR QS LA LS St
variable {w0 : World} {ros : List Fact} {rs : List Res} {w : World}
theorem integer_plus_ok {H I : LI} {q r : Hdr} {out : LI} (c : integer_plus H I = some out) (B : imm (rI .u32) q.v H ∈ ros) (C : imm (rI .u32) r.v I ∈ ros) (b : St w0 ros rs w) :
  Calls Tryz.prog 112 #[q.v, r.v] w (fun e w => ∃ (J : Hdr), e = .returned (J.v) ∧ St w0 (imm (rI .u32) J.v out :: ros) rs w) := by
 refine enterQ Tryz.func112 rfl Tryz.ntmps112 rfl fun Q U => sR fun _ V => Ya hnil.v rfl (wK V (sQ fun W X => sR fun _ Z => Ym q.v e0 (yY (yLen SL_29 e0 b (rdI B)) (Ym r.v e0 (yY (yLen SL_29 e0 b (rdI C)) (yY (ylss e0 e0) ?_))))))
 refine wK Z ?_
 have K : ∀ (k t : LI) (h i : Hdr) (f : FV) w, f 0 = h.v → f 1 = i.v → St w0 (imm (rI .u32) h.v k :: imm (rI .u32) i.v t :: ros) rs w → integer_plus_j1 k t = some out → W .normal (fr 58 f) w := by
  intro k t h i f w L a0 b c
  refine X _ _ (sR fun _ a2 => Ym h.v (eh L) (yY (yLen SL_29 e0 b (rdI F0)) (yY (yadd e0 rfl) (bE c fun e6 a3 c => yH (rMkc b SL_29 rfl e0 a3) fun a4 w b => Ya a4.v e0 (wK a2 (sR fun _ a5 => ?_))))))
  refine Ya (.int .u64 0) rfl (wK a5 (sQ fun _ a6 => sR fun _ a7 => Ym h.v (eh L) (yY (yLen SL_29 e0 b (rdI F0)) (Ym (iV 0) rfl (wK a7 (blockQ fun a8 a9 => bE c fun b0 b1 c => ?_))))))
  have b2 : ∀ (D : LI) (m : Int) (z : Hdr) (f : FV) w, f 5 = z.v → f 6 = .int .u64 m → St w0 ros (row 103 (rI .u32) z.v D :: rs) w → (D, m) = b0 → a8 (.exit 0) (fr 58 f) w := by
   intro D m z f w b3 b4 b ho
   subst ho
   refine a9 _ _ _ (a6 _ _ (sR fun _ b5 => Ym z.v (eh b3) (Ym (.int .u64 m) (eh b4) (yY (ycv (k' := .u32) (by kernel_rfl) (by kernel_rfl) e0) (yH (rLt (n := 1) (l := [wc .u32 m]) b SL_29 [.int .u32 (wc .u32 m)] (bp1 e0) rfl rfl (mks1 (cs := [.int .u32 (wc .u32 m)]) rfl mkI mks0)) fun e7 w b => bE c fun e8 b6 c => yH (rAp (b.k17) SL_29 e0 e0 rO1 b6) fun e9 w b => bE c fun f0 b7 c => ?_)))))
   replace b := b.fz
   refine yC (yCall FN_73 (a1 e0)) (integer_trim_ok b7 F0 b) ?_
   rintro _ w ⟨b8, rfl, b⟩
   refine ⟨_, rfl, ?_⟩
   refine Ya b8.v e0 (wK b5 (wp_ret ?_))
   cases c
   exact U _ _ _ (fin1r Tryz.results112 ⟨rfl, rfl⟩ ⟨_, rfl, ((b.k10).facts (allC F0 (allT (allT allI))))⟩)
  refine loopQ (fun s a w => ∃ (u : LI) (o g : Int) (f : FV) (p : Hdr), (u, o, g) = s ∧ a = fr 58 f ∧ f 1 = i.v ∧ f 5 = p.v ∧ f 6 = .int .u64 o ∧ f 21 = h.v ∧ f 22 = iV (k.length : Int) ∧ f 23 = iV g ∧ St w0 (imm (rI .u32) i.v t :: imm (rI .u32) h.v k :: ros) (row 103 (rI .u32) p.v u :: rs) w) b1 ⟨_, _, _, _, _, rfl, rfl, a0, rfl, rfl, rfl, rfl, rfl, (b.facts (allC F1 (allC F0 (allT (allT allI)))))⟩ ?_
  rintro _ _ w b9 ⟨u, o, g, f, p, rfl, rfl, A, E, N, F, G, x, b⟩ d c0 f1 c1 c2
  refine sR fun _ c3 => yY (ylss (eh x) (eh G)) (wK c3 (seqQ fun f2 c4 c5 => ?_))
  refine cIf e0 d (fun c6 d => ?_) fun c6 d => ?_
  ·refine wp_skip (c4 _ _ (sQ fun _ c7 => blockQ fun _ c8 => sR fun _ c9 => Ym (iV g) (eh x) (bE d fun y O d => yY (yIa SL_29 (eh F) (eh x) b (rdI F1) O) (yY (yI O_103 e0 b (rdI F1) O) (Ya (iV g) e0 (Ya (.int .u32 y) e0 (wK c9 ?_)))))))
   refine sR fun _ d0 => Ym (.int .u32 y) e0 (yY (ycv (k' := .u64) (by kernel_rfl) (by kernel_rfl) e0) (Ym (.int .u64 o) (eh N) (yY (yadd e0 e0) (Ya (.int .u64 (wa .u64 (wc .u64 y) o)) e0 (wK d0 (sQ fun d1 d2 => sR fun _ d3 => Ym (iV g) e0 (Ym i.v (eh A) ?_)))))))
   refine yY (yLen SL_29 e0 b (rdI F0)) (yY (ylss e0 e0) (wK d3 ?_))
   have R : ∀ (j : Int) (f : FV) w, f 1 = i.v → f 5 = p.v → f 9 = .int .u64 j → f 21 = h.v → f 22 = iV (k.length : Int) → f 23 = iV g → St w0 (imm (rI .u32) i.v t :: imm (rI .u32) h.v k :: ros) (row 103 (rI .u32) p.v u :: rs) w → integer_plus_j5 u g j = some b9 → d1 .normal (fr 58 f) w := by
    intro j f w d4 d5 S d6 d7 d8 b c
    refine d2 _ _ (sR fun _ d9 => Ym p.v (eh d5) (Ym (.int .u64 j) (eh S) (yY (yand e0 rfl) (yY (ycv (k' := .u32) (by kernel_rfl) (by kernel_rfl) e0) (yH (rLt (n := 1) (l := [wc .u32 (wand .u64 j 4294967295)]) b SL_29 [.int .u32 (wc .u32 (wand .u64 j 4294967295))] (bp1 e0) rfl rfl (mks1 (cs := [.int .u32 (wc .u32 (wand .u64 j 4294967295))]) rfl mkI mks0)) fun f3 w b => bE c fun f4 e1 c => yH (rAp (b.k17) SL_29 e0 e0 rO1 e1) fun e2 w b => Ya e2.v e0 (wN ?_))))))
    refine d9 _ _ (wR (Ym (.int .u64 j) (eh S) (yY (yshrc e0 rfl) (Ya (.int .u64 (wsrc .u64 j 32)) e0 (wN (c8 _ _ _ (c7 _ _ (wR (yY (yadd (eh d8) rfl) (Ym (iV (wa .i64 g 1)) e0 (wN ?_)))))))))))
    cases c
    exact c1 _ _ _ rfl ⟨_, _, _, _, _, rfl, rfl, d4, rfl, rfl, d6, d7, rfl, (b.k18)⟩
   refine cIf e0 d (fun e3 d => ?_) fun e3 d => ?_
   ·exact wR (Ym (.int .u64 (wa .u64 (wc .u64 y) o)) e0 (Ym i.v (eh A) (Ym (iV g) e0 (bE d fun e4 T d => yY (yIa SL_29 e0 e0 b (rdI F0) T) (yY (yI O_103 e0 b (rdI F0) T) (yY (ycv (k' := .u64) (by kernel_rfl) (by kernel_rfl) e0) (yY (yadd e0 e0) (Ya (.int .u64 (wa .u64 (wa .u64 (wc .u64 y) o) (wc .u64 e4))) e0 (wN (R _ _ _ A E rfl F G x b d))))))))))
   ·exact wp_skip (R _ _ _ A E rfl F G x b d)
  ·refine wp_exit (c5 _ _ _ rfl ?_)
   cases d
   exact c2 _ _ _ _ rfl rfl (b2 _ _ _ _ _ E N (b.facts (allT (allT allI))) (c0 _ rfl))
 refine cIf e0 c (fun e5 c => ?_) fun e5 c => ?_
 ·exact wR (Ym r.v e0 (Ym q.v e0 (Ya r.v e0 (Ya q.v e0 (wN (K _ _ _ _ _ _ rfl rfl (b.facts (allC C (allC B allI))) c))))))
 ·exact wp_skip (K _ _ _ _ _ _ rfl rfl (b.facts (allC B (allC C allI))) c)
theorem integer_minus_ok {p A : LI} {k l : Hdr} {out : LI} (g : integer_minus p A = some out) (q : imm (rI .u32) k.v p ∈ ros) (t : imm (rI .u32) l.v A ∈ ros) (b : St w0 ros rs w) :
  Calls Tryz.prog 113 #[k.v, l.v] w (fun e w => ∃ (B : Hdr), e = .returned (B.v) ∧ St w0 (imm (rI .u32) B.v out :: ros) rs w) := by
 refine enterQ Tryz.func113 rfl Tryz.ntmps113 rfl fun Q I => sR fun _ J => Ya hnil.v rfl (wK J (sR fun _ K => Ym k.v e0 (yY (yLen SL_29 e0 b (rdI q)) (bE g fun c7 L g => yH (rMk b SL_29 e0 L) fun h w b => Ya h.v e0 ?_))))
 refine wK K (sR fun _ N => Ya (.int .u64 0) rfl (wK N (sQ fun _ O => sR fun _ R => Ym k.v e0 (yY (yLen SL_29 e0 b (rdI q)) (Ym (iV 0) rfl (wN ?_))))))
 refine R _ _ (blockQ fun S T => bE g fun U V g => ?_)
 have W : ∀ (u : LI) (f : FV) w, f 5 = h.v → St w0 ros (row 103 (rI .u32) h.v u :: rs) w → u = U → S (.exit 0) (fr 47 f) w := by
  intro u f w X b ho
  subst ho
  refine T _ _ _ (O _ _ (sR fun _ Z => Ym h.v (eh X) (bE g fun c8 a0 g => ?_)))
  replace b := b.fz
  refine yC (yCall FN_73 (a1 e0)) (integer_trim_ok a0 F0 b) ?_
  rintro _ w ⟨a2, rfl, b⟩
  refine ⟨_, rfl, ?_⟩
  refine Ya a2.v e0 (wK Z (wp_ret ?_))
  cases g
  exact I _ _ _ (fin1r Tryz.results113 ⟨rfl, rfl⟩ ⟨_, rfl, (b.facts (allC F0 (allT (allT allI))))⟩)
 refine loopQ (fun s a w => ∃ (m : LI) (i d : Int) (f : FV), (m, i, d) = s ∧ a = fr 47 f ∧ f 1 = l.v ∧ f 5 = h.v ∧ f 6 = .int .u64 i ∧ f 13 = k.v ∧ f 14 = iV (p.length : Int) ∧ f 15 = iV d ∧ St w0 ros (row 103 (rI .u32) h.v m :: rs) w) V ⟨_, _, _, _, rfl, rfl, rfl, rfl, rfl, rfl, rfl, rfl, b⟩ ?_
 rintro _ _ w a3 ⟨m, i, d, f, rfl, rfl, r, x, a4, y, z, n, b⟩ c a5 c9 a6 a7
 refine sR fun _ a8 => yY (ylss (eh n) (eh z)) (wK a8 (seqQ fun d0 a9 b0 => ?_))
 refine cIf e0 c (fun b1 c => ?_) fun b1 c => ?_
 ·refine wp_skip (a9 _ _ (sQ fun _ b2 => blockQ fun _ b3 => sR fun _ b4 => Ym (iV d) (eh n) (bE c fun o C c => yY (yIa SL_29 (eh y) (eh n) b (rdI q) C) (yY (yI O_103 e0 b (rdI q) C) (Ya (iV d) e0 (Ya (.int .u32 o) e0 (wK b4 ?_)))))))
  refine sR fun _ b5 => Ym (.int .u32 o) e0 (yY (ycv (k' := .u64) (by kernel_rfl) (by kernel_rfl) e0) (Ym (.int .u64 i) (eh a4) (yY (ysub e0 e0) (Ya (.int .u64 (ws .u64 (wc .u64 o) i)) e0 (wK b5 (sQ fun b6 b7 => sR fun _ b8 => Ym (iV d) e0 (Ym l.v (eh r) ?_)))))))
  refine yY (yLen SL_29 e0 b (rdI t)) (yY (ylss e0 e0) (wK b8 ?_))
  have D : ∀ (j : Int) (f : FV) w, f 1 = l.v → f 5 = h.v → f 7 = iV d → f 9 = .int .u64 j → f 13 = k.v → f 14 = iV (p.length : Int) → f 15 = iV d → St w0 ros (row 103 (rI .u32) h.v m :: rs) w → integer_minus_j4 m d j = some a3 → b6 .normal (fr 47 f) w := by
   intro j f w b9 E c0 F c1 c2 c3 b g
   refine b7 _ _ (sR fun _ c4 => Ym h.v (eh E) (Ym (iV d) (eh c0) (Ym (.int .u64 j) (eh F) (yY (yand e0 rfl) (yY (ycv (k' := .u32) (by kernel_rfl) (by kernel_rfl) e0) (bE g fun d1 G g => yY (yIs SL_29 e0 e0 b rO0 G) (yT (r_sti (cs := [.int .u32 (wc .u32 (wand .u64 j 4294967295))]) b O_103 rfl e0 e0 rfl mkI G) fun w b => wK c4 ?_)))))))
   refine wR (Ym (.int .u64 j) (eh F) (yY (yshrc e0 rfl) (yY (yand e0 rfl) (Ya (.int .u64 (wand .u64 (wsrc .u64 j 32) 1)) e0 (wN (b3 _ _ _ (b2 _ _ (wR (yY (yadd (eh c3) rfl) (Ym (iV (wa .i64 d 1)) e0 (wN ?_)))))))))))
   cases g
   exact a6 _ _ _ rfl ⟨_, _, _, _, rfl, rfl, b9, E, rfl, c1, c2, rfl, b⟩
  refine cIf e0 c (fun c5 c => ?_) fun c5 c => ?_
  ·exact wR (Ym (.int .u64 (ws .u64 (wc .u64 o) i)) e0 (Ym l.v (eh r) (Ym (iV d) e0 (bE c fun c6 H c => yY (yIa SL_29 e0 e0 b (rdI t) H) (yY (yI O_103 e0 b (rdI t) H) (yY (ycv (k' := .u64) (by kernel_rfl) (by kernel_rfl) e0) (yY (ysub e0 e0) (Ya (.int .u64 (ws .u64 (ws .u64 (wc .u64 o) i) (wc .u64 c6))) e0 (wN (D _ _ _ r x rfl rfl y z n b c))))))))))
  ·exact wp_skip (D _ _ _ r x rfl rfl y z n b c)
 ·refine wp_exit (b0 _ _ _ rfl ?_)
  cases c
  exact a7 _ _ _ _ rfl rfl (W _ _ _ x b (a5 _ rfl))
theorem integer_Add_ok {c : Bool} {l : LI} {d : Bool} {m : LI} {i f : Hdr} {out : Bool × LI} (b : integer_Add c l d m = some out) (x : imm (rI .u32) i.v l ∈ ros) (y : imm (rI .u32) f.v m ∈ ros) (a : St w0 ros rs w) :
  Calls Tryz.prog 75 #[.agg #[.bool c, i.v], .agg #[.bool d, f.v]] w (fun e w => ∃ (n : Hdr), e = .returned (.agg #[.bool out.1, n.v]) ∧ St w0 (imm (rI .u32) n.v out.2 :: ros) rs w) := by
 refine enterQ Tryz.func75 rfl Tryz.ntmps75 rfl fun Q j => sR fun _ z => yBb (r_box (vals := [.bool c, i.v]) a e0 rfl) fun W w a => yBb (r_box (vals := [.bool d, f.v]) a e0 rfl) fun X w a => yBb (rAl a ZT_31) fun Z w a => wK z (sQ fun _ A => bE b fun a0 B b => bE b fun a3 C b => ?_)
 refine dR [0, 1, 3, 0, 8, 31, 63, 127] [2, 5, 6, 7] 4 folM ?_
 replace a := a.drew
 refine Dn [0, 1, 3, 4] [] [2] (yR rfl (yFb FL_31_1 e0) (yR rfl (lb_ i.v O_29 e0 a R2) (yR rfl (yFb FL_31_1 e0) (yR rfl (lb_ f.v O_29 e0 a R1) (Rn QSn ?_)))))
 refine Lc1 rfl ?_
 refine Lk wn (yCall FN_73 (a1 e0)) (integer_trim_ok B x a) ?_
 rintro _ w ⟨g, rfl, a⟩
 refine ⟨_, rfl, ?_⟩
 refine Dn [] [3, 4] [5] (Rn (yS rfl (yFb FL_31_1 e0) (yS rfl (lb_ f.v O_29 e0 a R1) QSn)) ?_)
 refine Lc1 rfl ?_
 refine Lk wn (yCall FN_73 (a1 e0)) (integer_trim_ok C (mtF y) a) ?_
 rintro _ w ⟨h, rfl, a⟩
 refine ⟨_, rfl, ?_⟩
 refine Dn [] [] [6] (Rn QSn ?_)
 refine Lc1 rfl ?_
 refine Ly wn (a_ g.v e0) (Dn [] [] [7] (Rn QSn ?_))
 refine Lc1 rfl ?_
 refine Ly wn (a_ h.v e0) (Dz [] [] (Rn QSn (A _ _ (seqQ fun a4 D o => blockQ fun _ k => sR fun _ E => yY (yFb FL_31_0 e0) (yY (lb_ (.bool c) O_4 e0 a R2) (yY (yFb FL_31_0 e0) (yY (lb_ (.bool d) O_4 e0 a R1) (yY (yeqb (by kernel_rfl) e0 e0) (Ya (.bool (c == d)) e0 ?_)))))))))
 refine wK E (cB e0 b (fun F b => ?_) fun F b => ?_)
 ·refine sQ fun _ G => bE b fun a5 H b => bE b fun p I b => dR [0, 1, 0, 0, 12, 31, 63] [4, 5, 6] 3 folM ?_
  replace a := a.drew
  refine Dn [0, 1, 2, 3] [] [4] (yR rfl (yFb FL_31_0 e0) (yR rfl (lb_ (.bool c) O_4 e0 a R2) (yR rfl (m_ g.v e0) (yR rfl (m_ h.v e0) (Rn QSn ?_)))))
  refine Lc1 rfl ?_
  refine Lk wn (yCall FN_112 (a2 e0 e0)) (integer_plus_ok H F1 F0 a) ?_
  rintro _ w ⟨a6, rfl, a⟩
  refine ⟨_, rfl, ?_⟩
  refine Dn [] [0, 1] [5] (Rn (yS rfl (yFb FL_31_0 e0) (yS rfl (lb_ (.bool c) O_4 e0 a R2) QSn)) ?_)
  refine Lc1 rfl ?_
  refine Lk wn (yCall FN_76 (a2 e0 e0)) (integer_big_ok I F0 a) ?_
  rintro _ w ⟨q, rfl, a⟩
  refine ⟨_, rfl, ?_⟩
  refine Dn [] [] [6] (Rn QSn ?_)
  refine Lc1 rfl ?_
  refine LT wn (r_stbn (vals' := [.bool p.1, q.v]) (us := [.bool p.1, q.v]) a ST_31 e0 e0 rfl rfl (one_of rfl) rfl) fun w a => Dz [] [] (Rn QSn (G _ _ (wp_ret (k _ _ _ (o _ _ _ rfl ?_)))))
  cases b
  exact j _ _ _ (fin1r Tryz.results75 (rcs2 rfl rfl a R0 ST_31 rfl) ⟨_, rfl, ((a.k1g).facts (allC F0 (allT (allT (allT (allT allI))))))⟩)
 ·refine sR fun _ J => Ym g.v e0 (Ym h.v e0 (bE b fun K L b => yC (yCall FN_99 (a2 e0 e0)) (integer_compare_ok L F1 F0 a) ?_))
  rintro _ w ⟨rfl, a⟩
  refine ⟨_, rfl, ?_⟩
  refine yY (ygeq e0 rfl) (Ya (.bool (decide ((0 : Int) ≤ K))) e0 (wK J ?_))
  refine cIf e0 b (fun N b => ?_) fun N b => ?_
  ·refine sQ fun _ O => bE b fun a7 R b => bE b fun r S b => dR [0, 1, 0, 0, 12, 31, 63] [4, 5, 6] 3 folM ?_
   replace a := a.drew
   refine Dn [0, 1, 2, 3] [] [4] (yR rfl (yFb FL_31_0 e0) (yR rfl (lb_ (.bool c) O_4 e0 a R2) (yR rfl (m_ g.v e0) (yR rfl (m_ h.v e0) (Rn QSn ?_)))))
   refine Lc1 rfl ?_
   refine Lk wn (yCall FN_113 (a2 e0 e0)) (integer_minus_ok R F1 F0 a) ?_
   rintro _ w ⟨a8, rfl, a⟩
   refine ⟨_, rfl, ?_⟩
   refine Dn [] [0, 1] [5] (Rn (yS rfl (yFb FL_31_0 e0) (yS rfl (lb_ (.bool c) O_4 e0 a R2) QSn)) ?_)
   refine Lc1 rfl ?_
   refine Lk wn (yCall FN_76 (a2 e0 e0)) (integer_big_ok S F0 a) ?_
   rintro _ w ⟨s, rfl, a⟩
   refine ⟨_, rfl, ?_⟩
   refine Dn [] [] [6] (Rn QSn ?_)
   refine Lc1 rfl ?_
   refine LT wn (r_stbn (vals' := [.bool r.1, s.v]) (us := [.bool r.1, s.v]) a ST_31 e0 e0 rfl rfl (one_of rfl) rfl) fun w a => Dz [] [] (Rn QSn (O _ _ (wp_ret (k _ _ _ (o _ _ _ rfl ?_)))))
   cases b
   exact j _ _ _ (fin1r Tryz.results75 (rcs2 rfl rfl a R0 ST_31 rfl) ⟨_, rfl, ((a.k1g).facts (allC F0 (allT (allT (allT (allT allI))))))⟩)
  ·refine wp_skip (k _ _ _ (D _ _ (sQ fun _ T => bE b fun a9 U b => bE b fun t V b => dR [0, 1, 0, 0, 12, 31, 63] [4, 5, 6] 3 folM ?_)))
   replace a := a.drew
   refine Dn [0, 1, 2, 3] [] [4] (yR rfl (yFb FL_31_0 e0) (yR rfl (lb_ (.bool d) O_4 e0 a R1) (yR rfl (m_ h.v e0) (yR rfl (m_ g.v e0) (Rn QSn ?_)))))
   refine Lc1 rfl ?_
   refine Lk wn (yCall FN_113 (a2 e0 e0)) (integer_minus_ok U F0 F1 a) ?_
   rintro _ w ⟨b0, rfl, a⟩
   refine ⟨_, rfl, ?_⟩
   refine Dn [] [0, 1] [5] (Rn (yS rfl (yFb FL_31_0 e0) (yS rfl (lb_ (.bool d) O_4 e0 a R1) QSn)) ?_)
   refine Lc1 rfl ?_
   refine Lk wn (yCall FN_76 (a2 e0 e0)) (integer_big_ok V F0 a) ?_
   rintro _ w ⟨u, rfl, a⟩
   refine ⟨_, rfl, ?_⟩
   refine Dn [] [] [6] (Rn QSn ?_)
   refine Lc1 rfl ?_
   refine LT wn (r_stbn (vals' := [.bool t.1, u.v]) (us := [.bool t.1, u.v]) a ST_31 e0 e0 rfl rfl (one_of rfl) rfl) fun w a => Dz [] [] (Rn QSn (T _ _ (wp_ret ?_)))
   cases b
   exact j _ _ _ (fin1r Tryz.results75 (rcs2 rfl rfl a R0 ST_31 rfl) ⟨_, rfl, ((a.k1g).facts (allC F0 (allT (allT (allT (allT allI))))))⟩)
theorem integer_times_ok {n t : LI} {l g : Hdr} {out : LI} (h : integer_times n t = some out) (u : imm (rI .u32) l.v n ∈ ros) (r : imm (rI .u32) g.v t ∈ ros) (b : St w0 ros rs w) :
  Calls Tryz.prog 77 #[l.v, g.v] w (fun e w => ∃ (I : Hdr), e = .returned (I.v) ∧ St w0 (imm (rI .u32) I.v out :: ros) rs w) := by
 refine enterQ Tryz.func77 rfl Tryz.ntmps77 rfl fun Q J => sR fun _ a9 => Ya hnil.v rfl (wK a9 (seqQ fun g7 b0 b1 => sR fun _ b2 => Ym l.v e0 (yY (yLen SL_29 e0 b (rdI u)) (yY (yeql e0 rfl) (Ym (.bool (decide ((n.length : Int) = 0))) e0 ?_)))))
 refine joinW 4 (fun f w => f 0 = l.v ∧ f 1 = g.v ∧ f 19 = .bool ((decide ((n.length : Int) = 0)) || (decide ((t.length : Int) = 0))) ∧ St w0 ros rs w) (fun K => ?_) ?_
 ·rcases Bool.eq_false_or_eq_true (decide ((n.length : Int) = 0)) with i | i
  ·exact gN i (gN i (gN i (yY (pt_ (.bool true) e0 i rfl) (K _ _ ⟨rfl, rfl, (congrArg Value.bool (orT i)), b⟩))))
  ·exact yG i (m_ g.v e0) (yG i (yLen SL_29 e0 b (rdI r)) (yG i (yeql e0 rfl) (yY (pf_ (.bool (decide ((t.length : Int) = 0))) e0 i e0) (K _ _ ⟨rfl, rfl, (congrArg Value.bool (orF i)), b⟩))))
 rintro f w ⟨L, x, b3, b⟩
 refine wK b2 (cB (eh b3) h (fun b4 h => ?_) fun b4 h => ?_)
 ·refine sR fun _ b5 => Ya hnil.v rfl (wK b5 (wp_ret (b1 _ _ _ rfl ?_)))
  cases h
  replace b := b.immNh (rI .u32)
  exact J _ _ _ (fin1r Tryz.results77 ⟨rfl, rfl⟩ ⟨_, rfl, b⟩)
 ·refine wp_skip (b0 _ _ (sR fun _ b6 => Ym l.v (eh L) (yY (yLen SL_29 e0 b (rdI u)) (Ym g.v (eh x) (yY (yLen SL_29 e0 b (rdI r)) (yY (yadd e0 e0) (bE h fun g8 b7 h => yH (rMk b SL_29 e0 b7) fun c w b => Ya c.v e0 (wN ?_))))))))
  refine b6 _ _ (sQ fun _ b8 => sR fun _ b9 => Ym l.v (eh L) (yY (yLen SL_29 e0 b (rdI u)) (Ym (iV 0) rfl (wK b9 (blockQ fun c0 c1 => bE h fun c2 c3 h => ?_)))))
  have c4 : ∀ (E : LI) (f : FV) w, f 5 = c.v → St w0 ros (row 103 (rI .u32) c.v E :: rs) w → E = c2 → c0 (.exit 0) (fr 77 f) w := by
   intro E f w c5 b ho
   subst ho
   refine c1 _ _ _ (b8 _ _ (sR fun _ c8 => Ym c.v (eh c5) (bE h fun g9 c9 h => ?_)))
   replace b := b.fz
   refine yC (yCall FN_73 (a1 e0)) (integer_trim_ok c9 F0 b) ?_
   rintro _ w ⟨d0, rfl, b⟩
   refine ⟨_, rfl, ?_⟩
   refine Ya d0.v e0 (wK c8 (wp_ret ?_))
   cases h
   exact J _ _ _ (fin1r Tryz.results77 ⟨rfl, rfl⟩ ⟨_, rfl, (b.facts (allC F0 (allT (allT allI))))⟩)
  refine loopQ (fun s a w => ∃ (F : LI) (d : Int) (f : FV), (F, d) = s ∧ a = fr 77 f ∧ f 1 = g.v ∧ f 5 = c.v ∧ f 26 = l.v ∧ f 27 = iV (n.length : Int) ∧ f 28 = iV d ∧ St w0 ros (row 103 (rI .u32) c.v F :: rs) w) c3 ⟨_, _, _, rfl, rfl, x, rfl, rfl, rfl, rfl, b⟩ ?_
  rintro _ _ w h0 ⟨F, d, f, rfl, rfl, N, O, R, S, A, b⟩ j d1 h1 d2 d3
  refine sR fun _ d4 => yY (ylss (eh A) (eh S)) (wK d4 (seqQ fun h3 d5 d6 => ?_))
  refine cIf e0 j (fun d7 j => ?_) fun d7 j => ?_
  ·refine wp_skip (d5 _ _ (sQ fun _ d8 => blockQ fun _ d9 => sR fun _ e1 => Ym (iV d) (eh A) (bE j fun o T j => yY (yIa SL_29 (eh R) (eh A) b (rdI u) T) (yY (yI O_103 e0 b (rdI u) T) (Ya (iV d) e0 (Ya (.int .u32 o) e0 (wK e1 ?_)))))))
   refine sR fun _ e2 => Ya (.int .u64 0) rfl (wK e2 (sQ fun _ e3 => sR fun _ e4 => Ym g.v (eh N) (yY (yLen SL_29 e0 b (rdI r)) (Ym (iV 0) rfl (wK e4 (blockQ fun e5 e6 => ?_))))))
   refine bE j fun e7 e8 j => ?_
   have e9 : ∀ (G : LI) (y : Int) (f : FV) w, f 1 = g.v → f 5 = c.v → f 6 = iV d → f 8 = .int .u64 y → f 26 = l.v → f 27 = iV (n.length : Int) → f 28 = iV d → St w0 ros (row 103 (rI .u32) c.v G :: rs) w → (G, y) = e7 → e5 (.exit 2) (fr 77 f) w := by
    intro G y f w U V f0 f1 f2 f3 f4 b ho
    subst ho
    refine e6 _ _ _ (e3 _ _ (wR (Ym c.v (eh V) (Ym (iV d) (eh f0) (Ym g.v (eh U) (yY (yLen SL_29 e0 b (rdI r)) (yY (yadd e0 e0) (Ym (.int .u64 y) (eh f1) (yY (ycv (k' := .u32) (by kernel_rfl) (by kernel_rfl) e0) (bE j fun h5 W j => yY (yIs SL_29 e0 e0 b rO0 W) (yT (r_sti (cs := [.int .u32 (wc .u32 y)]) b O_103 rfl e0 e0 rfl mkI W) fun w b => ?_)))))))))))
    refine wN (d9 _ _ _ (d8 _ _ (wR (yY (yadd (eh f4) rfl) (Ym (iV (wa .i64 d 1)) e0 (wN ?_))))))
    cases j
    exact d2 _ _ _ rfl ⟨_, _, _, rfl, rfl, U, V, f2, f3, rfl, b⟩
   refine loopQ (fun s a w => ∃ (H : LI) (m p : Int) (f : FV), (H, m, p) = s ∧ a = fr 77 f ∧ f 1 = g.v ∧ f 5 = c.v ∧ f 6 = iV d ∧ f 7 = .int .u32 o ∧ f 8 = .int .u64 m ∧ f 26 = l.v ∧ f 27 = iV (n.length : Int) ∧ f 28 = iV d ∧ f 33 = g.v ∧ f 34 = iV (t.length : Int) ∧ f 35 = iV p ∧ St w0 ros (row 103 (rI .u32) c.v H :: rs) w) e8 ⟨_, _, _, _, rfl, rfl, N, O, rfl, rfl, rfl, R, S, A, rfl, rfl, rfl, b⟩ ?_
   rintro _ _ w h6 ⟨H, m, p, f, rfl, rfl, x, B, C, X, Z, a0, a2, a3, a4, a5, D, b⟩ k f5 h7 f6 f7
   refine sR fun _ f8 => yY (ylss (eh D) (eh a5)) (wK f8 (seqQ fun h9 f9 g0 => ?_))
   refine cIf e0 k (fun g1 k => ?_) fun g1 k => ?_
   ·refine wp_skip (f9 _ _ (sQ fun _ g2 => blockQ fun _ g3 => sR fun _ g4 => Ym (iV p) (eh D) (bE k fun q a6 k => yY (yIa SL_29 (eh a4) (eh D) b (rdI r) a6) (yY (yI O_103 e0 b (rdI r) a6) (Ya (iV p) e0 (Ya (.int .u32 q) e0 (wK g4 ?_)))))))
    refine sR fun _ g5 => Ym (.int .u32 o) (eh X) (yY (ycv (k' := .u64) (by kernel_rfl) (by kernel_rfl) e0) (Ym (.int .u32 q) e0 (yY (ycv (k' := .u64) (by kernel_rfl) (by kernel_rfl) e0) (yY (ymul e0 e0) (Ym c.v (eh B) (Ym (iV d) (eh C) (Ym (iV p) e0 (yY (yadd e0 e0) (bE k fun z a7 k => yY (yIa SL_29 e0 e0 b rO0 a7) (yY (yI O_103 e0 b rO0 a7) ?_))))))))))
    refine yY (ycv (k' := .u64) (by kernel_rfl) (by kernel_rfl) e0) (yY (yadd e0 e0) (Ym (.int .u64 m) (eh Z) (yY (yadd e0 e0) (Ya (.int .u64 (wa .u64 (wa .u64 (wm .u64 (wc .u64 o) (wc .u64 q)) (wc .u64 z)) m)) e0 (wK g5 (sR fun _ g6 => Ym c.v (eh B) (Ym (iV d) (eh C) (Ym (iV p) e0 (yY (yadd e0 e0) (Ym (.int .u64 (wa .u64 (wa .u64 (wm .u64 (wc .u64 o) (wc .u64 q)) (wc .u64 z)) m)) e0 ?_))))))))))
    refine yY (yand e0 rfl) (yY (ycv (k' := .u32) (by kernel_rfl) (by kernel_rfl) e0) (bE k fun i0 a8 k => yY (yIs SL_29 e0 e0 b rO0 a8) (yT (r_sti (cs := [.int .u32 (wc .u32 (wand .u64 (wa .u64 (wa .u64 (wm .u64 (wc .u64 o) (wc .u64 q)) (wc .u64 z)) m) 4294967295))]) b O_103 rfl e0 e0 rfl mkI a8) fun w b => wK g6 (wR (Ym (.int .u64 (wa .u64 (wa .u64 (wm .u64 (wc .u64 o) (wc .u64 q)) (wc .u64 z)) m)) e0 (yY (yshrc e0 rfl) (Ya (.int .u64 (wsrc .u64 (wa .u64 (wa .u64 (wm .u64 (wc .u64 o) (wc .u64 q)) (wc .u64 z)) m) 32)) e0 (wN (g3 _ _ _ ?_)))))))))
    refine g2 _ _ (wR (yY (yadd (eh D) rfl) (Ym (iV (wa .i64 p 1)) e0 (wN ?_))))
    cases k
    exact f6 _ _ _ rfl ⟨_, _, _, _, rfl, rfl, x, B, C, X, rfl, a0, a2, a3, a4, a5, rfl, b⟩
   ·refine wp_exit (g0 _ _ _ rfl ?_)
    cases k
    exact f7 _ _ _ _ rfl rfl (e9 _ _ _ _ x B C Z a0 a2 a3 b (f5 _ rfl))
  ·refine wp_exit (d6 _ _ _ rfl ?_)
   cases j
   exact d3 _ _ _ _ rfl rfl (c4 _ _ _ O b (d1 _ rfl))
theorem integer_Mul_ok {c : Bool} {h : LI} {d : Bool} {i : LI} {g f : Hdr} {out : Bool × LI} (b : integer_Mul c h d i = some out) (m : imm (rI .u32) g.v h ∈ ros) (n : imm (rI .u32) f.v i ∈ ros) (a : St w0 ros rs w) :
  Calls Tryz.prog 32 #[.agg #[.bool c, g.v], .agg #[.bool d, f.v]] w (fun e w => ∃ (j : Hdr), e = .returned (.agg #[.bool out.1, j.v]) ∧ St w0 (imm (rI .u32) j.v out.2 :: ros) rs w) := by
 refine enterQ Tryz.func32 rfl Tryz.ntmps32 rfl fun Q o => sR fun _ p => yBb (r_box (vals := [.bool c, g.v]) a e0 rfl) fun x w a => yBb (r_box (vals := [.bool d, f.v]) a e0 rfl) fun y w a => yBb (rAl a ZT_31) fun z w a => wK p (sQ fun _ q => bE b fun A r b => bE b fun B s b => ?_)
 refine bE b fun C t b => bE b fun k u b => dR [0, 1, 0, 4, 15, 0, 32, 96, 0, 256, 992, 2016, 4095, 8191] [7, 10, 11, 12, 13] 5 folM ?_
 replace a := a.drew
 refine Dn [0, 1, 2, 3, 4, 5, 6, 8, 9] [] [7] (yR rfl (yFb FL_31_0 e0) (yR rfl (lb_ (.bool c) O_4 e0 a R2) (yR rfl (yFb FL_31_0 e0) (yR rfl (lb_ (.bool d) O_4 e0 a R1) (yR rfl (yneb (by kernel_rfl) e0 e0) (yR rfl (yFb FL_31_1 e0) (yR rfl (lb_ g.v O_29 e0 a R2) (yR rfl (yFb FL_31_1 e0) (yR rfl (lb_ f.v O_29 e0 a R1) (Rn QSn ?_))))))))))
 refine Lc1 rfl ?_
 refine Lk wn (yCall FN_73 (a1 e0)) (integer_trim_ok r m a) ?_
 rintro _ w ⟨D, rfl, a⟩
 refine ⟨_, rfl, ?_⟩
 refine Dn [] [0, 1, 2, 3, 4, 8, 9] [10] (Rn (yS rfl (yFb FL_31_0 e0) (yS rfl (lb_ (.bool c) O_4 e0 a R2) (yS rfl (yFb FL_31_0 e0) (yS rfl (lb_ (.bool d) O_4 e0 a R1) (yS rfl (yneb (by kernel_rfl) e0 e0) (yS rfl (yFb FL_31_1 e0) (yS rfl (lb_ f.v O_29 e0 a R1) QSn))))))) ?_)
 refine Lc1 rfl ?_
 refine Lk wn (yCall FN_73 (a1 e0)) (integer_trim_ok s (mtF n) a) ?_
 rintro _ w ⟨E, rfl, a⟩
 refine ⟨_, rfl, ?_⟩
 refine Dn [] [0, 1, 2, 3, 4] [11] (Rn (yS rfl (yFb FL_31_0 e0) (yS rfl (lb_ (.bool c) O_4 e0 a R2) (yS rfl (yFb FL_31_0 e0) (yS rfl (lb_ (.bool d) O_4 e0 a R1) (yS rfl (yneb (by kernel_rfl) e0 e0) QSn))))) ?_)
 refine Lc1 rfl ?_
 refine Lk wn (yCall FN_77 (a2 e0 e0)) (integer_times_ok t F1 F0 a) ?_
 rintro _ w ⟨F, rfl, a⟩
 refine ⟨_, rfl, ?_⟩
 refine Dn [] [0, 1, 2, 3, 4] [12] (Rn (yS rfl (yFb FL_31_0 e0) (yS rfl (lb_ (.bool c) O_4 e0 a R2) (yS rfl (yFb FL_31_0 e0) (yS rfl (lb_ (.bool d) O_4 e0 a R1) (yS rfl (yneb (by kernel_rfl) e0 e0) QSn))))) ?_)
 refine Lc1 rfl ?_
 refine Lk wn (yCall FN_76 (a2 e0 e0)) (integer_big_ok u F0 a) ?_
 rintro _ w ⟨l, rfl, a⟩
 refine ⟨_, rfl, ?_⟩
 refine Dn [] [] [13] (Rn QSn ?_)
 refine Lc1 rfl ?_
 refine LT wn (r_stbn (vals' := [.bool k.1, l.v]) (us := [.bool k.1, l.v]) a ST_31 e0 e0 rfl rfl (one_of rfl) rfl) fun w a => Dz [] [] (Rn QSn (q _ _ (wp_ret ?_)))
 cases b
 exact o _ _ _ (fin1r Tryz.results32 (rcs2 rfl rfl a R0 ST_31 rfl) ⟨_, rfl, ((a.k1g).facts (allC F0 (allT (allT (allT (allT allI))))))⟩)
theorem exact_product_ok {r X : List (List (Bool × LI))} {m o : Hdr} {out : (List (List (Bool × LI)))} (N : exact_product r X = some out) (O : imm (rS (rP rB (rS (rI .u32)))) m.v r ∈ ros) (Z : imm (rS (rP rB (rS (rI .u32)))) o.v X ∈ ros) (b : St w0 ros rs w) :
  Calls Tryz.prog 103 #[m.v, o.v] w (fun e w => ∃ (a0 : Hdr) (a1 : List Hdr), e = .returned (a0.v) ∧ St w0 ros (row 32 rH a0.v a1 :: fam 31 (rP rB (rS (rI .u32))) a1 out :: rs) w) := by
 refine enterQ Tryz.func103 rfl Tryz.ntmps103 rfl fun Q d2 => sR fun _ d3 => Ya hnil.v rfl (wK d3 (sR fun _ d4 => Ya hnil.v rfl (wK d4 (sQ fun _ d5 => sR fun _ d6 => ?_))))
 refine Ym m.v e0 (yY (yLen SL_22 e0 b (rdI O)) (Ym (iV 0) rfl (wK d6 (blockQ fun d7 d8 => bE N fun d9 e1 N => ?_))))
 have e2 : ∀ (R : List (List (Bool × LI))) (B : Hdr) (S : List Hdr) (f : FV) w, f 5 = B.v → St w0 ros (row 32 rH B.v S :: fam 31 (rP rB (rS (rI .u32))) S R :: rs) w → R = d9 → d7 (.exit 0) (fr 54 f) w := by
  intro R B S f w e3 b ho
  subst ho
  refine d8 _ _ _ (d5 _ _ (sR fun _ e4 => Ym B.v (eh e3) (Ya B.v e0 (wK e4 (wp_ret ?_)))))
  cases N
  exact d2 _ _ _ (fin1r Tryz.results103 ⟨rfl, rfl⟩ ⟨_, _, rfl, b⟩)
 replace b := ((b.rowNh 32 rH).fNew 31 (rP rB (rS (rI .u32)))).k17
 refine loopQ (fun s a w => ∃ (t : List (List (Bool × LI))) (p : Int) (f : FV) (d : Hdr) (g : List Hdr), (t, p) = s ∧ a = fr 54 f ∧ f 1 = o.v ∧ f 5 = d.v ∧ f 13 = m.v ∧ f 14 = iV (r.length : Int) ∧ f 15 = iV p ∧ St w0 ros (row 32 rH d.v g :: fam 31 (rP rB (rS (rI .u32))) g t :: rs) w) e1 ⟨_, _, _, _, _, rfl, rfl, rfl, rfl, rfl, rfl, rfl, b⟩ ?_
 rintro _ _ w m2 ⟨t, p, f, d, g, rfl, rfl, e5, a3, a4, a5, T, b⟩ h e6 m3 e7 e8
 refine sR fun _ e9 => yY (ylss (eh T) (eh a5)) (wK e9 (seqQ fun m4 f0 f1 => ?_))
 refine cIf e0 h (fun f2 h => ?_) fun f2 h => ?_
 ·refine wp_skip (f0 _ _ (sQ fun _ f3 => blockQ fun _ f4 => sR fun _ f5 => bE h fun u a6 h => yY (yIa SL_22 (eh a4) (eh T) b (rdI O) a6) ?_))
  obtain ⟨i, b⟩ := iLs b O a6
  refine yY (yCt O_32 e0 b F1 rfl) (Ya i.v e0 (wK f5 (sR fun _ f6 => Ya hnil.v rfl (wK f6 (sQ fun _ f7 => sR fun _ f8 => Ym i.v e0 (yY (yLen SL_32 e0 b (rdI F0)) ?_))))))
  refine Ym (iV 0) rfl (wK f8 (blockQ fun f9 g0 => bE h fun g1 g2 h => ?_))
  have g3 : ∀ (G : List (Bool × LI)) (x : Hdr) (f : FV) w, f 1 = o.v → f 5 = d.v → f 8 = x.v → f 13 = m.v → f 14 = iV (r.length : Int) → f 15 = iV p → St w0 ros (row 32 rH d.v g :: fam 31 (rP rB (rS (rI .u32))) g t :: row 31 (rP rB (rS (rI .u32))) x.v G :: rs) w → G = g1 → f9 (.exit 2) (fr 54 f) w := by
   intro G x f w g4 g5 g6 g7 g8 g9 b ho
   subst ho
   refine g0 _ _ _ (f7 _ _ (wR (Ym d.v (eh g5) (Ym x.v (eh g6) (yH (rLt (n := 1) (l := [x]) b SLH_22 [x.v] (bp1 e0) rfl rfl (mks1 rfl (mkF rfl) mks0)) fun m5 w b => bE h fun m6 a7 h => ?_)))))
   replace b := b.k17
   obtain ⟨m7, ey623, h0⟩ := app_rep a7 (b.famL R2) (show [x].length = [G].length from rfl)
   refine yH (rAp b SLH_22 e0 e0 rO1 h0) fun h1 w b => ?_
   replace b := (b.k12).fPush
   rw [← ey623, ← (app_some a7).1] at b
   refine Ya h1.v e0 (wN (f4 _ _ _ (f3 _ _ (wR (yY (yadd (eh g9) rfl) (Ym (iV (wa .i64 p 1)) e0 (wN ?_)))))))
   cases h
   exact e7 _ _ _ rfl ⟨_, _, _, _, _, rfl, rfl, g4, rfl, g7, g8, rfl, (b.k1b)⟩
  replace b := b.rowNh 31 (rP rB (rS (rI .u32)))
  refine loopQ (fun s a w => ∃ (C : List (Bool × LI)) (j : Int) (f : FV) (q : Hdr), (C, j) = s ∧ a = fr 54 f ∧ f 1 = o.v ∧ f 5 = d.v ∧ f 7 = i.v ∧ f 8 = q.v ∧ f 13 = m.v ∧ f 14 = iV (r.length : Int) ∧ f 15 = iV p ∧ f 20 = iV (u.length : Int) ∧ f 21 = iV j ∧ St w0 (imm (rP rB (rS (rI .u32))) i.v u :: ros) (row 32 rH d.v g :: fam 31 (rP rB (rS (rI .u32))) g t :: row 31 (rP rB (rS (rI .u32))) q.v C :: rs) w) g2 ⟨_, _, _, _, rfl, rfl, e5, a3, rfl, rfl, a4, a5, T, rfl, rfl, ((b.k1e).facts (allC F0 (allT (allT allI))))⟩ ?_
  rintro _ _ w m8 ⟨C, j, f, q, rfl, rfl, a8, a9, b0, b1, b2, b3, b4, b5, U, b⟩ k h3 m9 h5 h6
  refine sR fun _ h7 => yY (ylss (eh U) (eh b5)) (wK h7 (seqQ fun n0 h8 h9 => ?_))
  refine cIf e0 k (fun i0 k => ?_) fun i0 k => ?_
  ·refine wp_skip (h8 _ _ (sQ fun _ i1 => blockQ fun _ i2 => sR fun _ i3 => Ym (iV j) (eh U) (Ya (iV j) e0 (wK i3 (sR fun _ i4 => yBb (rAl b ZT_31) fun H w b => ?_)))))
   refine wK i4 (sQ fun _ i5 => sR fun _ i6 => Ym i.v (eh b0) (yY (yLen SL_32 e0 b (rdI F0)) (Ym (iV 0) rfl (wK i6 (blockQ fun i7 i8 => bE k fun i9 j0 k => ?_)))))
   have j1 : ∀ (y : Bool) (I : LI) (A : Hdr) (f : FV) w, f 1 = o.v → f 5 = d.v → f 7 = i.v → f 8 = q.v → f 10 = (pB H) → f 13 = m.v → f 14 = iV (r.length : Int) → f 15 = iV p → f 20 = iV (u.length : Int) → f 21 = iV j → St w0 (imm (rP rB (rS (rI .u32))) i.v u :: imm (rI .u32) A.v I :: ros) (row 32 rH d.v g :: fam 31 (rP rB (rS (rI .u32))) g t :: row 31 (rP rB (rS (rI .u32))) q.v C :: box H 31 [.bool y, A.v] :: rs) w → (y, I) = i9 → i7 (.exit 4) (fr 54 f) w := by
    intro y I A f w j2 j3 j4 j5 j6 j7 j8 j9 k0 k5 b ho
    subst ho
    refine i8 _ _ _ (i5 _ _ (wR (Ym q.v (eh j5) (yY (lbs_ [.bool y, A.v] ST_31 (eh j6) b R3) (yH (rLt (n := 1) (l := [(y, I)]) b SL_32 [.agg #[.bool y, A.v]] (bp1 e0) rfl rfl (mks1 (cs := [.bool y, A.v]) rfl (mkP mkB (mkS F1)) mks0)) fun n1 w b => bE k fun n2 k6 k => yH (rAp (b.k13) SL_32 e0 e0 rO1 k6) fun k7 w b => Ya k7.v e0 (wN (i2 _ _ _ (i1 _ _ ?_))))))))
    refine wR (yY (yadd (eh k5) rfl) (Ym (iV (wa .i64 j 1)) e0 (wN ?_)))
    cases k
    exact h5 _ _ _ rfl ⟨_, _, _, _, rfl, rfl, j2, j3, j4, rfl, j7, j8, j9, k0, rfl, ((b.k1h).facts (allC F0 (allT (allT allI))))⟩
   replace b := b.immNh (rI .u32)
   refine loopQ (fun s a w => ∃ (D : Bool) (V : LI) (z : Int) (f : FV) (E : Hdr), (D, V, z) = s ∧ a = fr 54 f ∧ f 1 = o.v ∧ f 5 = d.v ∧ f 7 = i.v ∧ f 8 = q.v ∧ f 9 = iV j ∧ f 10 = (pB H) ∧ f 13 = m.v ∧ f 14 = iV (r.length : Int) ∧ f 15 = iV p ∧ f 20 = iV (u.length : Int) ∧ f 21 = iV j ∧ f 24 = i.v ∧ f 25 = iV (u.length : Int) ∧ f 26 = iV z ∧ St w0 (imm (rP rB (rS (rI .u32))) i.v u :: imm (rI .u32) E.v V :: ros) (row 32 rH d.v g :: fam 31 (rP rB (rS (rI .u32))) g t :: row 31 (rP rB (rS (rI .u32))) q.v C :: box H 31 [.bool D, E.v] :: rs) w) j0 ⟨_, _, _, _, _, rfl, rfl, a8, a9, b0, b1, rfl, rfl, b2, b3, b4, b5, U, rfl, rfl, rfl, ((b.k1i).facts (allC F1 (allC F0 (allT (allT allI)))))⟩ ?_
   rintro _ _ w n3 ⟨D, V, z, f, E, rfl, rfl, W, b6, b7, b8, b9, F, c0, c1, c2, c3, c4, c5, c6, J, b⟩ c k8 n4 k9 l0
   refine sR fun _ l1 => yY (ylss (eh J) (eh c6)) (wK l1 (seqQ fun n5 l2 l3 => ?_))
   refine cIf e0 c (fun l4 c => ?_) fun l4 c => ?_
   ·refine wp_skip (l2 _ _ (sQ fun _ l5 => blockQ fun _ l6 => sR fun _ l7 => Ym (iV z) (eh J) (bE c fun K c7 c => yY (yIa SL_32 (eh c5) (eh J) b (rdI F0) c7) ?_)))
    obtain ⟨n6, n7, b⟩ := iLd b F0 c7
    obtain ⟨n8, o0, rfl, b⟩ := b.eltP
    obtain ⟨rfl, b⟩ := b.eltB
    obtain ⟨L, rfl, b⟩ := b.eltS
    refine yY (yCtn (cs := [.bool K.1, L.v]) ST_31 rfl e0 b F1) (yBb (rAl b ZT_31) fun o1 w b => Ya (iV z) e0 (yT (r_stbn (vals' := [.bool K.1, L.v]) (us := [.bool K.1, L.v]) b ST_31 e0 e0 rfl rfl (one_of rfl) rfl) fun w b => wK l7 (bE c fun o2 c8 c => bE c fun l8 c9 c => bE c fun o3 l9 c => bE c fun d0 m0 c => dR [0, 0, 0, 0, 12, 28, 0, 124, 252, 510, 1023, 2047] [9, 10, 11] 3 folM ?_)))
    replace b := b.drew
    refine Dn [0, 1, 2, 3, 4, 5, 6, 7, 8] [] [9] (yR rfl (lbs_ [.bool D, E.v] ST_31 (eh F) b R4) (yR rfl (lbs_ [.bool K.1, L.v] ST_31 e0 b R0) (yR rfl (m_ o.v (eh W)) (yR rfl (m_ (iV z) e0) (yR rfl (yIa SL_22 e0 e0 b (rdI (F_4 Z)) c8) ?_)))))
    obtain ⟨o4, b⟩ := iLs b (F_4 Z) c8
    refine yR rfl (yCt O_32 e0 b F1 rfl) (yR rfl (m_ (iV j) (eh b9)) (yR rfl (yIa SL_32 e0 e0 b (rdI F0) c9) ?_))
    obtain ⟨o5, o6, b⟩ := iLd b F0 c9
    obtain ⟨o7, o8, rfl, b⟩ := b.eltP
    obtain ⟨rfl, b⟩ := b.eltB
    obtain ⟨m1, rfl, b⟩ := b.eltS
    refine yR rfl (yCtn (cs := [.bool l8.1, m1.v]) ST_31 rfl e0 b F1) (Rn QSn ?_)
    refine Lc1 rfl ?_
    refine Lk wn (yCall FN_32 (a2 e0 e0)) (integer_Mul_ok l9 F4 F0 b) ?_
    rintro _ w ⟨p0, rfl, b⟩
    refine ⟨_, rfl, ?_⟩
    refine Dn [] [0] [10] (Rn (yS rfl (lbs_ [.bool D, E.v] ST_31 (eh F) b R4) QSn) ?_)
    refine Lc1 rfl ?_
    refine Lk wn (yCall FN_75 (a2 e0 e0)) (integer_Add_ok m0 F8 F0 b) ?_
    rintro _ w ⟨d1, rfl, b⟩
    refine ⟨_, rfl, ?_⟩
    refine Dn [] [] [11] (Rn QSn ?_)
    refine Lc1 rfl ?_
    replace b := b.k14
    refine LT wn (r_stbn (vals' := [.bool d0.1, d1.v]) (us := [.bool d0.1, d1.v]) b ST_31 (eh F) e0 rfl rfl (one_of rfl) rfl) fun w b => Dz [] [] (Rn QSn (l6 _ _ _ (l5 _ _ (wR (yY (yadd (eh J) rfl) (Ym (iV (wa .i64 z 1)) e0 (wN ?_)))))))
    cases c
    exact k9 _ _ _ rfl ⟨_, _, _, _, _, rfl, rfl, W, b6, b7, b8, b9, F, c0, c1, c2, c3, c4, c5, c6, rfl, ((b.k1j).facts (allC F8 (allC F0 (allT (allT (allT (allT (allT (allT (allT (allT (allT (allT allI)))))))))))))⟩
   ·refine wp_exit (l3 _ _ _ rfl ?_)
    cases c
    exact l0 _ _ _ _ rfl rfl (j1 _ _ _ _ _ W b6 b7 b8 F c0 c1 c2 c3 c4 b (k8 _ rfl))
  ·refine wp_exit (h9 _ _ _ rfl ?_)
   cases k
   exact h6 _ _ _ _ rfl rfl (g3 _ _ _ _ a8 a9 b1 b2 b3 b4 (b.facts (allT allI)) (h3 _ rfl))
 ·refine wp_exit (f1 _ _ _ rfl ?_)
  cases h
  exact e8 _ _ _ _ rfl rfl (e2 _ _ _ _ _ a3 b (e6 _ rfl))
theorem integer_short_ok {o : LI} {k : Int} {j : Hdr} {out : LI × Int} (g : integer_short o k = some out) (m : imm (rI .u32) j.v o ∈ ros) (b : St w0 ros rs w) :
  Calls Tryz.prog 94 #[j.v, .int .u32 k] w (fun e w => ∃ (x : Hdr), e = .returned (.tuple #[x.v, .int .u32 out.2]) ∧ St w0 (imm (rI .u32) x.v out.1 :: ros) rs w) := by
 refine enterQ Tryz.func94 rfl Tryz.ntmps94 rfl fun Q C => sR fun _ D => Ya hnil.v rfl (Ya (.int .u32 0) rfl (wK D (sR fun _ E => Ym j.v e0 (yY (yLen SL_29 e0 b (rdI m)) (bE g fun b3 F g => yH (rMk b SL_29 e0 F) fun h w b => ?_)))))
 refine Ya h.v e0 (wK E (sR fun _ G => Ya (.int .u64 0) rfl (wK G (sQ fun _ H => sR fun _ I => Ym j.v e0 (yY (yLen SL_29 e0 b (rdI m)) (yY (ysub e0 rfl) ?_))))))
 refine Ya (iV (ws .i64 (o.length : Int) 1)) e0 (wK I (blockQ fun J K => bE g fun L N g => ?_))
 have O : ∀ (p : LI) (l : Int) (f : FV) w, f 6 = h.v → f 7 = .int .u64 l → St w0 ros (row 103 (rI .u32) h.v p :: rs) w → (p, l) = L → J (.exit 0) (fr 44 f) w := by
  intro p l f w R S b ho
  subst ho
  refine K _ _ _ (H _ _ (sR fun _ T => Ym h.v (eh R) (bE g fun b4 U g => ?_)))
  replace b := b.fz
  refine yC (yCall FN_73 (a1 e0)) (integer_trim_ok U F0 b) ?_
  rintro _ w ⟨V, rfl, b⟩
  refine ⟨_, rfl, ?_⟩
  refine Ym (.int .u64 l) (eh S) (yY (ycv (k' := .u32) (by kernel_rfl) (by kernel_rfl) e0) (Ya V.v e0 (Ya (.int .u32 (wc .u32 l)) e0 (wK T (wp_ret ?_)))))
  cases g
  exact C _ _ _ (fin2r Tryz.results94 ⟨rfl, rfl⟩ ⟨rfl, rfl⟩ ⟨_, rfl, (b.facts (allC F0 (allT (allT allI))))⟩)
 refine loopQ (fun s a w => ∃ (q : LI) (i d : Int) (f : FV), (q, i, d) = s ∧ a = fr 44 f ∧ f 0 = j.v ∧ f 1 = .int .u32 k ∧ f 6 = h.v ∧ f 7 = .int .u64 i ∧ f 8 = iV d ∧ St w0 ros (row 103 (rI .u32) h.v q :: rs) w) N ⟨_, _, _, _, rfl, rfl, rfl, rfl, rfl, rfl, rfl, b⟩ ?_
 rintro _ _ w b5 ⟨q, i, d, f, rfl, rfl, y, r, t, z, n, b⟩ c W b6 X Z
 refine seqQ fun b7 a0 a2 => sR fun _ a3 => Ym (iV d) (eh n) (yY (ygeq e0 rfl) (wK a3 ?_))
 refine cIf e0 c (fun a4 c => ?_) fun a4 c => ?_
 ·refine wp_skip (a0 _ _ (sQ fun _ a5 => blockQ fun _ a6 => sR fun _ a7 => Ym (.int .u64 i) (eh z) (yY (yshlc e0 rfl) (Ym j.v (eh y) (Ym (iV d) (eh n) (bE c fun u A c => yY (yIa SL_29 e0 e0 b (rdI m) A) (yY (yI O_103 e0 b (rdI m) A) (yY (ycv (k' := .u64) (by kernel_rfl) (by kernel_rfl) e0) ?_))))))))
  refine yY (yor e0 e0) (Ya (.int .u64 (wor .u64 (wslc .u64 i 32) (wc .u64 u))) e0 (wK a7 (sR fun _ a8 => Ym h.v (eh t) (Ym (iV d) (eh n) (Ym (.int .u64 (wor .u64 (wslc .u64 i 32) (wc .u64 u))) e0 (Ym (.int .u32 k) (eh r) (yY (ycv (k' := .u64) (by kernel_rfl) (by kernel_rfl) e0) (bE c fun a9 b0 c => yY (yquo e0 e0 b0) (yY (ycv (k' := .u32) (by kernel_rfl) (by kernel_rfl) e0) ?_)))))))))
  refine bE c fun b8 B c => yY (yIs SL_29 e0 e0 b rO0 B) (yT (r_sti (cs := [.int .u32 (wc .u32 a9)]) b O_103 rfl e0 e0 rfl mkI B) fun w b => wK a8 (wR (Ym (.int .u64 (wor .u64 (wslc .u64 i 32) (wc .u64 u))) e0 (Ym (.int .u32 k) (eh r) (yY (ycv (k' := .u64) (by kernel_rfl) (by kernel_rfl) e0) (bE c fun b1 b2 c => yY (yrem e0 e0 b2) (Ya (.int .u64 b1) e0 (wN ?_))))))))
  refine a6 _ _ _ (a5 _ _ (wR (Ym (iV d) (eh n) (yY (ysub e0 rfl) (Ya (iV (ws .i64 d 1)) e0 (wN ?_))))))
  cases c
  exact X _ _ _ rfl ⟨_, _, _, _, rfl, rfl, y, r, t, rfl, rfl, b⟩
 ·refine wp_exit (a2 _ _ _ rfl ?_)
  cases c
  exact Z _ _ _ _ rfl rfl (O _ _ _ _ t z b (W _ rfl))
theorem math_bits_Len32_ok {d out : Int} (a : math_bits_Len32 d = some out) (b : St w0 ros rs w) :
  Calls Tryz.prog 147 #[.int .u32 d] w (fun e w => e = .returned (iV out) ∧ St w0 ros rs w) := by
 refine enterQ Tryz.func147 rfl Tryz.ntmps147 rfl fun Q n => sR fun _ o => Ya (iV 0) rfl (wK o (sQ fun p q => sR fun _ r => Ym (.int .u32 d) e0 (yY (ygeq e0 rfl) (wK r ?_))))
 have k : ∀ (c g : Int) (f : FV) w, f 0 = .int .u32 c → f 2 = iV g → St w0 ros rs w → math_bits_Len32_j1 c g = some out → p .normal (fr 19 f) w := by
  intro c g f w j l b a
  refine q _ _ (sQ fun s t => sR fun _ u => Ym (.int .u32 c) (eh j) (yY (ygeq e0 rfl) (wK u ?_)))
  have m : ∀ (i h : Int) (f : FV) w, f 0 = .int .u32 i → f 2 = iV h → St w0 ros rs w → math_bits_Len32_j2 i h = some out → s .normal (fr 19 f) w := by
   intro i h f w v x b a
   refine t _ _ (sR fun _ y => Ym (iV h) (eh x) (Ym (.int .u32 i) (eh v) (yY (ycv (k' := .u8) (by kernel_rfl) (by kernel_rfl) e0) (bE a fun z A a => yY (yixs (by kernel_rfl) rfl e0 (by kernel_rfl) A) (yY (ycv (k' := .i64) (by kernel_rfl) (by kernel_rfl) e0) (yY (yadd e0 e0) (Ya (iV (wa .i64 h (wc .i64 z))) e0 (wK y (wp_ret ?_)))))))))
   cases a
   exact n _ _ _ (fin1r Tryz.results147 ⟨rfl, rfl⟩ ⟨rfl, b⟩)
  refine cIf e0 a (fun B a => ?_) fun B a => ?_
  ·exact sR fun _ C => Ym (.int .u32 c) (eh j) (yY (yshrc e0 rfl) (Ya (.int .u32 (wsrc .u32 c 8)) e0 (wK C (wR (Ym (iV g) (eh l) (yY (yadd e0 rfl) (Ya (iV (wa .i64 g 8)) e0 (wN (m _ _ _ _ rfl rfl b a)))))))))
  ·exact wp_skip (m _ _ _ _ j l b a)
 refine cIf e0 a (fun D a => ?_) fun D a => ?_
 ·exact sR fun _ E => Ym (.int .u32 d) e0 (yY (yshrc e0 rfl) (Ya (.int .u32 (wsrc .u32 d 16)) e0 (wK E (wR (Ya (iV 16) rfl (wN (k _ _ _ _ rfl rfl b a)))))))
 ·exact wp_skip (k _ _ _ _ rfl rfl b a)
theorem math_bits_LeadingZeros32_ok {a out : Int} (b : math_bits_LeadingZeros32 a = some out) (c : St w0 ros rs w) :
  Calls Tryz.prog 126 #[.int .u32 a] w (fun e w => e = .returned (iV out) ∧ St w0 ros rs w) := by
 refine enterQ Tryz.func126 rfl Tryz.ntmps126 rfl fun Q d => sR fun _ f => Ya (iV 0) rfl (wK f (sR fun _ g => Ym (.int .u32 a) e0 (bE b fun h i b => yC (yCall FN_147 (a1 e0)) (math_bits_Len32_ok i c) ?_)))
 rintro _ w ⟨rfl, c⟩
 refine ⟨_, rfl, ?_⟩
 refine yY (ysub rfl e0) (Ya (iV (ws .i64 32 h)) e0 (wK g (wp_ret ?_)))
 cases b
 exact d _ _ _ (fin1r Tryz.results126 ⟨rfl, rfl⟩ ⟨rfl, c⟩)
theorem integer_up_ok {o : LI} {d : Int} {j : Hdr} {out : LI} (g : integer_up o d = some out) (k : imm (rI .u32) j.v o ∈ ros) (b : St w0 ros rs w) :
  Calls Tryz.prog 127 #[j.v, iV d] w (fun e w => ∃ (t : Hdr), e = .returned (t.v) ∧ St w0 (imm (rI .u32) t.v out :: ros) rs w) := by
 refine enterQ Tryz.func127 rfl Tryz.ntmps127 rfl fun Q u => sR fun _ F => Ya hnil.v rfl (wK F (seqQ fun b8 G H => sR fun _ I => Ym j.v e0 (yY (yLen SL_29 e0 b (rdI k)) (yY (yeql e0 rfl) (wK I ?_)))))
 refine cIf e0 g (fun J g => ?_) fun J g => ?_
 ·refine sR fun _ K => Ya hnil.v rfl (wK K (wp_ret (H _ _ _ rfl ?_)))
  cases g
  replace b := b.immNh (rI .u32)
  exact u _ _ _ (fin1r Tryz.results127 ⟨rfl, rfl⟩ ⟨_, rfl, b⟩)
 ·refine wp_skip (G _ _ (sR fun _ L => Ym (iV d) e0 (yY (yquoc e0 rfl (by decide)) (Ym (iV d) e0 (yY (yremc e0 rfl (by decide)) (yY (ycv (k' := .u64) (by kernel_rfl) (by kernel_rfl) e0) (Ya (iV (wqc .i64 d 32)) e0 (Ya (.int .u64 (wc .u64 (wrc d 32))) e0 (wK L (sQ fun _ N => ?_))))))))))
  refine wR (Ym (iV (wqc .i64 d 32)) e0 (Ym j.v e0 (yY (yLen SL_29 e0 b (rdI k)) (yY (yadd e0 e0) (yY (yadd e0 rfl) (bE g fun b9 O g => yH (rMk b SL_29 e0 O) fun h w b => Ya h.v e0 (wK N (sQ fun _ R => sQ fun _ S => ?_))))))))
  refine wR (Ym j.v e0 (yY (yLen SL_29 e0 b (rdI k)) (Ym (iV 0) rfl (wK S (blockQ fun T U => bE g fun V W g => ?_)))))
  have X : ∀ (p : LI) (f : FV) w, f 7 = h.v → St w0 ros (row 103 (rI .u32) h.v p :: rs) w → p = V → T (.exit 0) (fr 59 f) w := by
   intro p f w Z b ho
   subst ho
   refine U _ _ _ (R _ _ (sR fun _ a0 => Ym h.v (eh Z) (bE g fun c0 a2 g => ?_)))
   replace b := b.fz
   refine yC (yCall FN_73 (a1 e0)) (integer_trim_ok a2 F0 b) ?_
   rintro _ w ⟨a3, rfl, b⟩
   refine ⟨_, rfl, ?_⟩
   refine Ya a3.v e0 (wK a0 (wp_ret ?_))
   cases g
   exact u _ _ _ (fin1r Tryz.results127 ⟨rfl, rfl⟩ ⟨_, rfl, (b.facts (allC F0 (allT (allT allI))))⟩)
  refine loopQ (fun s a w => ∃ (q : LI) (i : Int) (f : FV), (q, i) = s ∧ a = fr 59 f ∧ f 5 = iV (wqc .i64 d 32) ∧ f 6 = .int .u64 (wc .u64 (wrc d 32)) ∧ f 7 = h.v ∧ f 25 = j.v ∧ f 26 = iV (o.length : Int) ∧ f 27 = iV i ∧ St w0 ros (row 103 (rI .u32) h.v q :: rs) w) W ⟨_, _, _, rfl, rfl, rfl, rfl, rfl, rfl, rfl, rfl, b⟩ ?_
  rintro _ _ w c1 ⟨q, i, f, rfl, rfl, r, x, m, y, z, n, b⟩ c a4 c2 a5 a6
  refine sR fun _ a7 => yY (ylss (eh n) (eh z)) (wK a7 (seqQ fun c3 a8 a9 => ?_))
  refine cIf e0 c (fun b0 c => ?_) fun b0 c => ?_
  ·refine wp_skip (a8 _ _ (sQ fun _ b1 => blockQ fun _ b2 => sR fun _ b3 => Ym (iV i) (eh n) (bE c fun A B c => yY (yIa SL_29 (eh y) (eh n) b (rdI k) B) (yY (yI O_103 e0 b (rdI k) B) (Ya (iV i) e0 (Ya (.int .u32 A) e0 (wK b3 ?_)))))))
   refine sR fun _ b4 => Ym (.int .u32 A) e0 (yY (ycv (k' := .u64) (by kernel_rfl) (by kernel_rfl) e0) (Ym (.int .u64 (wc .u64 (wrc d 32))) (eh x) (bE c fun l b5 c => yY (yshl e0 e0 b5) (Ya (.int .u64 l) e0 (wK b4 (sR fun _ b6 => Ym h.v (eh m) (Ym (iV (wqc .i64 d 32)) (eh r) ?_)))))))
   refine Ym (iV i) e0 (yY (yadd e0 e0) (bE c fun b7 C c => yY (yIa SL_29 e0 e0 b rO0 C) (yY (yI O_103 e0 b rO0 C) (Ym (.int .u64 l) e0 (yY (yand e0 rfl) (yY (ycv (k' := .u32) (by kernel_rfl) (by kernel_rfl) e0) (yY (yor e0 e0) (bE c fun c5 D c => yY (yIs SL_29 e0 e0 b rO0 D) (yT (r_sti (cs := [.int .u32 (wor .u32 b7 (wc .u32 (wand .u64 l 4294967295)))]) b O_103 rfl e0 e0 rfl mkI D) fun w b => wN ?_)))))))))
   refine b6 _ _ (wR (Ym h.v (eh m) (Ym (iV (wqc .i64 d 32)) (eh r) (Ym (iV i) e0 (yY (yadd e0 e0) (yY (yadd e0 rfl) (Ym (.int .u64 l) e0 (yY (yshrc e0 rfl) (yY (ycv (k' := .u32) (by kernel_rfl) (by kernel_rfl) e0) (bE c fun c6 E c => yY (yIs SL_29 e0 e0 b rO0 E) (yT (r_sti (cs := [.int .u32 (wc .u32 (wsrc .u64 l 32))]) b O_103 rfl e0 e0 rfl mkI E) fun w b => ?_)))))))))))
   refine wN (b2 _ _ _ (b1 _ _ (wR (yY (yadd (eh n) rfl) (Ym (iV (wa .i64 i 1)) e0 (wN ?_))))))
   cases c
   exact a5 _ _ _ rfl ⟨_, _, _, rfl, rfl, r, x, m, y, z, rfl, b⟩
  ·refine wp_exit (a9 _ _ _ rfl ?_)
   cases c
   exact a6 _ _ _ _ rfl rfl (X _ _ _ m b (a4 _ rfl))
theorem integer_digit_ok {G : LI} {j k : Int} {h : LI} {g l : Hdr} {out : LI × Int} (d : integer_digit G j k h = some out) (m : imm (rI .u32) l.v h ∈ ros) (b : St w0 ros (row 103 (rI .u32) g.v G :: rs) w) :
  Calls Tryz.prog 128 #[(subH g 1 j k).v, l.v] w (fun e w => e = .returned (.int .u32 out.2) ∧ St w0 ros (row 103 (rI .u32) g.v out.1 :: rs) w) := by
 refine enterQ Tryz.func128 rfl Tryz.ntmps128 rfl fun Q b2 => sR fun _ f1 => Ya (.int .u32 0) rfl (wK f1 (sR fun _ f2 => Ym l.v e0 (yY (yLen SL_29 e0 b (rdI m)) (Ya (iV (h.length : Int)) e0 (wK f2 (sQ fun _ f3 => ?_))))))
 refine bE d fun L b3 d => bE d fun N b4 d => dR [0, 0, 3, 7, 15, 31, 0, 0, 128, 448, 960, 1984, 4095, 8191] [13] 1 folM ?_
 replace b := b.drew
 refine Dn [0, 1, 2, 3, 4, 5, 6, 7, 8, 9, 10, 11, 12] [] [13] (yR rfl (m_ ((subH g 1 j k).v) e0) (yR rfl (m_ (iV (h.length : Int)) e0) (yR rfl (yIaW SL_29 e0 e0 b rO0 b3) (yR rfl (yI O_103 e0 b rO0 (getW_g b3)) (yR rfl (ycv (k' := .u64) (by kernel_rfl) (by kernel_rfl) e0) (yR rfl (yshlc e0 rfl) (yR rfl (m_ ((subH g 1 j k).v) e0) (yR rfl (m_ (iV (h.length : Int)) e0) (yR rfl (ysub e0 rfl) (yR rfl (yIaW SL_29 e0 e0 b rO0 b4) (yR rfl (yI O_103 e0 b rO0 (getW_g b4)) (yR rfl (ycv (k' := .u64) (by kernel_rfl) (by kernel_rfl) e0) (yR rfl (yor e0 e0) ?_)))))))))))))
 refine Rn QSn ?_
 refine Lc1 rfl ?_
 refine Ly wn (a_ (.int .u64 (wor .u64 (wslc .u64 (wc .u64 L) 32) (wc .u64 N))) e0) (Dz [] [] (Rn QSn (f3 _ _ (sQ fun _ f4 => bE d fun o5 b5 d => bE d fun f5 f6 d => bE d fun o6 O d => bE d fun f7 b6 d => dR [0, 0, 0, 4, 14, 30, 62, 127, 0, 0, 0, 1024, 3584, 7680, 15872, 32512, 255, 131071] [16, 17] 2 folM ?_))))
 replace b := b.drew
 refine Dn [0, 1, 2, 3, 4, 5, 6, 7, 8, 9, 10, 11, 12, 13, 14, 15] [] [16] (yR rfl (m_ (.int .u64 (wor .u64 (wslc .u64 (wc .u64 L) 32) (wc .u64 N))) e0) (yR rfl (m_ l.v e0) (yR rfl (m_ (iV (h.length : Int)) e0) (yR rfl (ysub e0 rfl) (yR rfl (yIa SL_29 e0 e0 b (rdI m) b5) (yR rfl (yI O_103 e0 b (rdI m) b5) (yR rfl (ycv (k' := .u64) (by kernel_rfl) (by kernel_rfl) e0) (yR rfl (yquo e0 e0 f6) (yR rfl (m_ (.int .u64 (wor .u64 (wslc .u64 (wc .u64 L) 32) (wc .u64 N))) e0) (yR rfl (m_ l.v e0) (yR rfl (m_ (iV (h.length : Int)) e0) (yR rfl (ysub e0 rfl) (yR rfl (yIa SL_29 e0 e0 b (rdI m) O) ?_)))))))))))))
 refine yR rfl (yI O_103 e0 b (rdI m) O) (yR rfl (ycv (k' := .u64) (by kernel_rfl) (by kernel_rfl) e0) (yR rfl (yrem e0 e0 b6) (Rn QSn ?_)))
 refine Lc1 rfl ?_
 refine Ly wn (a_ (.int .u64 f5) e0) (Dn [] [8, 9, 10, 11, 12, 13, 14, 15] [17] (Rn (yS rfl (m_ (.int .u64 (wor .u64 (wslc .u64 (wc .u64 L) 32) (wc .u64 N))) e0) (yS rfl (m_ l.v e0) (yS rfl (m_ (iV (h.length : Int)) e0) (yS rfl (ysub e0 rfl) (yS rfl (yIa SL_29 e0 e0 b (rdI m) O) (yS rfl (yI O_103 e0 b (rdI m) O) (yS rfl (ycv (k' := .u64) (by kernel_rfl) (by kernel_rfl) e0) (yS rfl (yrem e0 e0 b6) QSn)))))))) ?_))
 refine Lc1 rfl ?_
 refine Ly wn (a_ (.int .u64 f7) e0) (Dz [] [] (Rn QSn (f4 _ _ (sQ fun _ f8 => blockQ fun f9 g0 => bE d fun g1 g2 d => ?_))))
 have b7 : ∀ (i : Int) (f : FV) w, f 0 = (subH g 1 j k).v → f 1 = l.v → f 5 = iV (h.length : Int) → f 7 = .int .u64 i → St w0 ros (row 103 (rI .u32) g.v G :: rs) w → i = g1 → f9 (.exit 0) (fr 177 f) w := by
  intro i f w g3 b8 g4 g5 b ho
  subst ho
  refine g0 _ _ _ (f8 _ _ (sR fun _ g6 => Ya (.int .u64 0) rfl (Ya (.int .u64 0) rfl (wK g6 (sQ fun _ g7 => sR fun _ g8 => Ym l.v (eh b8) (yY (yLen SL_29 e0 b (rdI m)) (Ym (iV 0) rfl ?_)))))))
  refine wK g8 (blockQ fun g9 h0 => bE d fun h1 h2 d => ?_)
  have h3 : ∀ (a0 : LI) (A B : Int) (f : FV) w, f 0 = (subH g 1 j k).v → f 1 = l.v → f 5 = iV (h.length : Int) → f 7 = .int .u64 i → f 9 = .int .u64 A → f 10 = .int .u64 B → St w0 ros (row 103 (rI .u32) g.v a0 :: rs) w → (a0, A, B) = h1 → g9 (.exit 2) (fr 177 f) w := by
   intro a0 A B f w a1 h5 a2 b9 h7 h8 b ho
   subst ho
   refine h0 _ _ _ (g7 _ _ (sR fun _ h9 => Ym ((subH g 1 j k).v) (eh a1) (Ym (iV (h.length : Int)) (eh a2) (bE d fun R c0 d => yY (yIaW SL_29 e0 e0 b rO0 c0) (yY (yI O_103 e0 b rO0 (getW_g c0)) (yY (ycv (k' := .u64) (by kernel_rfl) (by kernel_rfl) e0) (Ym (.int .u64 A) (eh h7) (yY (ysub e0 e0) (Ym (.int .u64 B) (eh h8) (yY (ysub e0 e0) ?_))))))))))
   refine Ya (.int .u64 (ws .u64 (ws .u64 (wc .u64 R) A) B)) e0 (wK h9 (sR fun _ i0 => Ym ((subH g 1 j k).v) (eh a1) (Ym (iV (h.length : Int)) (eh a2) (Ym (.int .u64 (ws .u64 (ws .u64 (wc .u64 R) A) B)) e0 (yY (yand e0 rfl) (yY (ycv (k' := .u32) (by kernel_rfl) (by kernel_rfl) e0) (bE d fun o7 c1 d => yY (yIsW SL_29 e0 e0 b rO0 c1) (yT (r_sti (cs := [.int .u32 (wc .u32 (wand .u64 (ws .u64 (ws .u64 (wc .u64 R) A) B) 4294967295))]) b O_103 rfl e0 e0 rfl mkI (setW_g c1)) fun w b => ?_))))))))
   refine wK i0 (seqQ fun o8 i1 i2 => sR fun _ i3 => Ym (.int .u64 (ws .u64 (ws .u64 (wc .u64 R) A) B)) e0 (yY (yshrc e0 rfl) (yY (yand e0 rfl) (yY (yeql e0 rfl) (wK i3 ?_)))))
   refine cIf e0 d (fun i4 d => ?_) fun i4 d => ?_
   ·refine sR fun _ i5 => Ym (.int .u64 i) (eh b9) (yY (ycv (k' := .u32) (by kernel_rfl) (by kernel_rfl) e0) (Ya (.int .u32 (wc .u32 i)) e0 (wK i5 (wp_ret (i2 _ _ _ rfl ?_)))))
    cases d
    exact b2 _ _ _ (fin1r Tryz.results128 ⟨rfl, rfl⟩ ⟨rfl, b⟩)
   ·refine wp_skip (i1 _ _ (sR fun _ i6 => Ya (.int .u64 0) rfl (wK i6 (sQ fun _ i7 => sR fun _ i8 => Ym l.v (eh h5) (yY (yLen SL_29 e0 b (rdI m)) (Ym (iV 0) rfl (wN ?_)))))))
    refine i8 _ _ (blockQ fun i9 j0 => bE d fun j1 j2 d => ?_)
    have j3 : ∀ (a3 : LI) (H : Int) (f : FV) w, f 0 = (subH g 1 j k).v → f 5 = iV (h.length : Int) → f 7 = .int .u64 i → f 9 = .int .u64 H → St w0 ros (row 103 (rI .u32) g.v a3 :: rs) w → (a3, H) = j1 → i9 (.exit 4) (fr 177 f) w := by
     intro a3 H f w j4 j5 j6 j7 b ho
     subst ho
     refine j0 _ _ _ (i7 _ _ (sR fun _ j8 => Ym ((subH g 1 j k).v) (eh j4) (Ym (iV (h.length : Int)) (eh j5) (bE d fun j9 c2 d => yY (yIaW SL_29 e0 e0 b rO0 c2) (yY (yI O_103 e0 b rO0 (getW_g c2)) (Ym (.int .u64 H) (eh j7) (yY (ycv (k' := .u32) (by kernel_rfl) (by kernel_rfl) e0) (yY (yadd e0 e0) (bE d fun o9 c3 d => yY (yIsW SL_29 e0 e0 b rO0 c3) ?_)))))))))
     refine yT (r_sti (cs := [.int .u32 (wa .u32 j9 (wc .u32 H))]) b O_103 rfl e0 e0 rfl mkI (setW_g c3)) fun w b => wK j8 (sR fun _ k0 => Ym (.int .u64 i) (eh j6) (yY (ysub e0 rfl) (yY (ycv (k' := .u32) (by kernel_rfl) (by kernel_rfl) e0) (Ya (.int .u32 (wc .u32 (ws .u64 i 1))) e0 (wK k0 (wp_ret ?_))))))
     cases d
     exact b2 _ _ _ (fin1r Tryz.results128 ⟨rfl, rfl⟩ ⟨rfl, b⟩)
    refine loopQ (fun s a w => ∃ (a4 : LI) (x C : Int) (f : FV), (a4, x, C) = s ∧ a = fr 177 f ∧ f 0 = (subH g 1 j k).v ∧ f 5 = iV (h.length : Int) ∧ f 7 = .int .u64 i ∧ f 9 = .int .u64 x ∧ f 140 = l.v ∧ f 141 = iV (h.length : Int) ∧ f 142 = iV C ∧ St w0 ros (row 103 (rI .u32) g.v a4 :: rs) w) j2 ⟨_, _, _, _, rfl, rfl, a1, a2, b9, rfl, rfl, rfl, rfl, b⟩ ?_
    rintro _ _ w p0 ⟨a4, x, C, f, rfl, rfl, S, c4, c5, c6, c7, c8, T, b⟩ q k6 p1 k7 k8
    refine sR fun _ k9 => yY (ylss (eh T) (eh c8)) (wK k9 (seqQ fun p2 l0 l1 => ?_))
    refine cIf e0 q (fun l2 q => ?_) fun l2 q => ?_
    ·refine wp_skip (l0 _ _ (sQ fun _ l3 => blockQ fun _ l4 => sR fun _ l5 => Ym (iV C) (eh T) (bE q fun F c9 q => yY (yIa SL_29 (eh c7) (eh T) b (rdI m) c9) (yY (yI O_103 e0 b (rdI m) c9) (Ya (iV C) e0 (Ya (.int .u32 F) e0 (wK l5 ?_)))))))
     refine sR fun _ l6 => Ym ((subH g 1 j k).v) (eh S) (Ym (iV C) e0 (bE q fun I d0 q => yY (yIaW SL_29 e0 e0 b rO0 d0) (yY (yI O_103 e0 b rO0 (getW_g d0)) (yY (ycv (k' := .u64) (by kernel_rfl) (by kernel_rfl) e0) (Ym (.int .u32 F) e0 (yY (ycv (k' := .u64) (by kernel_rfl) (by kernel_rfl) e0) (yY (yadd e0 e0) (Ym (.int .u64 x) (eh c6) (yY (yadd e0 e0) (Ya (.int .u64 (wa .u64 (wa .u64 (wc .u64 I) (wc .u64 F)) x)) e0 ?_))))))))))
     refine wK l6 (sR fun _ l7 => Ym ((subH g 1 j k).v) (eh S) (Ym (iV C) e0 (Ym (.int .u64 (wa .u64 (wa .u64 (wc .u64 I) (wc .u64 F)) x)) e0 (yY (yand e0 rfl) (yY (ycv (k' := .u32) (by kernel_rfl) (by kernel_rfl) e0) (bE q fun p3 d1 q => yY (yIsW SL_29 e0 e0 b rO0 d1) (yT (r_sti (cs := [.int .u32 (wc .u32 (wand .u64 (wa .u64 (wa .u64 (wc .u64 I) (wc .u64 F)) x) 4294967295))]) b O_103 rfl e0 e0 rfl mkI (setW_g d1)) fun w b => wN ?_)))))))
     refine l7 _ _ (wR (Ym (.int .u64 (wa .u64 (wa .u64 (wc .u64 I) (wc .u64 F)) x)) e0 (yY (yshrc e0 rfl) (Ya (.int .u64 (wsrc .u64 (wa .u64 (wa .u64 (wc .u64 I) (wc .u64 F)) x) 32)) e0 (wN (l4 _ _ _ (l3 _ _ (wR (yY (yadd (eh T) rfl) (Ym (iV (wa .i64 C 1)) e0 (wN ?_)))))))))))
     cases q
     exact k7 _ _ _ rfl ⟨_, _, _, _, rfl, rfl, S, c4, c5, rfl, c7, c8, rfl, b⟩
    ·refine wp_exit (l1 _ _ _ rfl ?_)
     cases q
     exact k8 _ _ _ _ rfl rfl (j3 _ _ _ _ S c4 c5 c6 b (k6 _ rfl))
  refine loopQ (fun s a w => ∃ (a5 : LI) (o y D : Int) (f : FV), (a5, o, y, D) = s ∧ a = fr 177 f ∧ f 0 = (subH g 1 j k).v ∧ f 1 = l.v ∧ f 5 = iV (h.length : Int) ∧ f 7 = .int .u64 i ∧ f 9 = .int .u64 o ∧ f 10 = .int .u64 y ∧ f 84 = l.v ∧ f 85 = iV (h.length : Int) ∧ f 86 = iV D ∧ St w0 ros (row 103 (rI .u32) g.v a5 :: rs) w) h2 ⟨_, _, _, _, _, rfl, rfl, g3, b8, g4, g5, rfl, rfl, rfl, rfl, rfl, b⟩ ?_
  rintro _ _ w p4 ⟨a5, o, y, D, f, rfl, rfl, U, d2, d3, a6, d4, d5, d6, d7, V, b⟩ r l8 p5 l9 m0
  refine sR fun _ m1 => yY (ylss (eh V) (eh d7)) (wK m1 (seqQ fun p6 m2 m3 => ?_))
  refine cIf e0 r (fun m4 r => ?_) fun m4 r => ?_
  ·refine wp_skip (m2 _ _ (sQ fun _ m5 => blockQ fun _ m6 => sR fun _ m7 => Ym (iV D) (eh V) (bE r fun t d8 r => yY (yIa SL_29 (eh d6) (eh V) b (rdI m) d8) (yY (yI O_103 e0 b (rdI m) d8) (Ya (iV D) e0 (Ya (.int .u32 t) e0 (wK m7 ?_)))))))
   refine sR fun _ m8 => Ym (.int .u64 i) (eh a6) (Ym (.int .u32 t) e0 (yY (ycv (k' := .u64) (by kernel_rfl) (by kernel_rfl) e0) (yY (ymul e0 e0) (Ym (.int .u64 o) (eh d4) (yY (yadd e0 e0) (Ya (.int .u64 (wa .u64 (wm .u64 i (wc .u64 t)) o)) e0 (wK m8 (sR fun _ m9 => Ym (.int .u64 (wa .u64 (wm .u64 i (wc .u64 t)) o)) e0 ?_))))))))
   refine yY (yshrc e0 rfl) (Ya (.int .u64 (wsrc .u64 (wa .u64 (wm .u64 i (wc .u64 t)) o) 32)) e0 (wK m9 (sR fun _ n0 => Ym ((subH g 1 j k).v) (eh U) (Ym (iV D) e0 (bE r fun J d9 r => yY (yIaW SL_29 e0 e0 b rO0 d9) (yY (yI O_103 e0 b rO0 (getW_g d9)) (yY (ycv (k' := .u64) (by kernel_rfl) (by kernel_rfl) e0) (Ym (.int .u64 (wa .u64 (wm .u64 i (wc .u64 t)) o)) e0 (yY (yand e0 rfl) ?_)))))))))
   refine yY (ysub e0 e0) (Ym (.int .u64 y) (eh d5) (yY (ysub e0 e0) (Ya (.int .u64 (ws .u64 (ws .u64 (wc .u64 J) (wand .u64 (wa .u64 (wm .u64 i (wc .u64 t)) o) 4294967295)) y)) e0 (wK n0 (sR fun _ n1 => Ym ((subH g 1 j k).v) (eh U) (Ym (iV D) e0 (Ym (.int .u64 (ws .u64 (ws .u64 (wc .u64 J) (wand .u64 (wa .u64 (wm .u64 i (wc .u64 t)) o) 4294967295)) y)) e0 (yY (yand e0 rfl) (yY (ycv (k' := .u32) (by kernel_rfl) (by kernel_rfl) e0) (bE r fun p7 e1 r => ?_))))))))))
   refine yY (yIsW SL_29 e0 e0 b rO0 e1) (yT (r_sti (cs := [.int .u32 (wc .u32 (wand .u64 (ws .u64 (ws .u64 (wc .u64 J) (wand .u64 (wa .u64 (wm .u64 i (wc .u64 t)) o) 4294967295)) y) 4294967295))]) b O_103 rfl e0 e0 rfl mkI (setW_g e1)) fun w b => wK n1 (wR (Ym (.int .u64 (ws .u64 (ws .u64 (wc .u64 J) (wand .u64 (wa .u64 (wm .u64 i (wc .u64 t)) o) 4294967295)) y)) e0 (yY (yshrc e0 rfl) (yY (yand e0 rfl) (Ya (.int .u64 (wand .u64 (wsrc .u64 (ws .u64 (ws .u64 (wc .u64 J) (wand .u64 (wa .u64 (wm .u64 i (wc .u64 t)) o) 4294967295)) y) 32) 1)) e0 (wN (m6 _ _ _ (m5 _ _ (wR ?_))))))))))
   refine yY (yadd (eh V) rfl) (Ym (iV (wa .i64 D 1)) e0 (wN ?_))
   cases r
   exact l9 _ _ _ rfl ⟨_, _, _, _, _, rfl, rfl, U, d2, d3, a6, rfl, rfl, d6, d7, rfl, b⟩
  ·refine wp_exit (m3 _ _ _ rfl ?_)
   cases r
   exact m0 _ _ _ _ rfl rfl (h3 _ _ _ _ _ U d2 d3 a6 d4 d5 b (l8 _ rfl))
 refine loopQ (fun s a w => ∃ (u E : Int) (f : FV), (u, E) = s ∧ a = fr 177 f ∧ f 0 = (subH g 1 j k).v ∧ f 1 = l.v ∧ f 5 = iV (h.length : Int) ∧ f 7 = .int .u64 u ∧ f 8 = .int .u64 E ∧ St w0 ros (row 103 (rI .u32) g.v G :: rs) w) g2 ⟨_, _, _, rfl, rfl, rfl, rfl, rfl, rfl, rfl, b⟩ ?_
 rintro _ _ w p8 ⟨u, E, f, rfl, rfl, a7, a8, W, K, a9, b⟩ p e2 p9 n2 e3
 refine seqQ fun q0 n3 n4 => sQ fun _ n5 => bE p fun b0 z p => ?_
 refine joinN (n := 177) (fun f w => f 0 = (subH g 1 j k).v ∧ f 1 = l.v ∧ f 5 = iV (h.length : Int) ∧ f 7 = .int .u64 u ∧ f 8 = .int .u64 E ∧ f 71 = .bool b0 ∧ St w0 ros (row 103 (rI .u32) g.v G :: rs) w) (fun e4 => ?_) ?_
 ·rcases iteS z with ⟨c, z⟩ | ⟨c, z⟩
  ·have n6 := someI z
   refine dR [0, 1, 3, 7, 7, 7, 39, 119, 247, 503, 1023, 7, 2055, 7, 7, 16391, 57351, 122887, 253959, 522247, 1048575, 2097151] [] 0 folM ?_
   replace b := b.drew
   refine Dz [0, 1, 2, 3, 4, 5, 6, 7, 8, 9, 10, 11, 12, 13, 14, 15, 16, 17, 18, 19, 20, 21] [] (yR rfl (m_ (.int .u64 u) (eh K)) (yR rfl (ygtr e0 rfl) (yR rfl (m_ (.bool (decide ((4294967295 : Int) < u))) e0) (Rx rfl rfl (wX (dT c)) (Rx rfl rfl (wX (dT c)) (Rx rfl rfl (wX (dT c)) (Rx rfl rfl (wX (dT c)) (Rx rfl rfl (wX (dT c)) (Rx rfl rfl (wX (dT c)) (Rx rfl rfl (wX (dT c)) (Rx rfl rfl (wX (dT c)) (Rx rfl rfl (wX (dT c)) (Rx rfl rfl (wX (dT c)) ?_)))))))))))))
   exact Rx rfl rfl (wX (dT c)) (Rx rfl rfl (wX (dT c)) (Rx rfl rfl (wX (dT c)) (Rx rfl rfl (wX (dT c)) (Rx rfl rfl (wX (dT c)) (Rx rfl rfl (wX (dT c)) (Rx rfl rfl (wX (dT c)) (Rx rfl rfl (wX (dT c)) (yR rfl (pt_ (.bool b0) e0 (dT c) (eqv n6 rfl)) (Rn QSn (e4 _ _ ⟨a7, a8, W, K, a9, rfl, b⟩))))))))))
  ·refine bE z fun q2 e5 z => bE z fun q3 e6 z => ?_
   have n7 := someI z
   refine dR [0, 1, 3, 7, 7, 7, 39, 119, 247, 503, 1023, 7, 2055, 7, 7, 16391, 57351, 122887, 253959, 522247, 1048575, 2097151] [] 0 folM ?_
   replace b := b.drew
   refine Dz [0, 1, 2, 3, 4, 5, 6, 7, 8, 9, 10, 11, 12, 13, 14, 15, 16, 17, 18, 19, 20, 21] [] (yR rfl (m_ (.int .u64 u) (eh K)) (yR rfl (ygtr e0 rfl) (yR rfl (m_ (.bool (decide ((4294967295 : Int) < u))) e0) (Ry rfl rfl (wG (dF c)) (m_ (.int .u64 u) (eh K)) (Ry rfl rfl (wG (dF c)) (m_ l.v (eh a8)) (Ry rfl rfl (wG (dF c)) (m_ (iV (h.length : Int)) (eh W)) (Ry rfl rfl (wG (dF c)) (ysub e0 rfl) (Ry rfl rfl (wG (dF c)) (yIa SL_29 e0 e0 b (rdI m) e5) (Ry rfl rfl (wG (dF c)) (yI O_103 e0 b (rdI m) e5) (Ry rfl rfl (wG (dF c)) (ycv (k' := .u64) (by kernel_rfl) (by kernel_rfl) e0) (Ry rfl rfl (wG (dF c)) (ymul e0 e0) (Ry rfl rfl (wG (dF c)) (m_ (.int .u64 E) (eh a9)) (Ry rfl rfl (wG (dF c)) (yshlc e0 rfl) ?_)))))))))))))
   exact Ry rfl rfl (wG (dF c)) (m_ ((subH g 1 j k).v) (eh a7)) (Ry rfl rfl (wG (dF c)) (m_ (iV (h.length : Int)) (eh W)) (Ry rfl rfl (wG (dF c)) (ysub e0 rfl) (Ry rfl rfl (wG (dF c)) (yIaW SL_29 e0 e0 b rO0 e6) (Ry rfl rfl (wG (dF c)) (yI O_103 e0 b rO0 (getW_g e6)) (Ry rfl rfl (wG (dF c)) (ycv (k' := .u64) (by kernel_rfl) (by kernel_rfl) e0) (Ry rfl rfl (wG (dF c)) (yor e0 e0) (Ry rfl rfl (wG (dF c)) (ygtr e0 e0) (yR rfl (pf_ (.bool b0) e0 (dF c) (eqv n7 e0)) (Rn QSn (e4 _ _ ⟨a7, a8, W, K, a9, rfl, b⟩))))))))))
 rintro f w ⟨b1, X, Z, e7, n8, n9, b⟩
 refine n5 _ _ (cB (eh n9) p (fun o0 p => ?_) fun o0 p => ?_)
 ·refine wp_skip (n3 _ _ (blockQ fun _ e8 => sR fun _ o1 => Ym (.int .u64 u) (eh e7) (yY (ysub e0 rfl) (Ya (.int .u64 (ws .u64 u 1)) e0 (wK o1 (sR fun _ o2 => Ym (.int .u64 E) (eh n8) (Ym l.v (eh X) ?_)))))))
  refine Ym (iV (h.length : Int)) (eh Z) (yY (ysub e0 rfl) (bE p fun e9 f0 p => yY (yIa SL_29 e0 e0 b (rdI m) f0) (yY (yI O_103 e0 b (rdI m) f0) (yY (ycv (k' := .u64) (by kernel_rfl) (by kernel_rfl) e0) (yY (yadd e0 e0) (Ya (.int .u64 (wa .u64 E (wc .u64 e9))) e0 (wK o2 (sR fun _ o3 => Ym (.int .u64 (wa .u64 E (wc .u64 e9))) e0 (yY (ygtr e0 rfl) ?_)))))))))
  refine wK o3 ?_
  refine cIf e0 p (fun o4 p => ?_) fun o4 p => ?_
  ·refine wp_exit (e8 _ _ _ ?_)
   cases p
   exact e3 _ _ _ _ rfl rfl (b7 _ _ _ b1 X Z rfl b (e2 _ rfl))
  ·refine wp_skip (e8 _ _ _ ?_)
   cases p
   exact n2 _ _ _ rfl ⟨_, _, _, rfl, rfl, b1, X, Z, rfl, rfl, b⟩
 ·refine wp_exit (n4 _ _ _ rfl ?_)
  cases p
  exact e3 _ _ _ _ rfl rfl (b7 _ _ _ b1 X Z e7 b (e2 _ rfl))
theorem integer_down_1_ok {a : Int} {out : Bool} (b : integer_down_1 a = some out) (c : St w0 ros rs w) :
  Calls Tryz.prog 149 #[.int .u32 a] w (fun e w => e = .returned (.bool out) ∧ St w0 ros rs w) := by
 refine enterQ Tryz.func149 rfl Tryz.ntmps149 rfl fun Q d => sR fun _ f => Ya (.bool false) rfl (wK f (sR fun _ g => Ym (.int .u32 a) e0 (yY (yneq e0 rfl) (Ya (.bool (!(decide (a = 0)))) e0 (wK g (wp_ret ?_))))))
 cases b
 exact d _ _ _ (fin1r Tryz.results149 ⟨rfl, rfl⟩ ⟨rfl, c⟩)
theorem slices_IndexFunc_uint32_ok {i : LI} {g : Hdr} {out : Int} (h : slices_IndexFunc_uint32 i = some out) (j : imm (rI .u32) g.v i ∈ ros) (b : St w0 ros rs w) :
  Calls Tryz.prog 161 #[g.v, .func (.func 149) #[] #[]] w (fun e w => e = .returned (iV out) ∧ St w0 ros rs w) := by
 refine enterQ Tryz.func161 rfl Tryz.ntmps161 rfl fun Q m => sR fun _ A => Ya (iV 0) rfl (wK A (seqQ fun Z B C => sR fun _ D => Ym g.v e0 (yY (yLen SL_29 e0 b (rdI j)) (Ym (iV 0) rfl (wK D ?_)))))
 refine blockQ fun n o => bE h fun p E h => ?_
 have F : ∀ (f : FV) w, St w0 ros rs w → .inl () = p → n (.exit 0) (fr 19 f) w := by
  intro f w b ho
  subst ho
  refine o _ _ _ (B _ _ (sR fun _ G => Ya (iV (-1)) rfl (wK G (wp_ret ?_))))
  cases h
  exact m _ _ _ (fin1r Tryz.results161 ⟨rfl, rfl⟩ ⟨rfl, b⟩)
 have H : ∀ (k : Int) (f : FV) w, f 4 = iV k → St w0 ros rs w → .inr k = p → n .ret (fr 19 f) w := by
  intro k f w I b ho
  subst ho
  refine o _ _ _ (C _ _ _ rfl ?_)
  cases h
  exact m _ _ _ (fin1r Tryz.results161 ⟨rfl, I⟩ ⟨rfl, b⟩)
 refine loopQ (fun s a w => ∃ (d : Int) (f : FV), d = s ∧ a = fr 19 f ∧ f 0 = g.v ∧ f 1 = .func (.func 149) #[] #[] ∧ f 7 = iV (i.length : Int) ∧ f 8 = iV d ∧ St w0 ros rs w) E ⟨_, _, rfl, rfl, rfl, rfl, rfl, rfl, b⟩ ?_
 rintro _ _ w a0 ⟨d, f, rfl, rfl, q, r, t, l, b⟩ c u a2 J x
 refine sR fun _ K => yY (ylss (eh l) (eh t)) (wK K (seqQ fun a3 L N => ?_))
 refine cIf e0 c (fun O c => ?_) fun O c => ?_
 ·refine wp_skip (L _ _ (seqQ fun a4 R S => blockQ fun _ y => sR fun _ T => Ym (iV d) (eh l) (Ya (iV d) e0 (wK T (sR fun _ U => Ym (.func (.func 149) #[] #[]) (eh r) (Ym g.v (eh q) ?_))))))
  refine Ym (iV d) e0 (bE c fun a5 z c => yY (yIa SL_29 e0 e0 b (rdI j) z) (yY (yI O_103 e0 b (rdI j) z) (bE c fun a6 V c => yC (yCallw FN_149 e0 (a1 e0)) (integer_down_1_ok V b) ?_)))
  rintro _ w ⟨rfl, b⟩
  refine ⟨_, rfl, ?_⟩
  refine wK U (cB e0 c (fun W c => ?_) fun W c => ?_)
  ·refine sR fun _ X => Ym (iV d) e0 (Ya (iV d) e0 (wK X (wp_ret (y _ _ _ (S _ _ _ rfl ?_)))))
   cases c
   exact x _ _ _ _ rfl rfl (H _ _ _ rfl b (u _ rfl))
  ·refine wp_skip (y _ _ _ (R _ _ (wR (yY (yadd (eh l) rfl) (Ym (iV (wa .i64 d 1)) e0 (wN ?_))))))
   cases c
   exact J _ _ _ rfl ⟨_, _, rfl, rfl, q, r, t, rfl, b⟩
 ·refine wp_exit (N _ _ _ rfl ?_)
  cases c
  exact x _ _ _ _ rfl rfl (F _ _ b (u _ rfl))
theorem slices_ContainsFunc_uint32_ok {d : LI} {a : Hdr} {out : Bool} (b : slices_ContainsFunc_uint32 d = some out) (f : imm (rI .u32) a.v d ∈ ros) (c : St w0 ros rs w) :
  Calls Tryz.prog 148 #[a.v, .func (.func 149) #[] #[]] w (fun e w => e = .returned (.bool out) ∧ St w0 ros rs w) := by
 refine enterQ Tryz.func148 rfl Tryz.ntmps148 rfl fun Q g => sR fun _ h => Ya (.bool false) rfl (wK h (sR fun _ i => Ym a.v e0 (Ym (.func (.func 149) #[] #[]) e0 (bE b fun j k b => yC (yCall FN_161 (a2 e0 e0)) (slices_IndexFunc_uint32_ok k f c) ?_))))
 rintro _ w ⟨rfl, c⟩
 refine ⟨_, rfl, ?_⟩
 refine yY (ygeq e0 rfl) (Ya (.bool (decide ((0 : Int) ≤ j))) e0 (wK i (wp_ret ?_)))
 cases b
 exact g _ _ _ (fin1r Tryz.results148 ⟨rfl, rfl⟩ ⟨rfl, c⟩)
end Go.Proofs.YtpfmbaidflhamaaGreatDoor
