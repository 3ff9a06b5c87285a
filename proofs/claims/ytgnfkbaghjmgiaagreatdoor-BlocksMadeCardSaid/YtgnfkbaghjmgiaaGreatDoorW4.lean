/- Walks: each function computes its model, printed. -/
import Derived.Test.YtgnfkbaghjmgiaaGreatDoorW3
namespace Go.Proofs.YtgnfkbaghjmgiaaGreatDoor
open Go Sx M
set_option maxRecDepth 100000
set_option maxHeartbeats 40000000
set_option linter.unusedVariables false
attribute [local irreducible] wpList Code.wp Calls DR QR QS LA LS St
variable {w0 : World} {ros : List Fact} {rs : List Res} {w : World}
theorem sparseref02_Bad_ok {out : Bool × Bool × Int} (b : sparseref02_Bad = some out) (a : St w0 ros rs w) :
  Calls Tryz.prog 83 #[] w (fun e w => e = .returned (.agg #[.bool out.1, .bool out.2.1, hnil.v, iV out.2.2]) ∧ St w0 ros rs w) := by
 refine enterQ Tryz.func83 rfl Tryz.ntmps83 rfl fun Q c => sR fun _ d => yBb (rAl a ZT_100) fun g w a => wK d (sR fun _ f => yY (ybuild (us := [.bool true, .bool false, hnil.v, iV 0]) [(0, .bool true)] SO_100 (bp1 rfl) rfl) (yT (r_stbn (vals' := [.bool true, .bool false, hnil.v, iV 0]) (us := [.bool true, .bool false, hnil.v, iV 0]) a ST_100 e0 e0 rfl rfl (one_of rfl) rfl) fun w a => wK f ?_))
 refine wp_ret ?_
 cases b
 exact c _ _ _ (fin1r Tryz.results83 (rcs2 rfl rfl a R0 ST_100 rfl) ⟨rfl, (a.k10)⟩)
theorem sparseref01_TrailingZeros_ok {l : Bool} {o : LI} {j : Hdr} {out : Int} (g : sparseref01_TrailingZeros l o = some out) (B : imm (rI .u32) j.v o ∈ ros) (C : globF ∈ ros) (b : St w0 ros rs w) :
  Calls Tryz.prog 111 #[.agg #[.bool l, j.v]] w (fun e w => e = .returned (iV out) ∧ St w0 ros rs w) := by
 refine enterQ Tryz.func111 rfl Tryz.ntmps111 rfl fun Q p => sR fun _ D => yBb (r_box (vals := [.bool l, j.v]) b e0 rfl) fun a5 w b => Ya (iV 0) rfl (wK D (sR fun _ E => yY (yFb FL_98_1 e0) (yY (lb_ j.v O_96 e0 b R0) (bE g fun F G g => yC (yCall FN_126 (a1 e0)) (sparseref01_trim_ok G B b) ?_))))
 rintro _ w ⟨h, rfl, b⟩
 refine ⟨_, rfl, ?_⟩
 refine Ya h.v e0 (wK E (seqQ fun a6 H I => sR fun _ J => Ya (iV 0) rfl (wK J (blockQ fun q r => bE g fun t K g => ?_))))
 have L : ∀ (f : FV) w, St w0 ros rs w → .inl () = t → q (.exit 0) (fr 27 f) w := by
  intro f w b ho
  subst ho
  refine r _ _ _ (H _ _ (sR fun _ N => Ya (iV 0) rfl (wK N (wp_ret ?_))))
  cases g
  exact p _ _ _ (fin1r Tryz.results111 ⟨rfl, rfl⟩ ⟨rfl, b⟩)
 have O : ∀ (m : Int) (f : FV) w, f 2 = iV m → St w0 ros rs w → .inr m = t → q .ret (fr 27 f) w := by
  intro m f w R b ho
  subst ho
  refine r _ _ _ (I _ _ _ rfl ?_)
  cases g
  exact p _ _ _ (fin1r Tryz.results111 ⟨rfl, R⟩ ⟨rfl, b⟩)
 refine loopQ (fun s a w => ∃ (d : Int) (f : FV), d = s ∧ a = fr 27 f ∧ f 3 = h.v ∧ f 4 = iV d ∧ St w0 ros (row 133 (rI .u32) h.v F :: rs) w) K ⟨_, _, rfl, rfl, rfl, rfl, (b.k1f)⟩ ?_
 rintro _ _ w a7 ⟨d, f, rfl, rfl, k, i, b⟩ c u a8 S x
 refine seqQ fun a9 T U => sR fun _ V => Ym (iV d) (eh i) (Ym h.v (eh k) (yY (yLen SL_96 e0 b rO0) (yY (ylss e0 e0) (wK V ?_))))
 refine cIf e0 c (fun W c => ?_) fun W c => ?_
 ·refine wp_skip (T _ _ (seqQ fun b0 X Z => blockQ fun _ y => sR fun _ a0 => Ym h.v (eh k) (Ym (iV d) (eh i) (bE c fun b1 z c => yY (yIa SL_96 e0 e0 b rO0 z) (yY (yI O_133 e0 b rO0 z) (yY (yneq e0 rfl) (wK a0 ?_)))))))
  rcases iteS c with ⟨n, c⟩ | ⟨n, c⟩
  ·refine condF e0 (nF (dT n)) (wp_skip (y _ _ _ (X _ _ (wR (Ym (iV d) (eh i) (yY (yadd e0 rfl) (Ya (iV (wa .i64 d 1)) e0 (wN ?_))))))))
   cases c
   exact S _ _ _ rfl ⟨_, _, rfl, rfl, k, rfl, b⟩
  ·refine condT e0 (nT (dF n)) (sR fun _ a2 => Ym (iV d) (eh i) (yY (ymul rfl e0) (Ym h.v (eh k) (Ym (iV d) (eh i) (bE c fun b2 A c => yY (yIa SL_96 e0 e0 b rO0 A) (yY (yI O_133 e0 b rO0 A) (bE c fun a3 a4 c => yC (yCall FN_133 (a1 e0)) (tz32_ok a4 C b) ?_)))))))
   rintro _ w ⟨rfl, b⟩
   refine ⟨_, rfl, ?_⟩
   refine yY (yadd e0 e0) (Ya (iV (wa .i64 (wm .i64 32 d) a3)) e0 (wK a2 (wp_ret (y _ _ _ (Z _ _ _ rfl ?_)))))
   cases c
   exact x _ _ _ _ rfl rfl (O _ _ _ rfl (b.k10) (u _ rfl))
 ·refine wp_exit (U _ _ _ rfl ?_)
  cases c
  exact x _ _ _ _ rfl rfl (L _ _ (b.k10) (u _ rfl))
theorem sparseref01_Abs_ok {c : Bool} {f : LI} {b : Hdr} {out : Bool × LI} (d : sparseref01_Abs c f = some out) (j : imm (rI .u32) b.v f ∈ ros) (a : St w0 ros rs w) :
  Calls Tryz.prog 82 #[.agg #[.bool c, b.v]] w (fun e w => ∃ (g : Hdr), e = .returned (.agg #[.bool out.1, g.v]) ∧ St w0 ros (row 133 (rI .u32) g.v out.2 :: rs) w) := by
 refine enterQ Tryz.func82 rfl Tryz.ntmps82 rfl fun Q k => sR fun _ l => yBb (r_box (vals := [.bool c, b.v]) a e0 rfl) fun o w a => yBb (rAl a ZT_98) fun p w a => wK l (sR fun _ m => yY (yFb FL_98_1 e0) (yY (lb_ b.v O_96 e0 a R1) (bE d fun h n d => ?_)))
 refine yC (yCall FN_110 (a2 rfl e0)) (sparseref01_make1_ok n j a) ?_
 rintro _ w ⟨i, rfl, a⟩
 refine ⟨_, rfl, ?_⟩
 refine yT (r_stbn (vals' := [.bool h.1, i.v]) (us := [.bool h.1, i.v]) (a.k11) ST_98 e0 e0 rfl rfl (one_of rfl) rfl) fun w a => wK m (wp_ret ?_)
 cases d
 exact k _ _ _ (fin1r Tryz.results82 (rcs2 rfl rfl a R0 ST_98 rfl) ⟨_, rfl, (a.k2p)⟩)
theorem sparseref01_shl_ok {y : LI} {k : Int} {m : Hdr} {out : LI} (g : sparseref01_shl y k = some out) (q : imm (rI .u32) m.v y ∈ ros) (b : St w0 ros rs w) :
  Calls Tryz.prog 130 #[m.v, iV k] w (fun e w => ∃ (z : Hdr), e = .returned (z.v) ∧ St w0 ros (row 133 (rI .u32) z.v out :: rs) w) := by
 refine enterQ Tryz.func130 rfl Tryz.ntmps130 rfl fun Q E => sR fun _ F => Ya hnil.v rfl (wK F (sR fun _ G => Ym (iV k) e0 (yY (yquoc e0 rfl (by decide)) (bE g fun b4 H g => yH (rMk b SL_96 e0 H) fun I w b => Ya I.v e0 ?_))))
 refine wK G (sR fun _ J => Ya (.int .u64 0) rfl (wK J (sQ fun _ K => sR fun _ L => Ya (iV 0) rfl (wK L (blockQ fun N O => ?_)))))
 refine bE g fun R S g => ?_
 have T : ∀ (r : LI) (h : Int) (o : Hdr) (f : FV) w, f 5 = o.v → f 6 = .int .u64 h → St w0 ros (row 133 (rI .u32) o.v r :: rs) w → (r, h) = R → N (.exit 0) (fr 39 f) w := by
  intro r h o f w U V b ho
  subst ho
  refine O _ _ _ (K _ _ (sR fun _ W => Ym o.v (eh U) (Ym (.int .u64 h) (eh V) (yY (ycv (k' := .u32) (by kernel_rfl) (by kernel_rfl) e0) (yH (rLt (n := 1) (l := [wc .u32 h]) b SL_96 [.int .u32 (wc .u32 h)] (bp1 e0) rfl rfl (mks1 (cs := [.int .u32 (wc .u32 h)]) rfl mkI mks0)) fun b5 w b => bE g fun b6 X g => yH (rAp (b.k11) SL_96 e0 e0 rO1 X) fun Z w b => Ya Z.v e0 (wN ?_))))))
  refine W _ _ (wp_ret ?_)
  cases g
  exact E _ _ _ (fin1r Tryz.results130 ⟨rfl, rfl⟩ ⟨_, rfl, (b.k1f)⟩)
 refine loopQ (fun s a w => ∃ (t : LI) (c i : Int) (f : FV) (p : Hdr), (t, c, i) = s ∧ a = fr 39 f ∧ f 0 = m.v ∧ f 1 = iV k ∧ f 5 = p.v ∧ f 6 = .int .u64 c ∧ f 7 = iV i ∧ St w0 ros (row 133 (rI .u32) p.v t :: rs) w) S ⟨_, _, _, _, _, rfl, rfl, rfl, rfl, rfl, rfl, rfl, b⟩ ?_
 rintro _ _ w b7 ⟨t, c, i, f, p, rfl, rfl, u, A, B, C, x, b⟩ d a0 b8 a1 a2
 refine seqQ fun b9 a3 a4 => sR fun _ a5 => Ym (iV i) (eh x) (Ym m.v (eh u) (yY (yLen SL_96 e0 b (rdI q)) (yY (ylss e0 e0) (wK a5 ?_))))
 refine cIf e0 d (fun a6 d => ?_) fun a6 d => ?_
 ·refine wp_skip (a3 _ _ (sQ fun _ a7 => blockQ fun _ a8 => sR fun _ a9 => Ym (.int .u64 c) (eh C) (Ym m.v (eh u) (Ym (iV i) (eh x) (bE d fun c0 D d => yY (yIa SL_96 e0 e0 b (rdI q) D) (yY (yI O_133 e0 b (rdI q) D) (yY (ycv (k' := .u64) (by kernel_rfl) (by kernel_rfl) e0) (Ym (iV k) (eh A) ?_))))))))
  refine yY (yremc e0 rfl (by decide)) (bE d fun j b0 d => yY (yshl e0 e0 b0) (yY (yor e0 e0) (Ya (.int .u64 (wor .u64 c j)) e0 (wK a9 (sR fun _ b1 => Ym p.v (eh B) (Ym (.int .u64 (wor .u64 c j)) e0 (yY (ycv (k' := .u32) (by kernel_rfl) (by kernel_rfl) e0) (yH (rLt (n := 1) (l := [wc .u32 (wor .u64 c j)]) b SL_96 [.int .u32 (wc .u32 (wor .u64 c j))] (bp1 e0) rfl rfl (mks1 (cs := [.int .u32 (wc .u32 (wor .u64 c j))]) rfl mkI mks0)) fun c1 w b => ?_))))))))
  refine bE d fun c2 b2 d => yH (rAp (b.k11) SL_96 e0 e0 rO1 b2) fun b3 w b => Ya b3.v e0 (wK b1 (wR (Ym (.int .u64 (wor .u64 c j)) e0 (yY (yshrc e0 rfl) (Ya (.int .u64 (wsrc .u64 (wor .u64 c j) 32)) e0 (wN (a8 _ _ _ (a7 _ _ (wR ?_)))))))))
  refine Ym (iV i) (eh x) (yY (yadd e0 rfl) (Ya (iV (wa .i64 i 1)) e0 (wN ?_)))
  cases d
  exact a1 _ _ _ rfl ⟨_, _, _, _, _, rfl, rfl, u, A, rfl, rfl, rfl, (b.k1f)⟩
 ·refine wp_exit (a4 _ _ _ rfl ?_)
  cases d
  exact a2 _ _ _ _ rfl rfl (T _ _ _ _ _ B C b (a0 _ rfl))
theorem sparseref01_shr_ok {D : LI} {c : Int} {i : Hdr} {out : LI × Bool} (g : sparseref01_shr D c = some out) (p : imm (rI .u32) i.v D ∈ ros) (b : St w0 ros rs w) :
  Calls Tryz.prog 131 #[i.v, iV c] w (fun e w => ∃ (a3 : Hdr), e = .returned (.tuple #[a3.v, .bool out.2]) ∧ St w0 ros (row 133 (rI .u32) a3.v out.1 :: rs) w) := by
 refine enterQ Tryz.func131 rfl Tryz.ntmps131 rfl fun Q c9 => sR fun _ d0 => Ya hnil.v rfl (Ya (.bool false) rfl (wK d0 (sR fun _ d1 => Ya (.bool false) rfl (wK d1 (sQ fun _ d2 => sQ fun _ d3 => ?_)))))
 refine wR (Ya (iV 0) rfl (wK d3 (blockQ fun d4 d5 => bE g fun d6 d7 g => ?_)))
 have d8 : ∀ (K : Bool) (f : FV) w, f 0 = i.v → f 1 = iV c → f 6 = .bool K → St w0 ros rs w → K = d6 → d4 (.exit 0) (fr 85 f) w := by
  intro K f w d9 L e1 b ho
  subst ho
  refine d5 _ _ _ (d2 _ _ (sR fun _ e2 => Ya hnil.v rfl (wK e2 (sR fun _ e3 => Ym (iV c) (eh L) (yY (yremc e0 rfl (by decide)) (Ya (iV (wrc c 32)) e0 (wK e3 ?_)))))))
  refine sQ fun _ e4 => sR fun _ e5 => Ym (iV c) (eh L) (yY (yquoc e0 rfl (by decide)) (Ya (iV (wqc .i64 c 32)) e0 (wK e5 (blockQ fun e6 e7 => bE g fun e8 e9 g => ?_))))
  have f0 : ∀ (E : Bool) (N : LI) (F : Hdr) (f : FV) w, f 6 = .bool E → f 8 = F.v → St w0 ros (row 133 (rI .u32) F.v N :: rs) w → (E, N) = e8 → e6 (.exit 2) (fr 85 f) w := by
   intro E N F f w f1 f2 b ho
   subst ho
   refine e7 _ _ _ (e4 _ _ (sR fun _ f3 => Ym F.v (eh f2) (Ym (.bool E) (eh f1) (Ya F.v e0 (Ya (.bool E) e0 (wK f3 (wp_ret ?_)))))))
   cases g
   exact c9 _ _ _ (fin2r Tryz.results131 ⟨rfl, rfl⟩ ⟨rfl, rfl⟩ ⟨_, rfl, b⟩)
  replace b := b.rowNh 133 (rI .u32)
  refine loopQ (fun s a w => ∃ (z : Bool) (t : LI) (h : Int) (f : FV) (q : Hdr), (z, t, h) = s ∧ a = fr 85 f ∧ f 0 = i.v ∧ f 1 = iV c ∧ f 6 = .bool z ∧ f 8 = q.v ∧ f 9 = iV (wrc c 32) ∧ f 10 = iV h ∧ St w0 ros (row 133 (rI .u32) q.v t :: rs) w) e9 ⟨_, _, _, _, _, rfl, rfl, d9, L, e1, rfl, rfl, rfl, b⟩ ?_
  rintro _ _ w a4 ⟨z, t, h, f, q, rfl, rfl, A, a5, O, R, a6, B, b⟩ k f4 k7 f5 f6
  refine seqQ fun k8 f7 f8 => sR fun _ f9 => Ym (iV h) (eh B) (Ym i.v (eh A) (yY (yLen SL_96 e0 b (rdI p)) (yY (ylss e0 e0) (wK f9 ?_))))
  refine cIf e0 k (fun g0 k => ?_) fun g0 k => ?_
  ·refine wp_skip (f7 _ _ (sQ fun _ g1 => blockQ fun _ g2 => sR fun _ g3 => Ym i.v (eh A) (Ym (iV h) (eh B) (bE k fun S a7 k => yY (yIa SL_96 e0 e0 b (rdI p) a7) (yY (yI O_133 e0 b (rdI p) a7) (yY (ycv (k' := .u64) (by kernel_rfl) (by kernel_rfl) e0) (Ya (.int .u64 (wc .u64 S)) e0 (wN ?_))))))))
   refine g3 _ _ (sQ fun g4 g5 => sR fun _ g6 => Ym (iV h) (eh B) (yY (yadd e0 rfl) (Ym i.v (eh A) (yY (yLen SL_96 e0 b (rdI p)) (yY (ylss e0 e0) (wK g6 ?_))))))
   have a8 : ∀ (u : Int) (f : FV) w, f 0 = i.v → f 1 = iV c → f 6 = .bool z → f 8 = q.v → f 9 = iV (wrc c 32) → f 10 = iV h → f 11 = .int .u64 u → St w0 ros (row 133 (rI .u32) q.v t :: rs) w → sparseref01_shr_j16 h c D t z u = some a4 → g4 .normal (fr 85 f) w := by
    intro u f w T H a9 b0 U G b1 b g
    refine g5 _ _ (sQ fun g7 g8 => sQ fun _ g9 => bE g fun V r g => ?_)
    refine joinN (n := 85) (fun f w => f 0 = i.v ∧ f 1 = iV c ∧ f 6 = .bool z ∧ f 8 = q.v ∧ f 9 = iV (wrc c 32) ∧ f 10 = iV h ∧ f 11 = .int .u64 u ∧ f 75 = .bool V ∧ St w0 ros (row 133 (rI .u32) q.v t :: rs) w) (fun b2 => ?_) ?_
    ·rcases iteS r with ⟨d, r⟩ | ⟨d, r⟩
     ·refine bE r fun k9 b3 r => bE r fun l0 h0 r => ?_
      have h1 := someI r
      refine dR [0, 0, 2, 7, 15, 31, 31, 127, 255, 31, 543, 1567, 4095, 8191, 16383] [] 0 folM ?_
      replace b := b.drew
      refine Dz [0, 1, 2, 3, 4, 5, 6, 7, 8, 9, 10, 11, 12, 13, 14] [] (yR rfl (m_ (iV h) (eh G)) (yR rfl (m_ (iV c) (eh H)) (yR rfl (yquoc e0 rfl (by decide)) (yR rfl (yeql e0 e0) (yR rfl (m_ (.bool (decide (h = (wqc .i64 c 32)))) e0) (Ry rfl rfl (wG (dT d)) (m_ i.v (eh T)) (Ry rfl rfl (wG (dT d)) (m_ (iV h) (eh G)) (Ry rfl rfl (wG (dT d)) (yIa SL_96 e0 e0 b (rdI p) b3) (Ry rfl rfl (wG (dT d)) (yI O_133 e0 b (rdI p) b3) (Ry rfl rfl (wG (dT d)) (m_ (iV (wrc c 32)) (eh U)) (Ry rfl rfl (wG (dT d)) (yshl rfl e0 h0) (Ry rfl rfl (wG (dT d)) (ysub e0 rfl) (Ry rfl rfl (wG (dT d)) (yand e0 e0) ?_)))))))))))))
      exact Ry rfl rfl (wG (dT d)) (yneq e0 rfl) (yR rfl (pt_ (.bool V) e0 (dT d) (eqv h1 e0)) (Rn QSn (b2 _ _ ⟨T, H, a9, b0, U, G, b1, rfl, b⟩)))
     ·have h3 := someI r
      refine dR [0, 0, 2, 7, 15, 31, 31, 127, 255, 31, 543, 1567, 4095, 8191, 16383] [] 0 folM ?_
      replace b := b.drew
      refine Dz [0, 1, 2, 3, 4, 5, 6, 7, 8, 9, 10, 11, 12, 13, 14] [] (yR rfl (m_ (iV h) (eh G)) (yR rfl (m_ (iV c) (eh H)) (yR rfl (yquoc e0 rfl (by decide)) (yR rfl (yeql e0 e0) (yR rfl (m_ (.bool (decide (h = (wqc .i64 c 32)))) e0) (Rx rfl rfl (wX (dF d)) (Rx rfl rfl (wX (dF d)) (Rx rfl rfl (wX (dF d)) (Rx rfl rfl (wX (dF d)) (Rx rfl rfl (wX (dF d)) (Rx rfl rfl (wX (dF d)) (Rx rfl rfl (wX (dF d)) (Rx rfl rfl (wX (dF d)) ?_)))))))))))))
      exact Rx rfl rfl (wX (dF d)) (yR rfl (pf_ (.bool V) e0 (dF d) (eqv h3 rfl)) (Rn QSn (b2 _ _ ⟨T, H, a9, b0, U, G, b1, rfl, b⟩)))
    rintro f w ⟨b4, b5, h4, b6, b7, b8, b9, h5, b⟩
    refine g9 _ _ ?_
    have c0 : ∀ (W : Bool) (f : FV) w, f 0 = i.v → f 1 = iV c → f 6 = .bool W → f 8 = q.v → f 9 = iV (wrc c 32) → f 10 = iV h → f 11 = .int .u64 u → St w0 ros (row 133 (rI .u32) q.v t :: rs) w → sparseref01_shr_j20 u c t h W = some a4 → g7 .normal (fr 85 f) w := by
     intro W f w h6 h7 h8 h9 c1 i0 i1 b g
     refine g8 _ _ (wR (Ym q.v (eh h9) (Ym (.int .u64 u) (eh i1) (Ym (iV (wrc c 32)) (eh c1) (bE g fun X i2 g => yY (yshr e0 e0 i2) (yY (ycv (k' := .u32) (by kernel_rfl) (by kernel_rfl) e0) (yH (rLt (n := 1) (l := [wc .u32 X]) b SL_96 [.int .u32 (wc .u32 X)] (bp1 e0) rfl rfl (mks1 (cs := [.int .u32 (wc .u32 X)]) rfl mkI mks0)) fun l1 w b => bE g fun l2 i3 g => yH (rAp (b.k11) SL_96 e0 e0 rO1 i3) fun i4 w b => Ya i4.v e0 ?_)))))))
     refine wN (g2 _ _ _ (g1 _ _ (wR (Ym (iV h) (eh i0) (yY (yadd e0 rfl) (Ya (iV (wa .i64 h 1)) e0 (wN ?_)))))))
     cases g
     exact f5 _ _ _ rfl ⟨_, _, _, _, _, rfl, rfl, h6, h7, h8, rfl, c1, rfl, (b.k1f)⟩
    refine cB (eh h5) g (fun i5 g => ?_) fun i5 g => ?_
    ·exact wR (Ya (.bool true) rfl (wN (c0 _ _ _ b4 b5 rfl b6 b7 b8 b9 b g)))
    ·exact wp_skip (c0 _ _ _ b4 b5 h4 b6 b7 b8 b9 b g)
   refine cIf e0 k (fun i6 k => ?_) fun i6 k => ?_
   ·exact wR (Ym (.int .u64 (wc .u64 S)) e0 (Ym i.v (eh A) (Ym (iV h) (eh B) (yY (yadd e0 rfl) (bE k fun i7 c2 k => yY (yIa SL_96 e0 e0 b (rdI p) c2) (yY (yI O_133 e0 b (rdI p) c2) (yY (ycv (k' := .u64) (by kernel_rfl) (by kernel_rfl) e0) (yY (yshlc e0 rfl) (yY (yor e0 e0) (Ya (.int .u64 (wor .u64 (wc .u64 S) (wslc .u64 (wc .u64 i7) 32))) e0 (wN (a8 _ _ _ A a5 O R a6 B rfl b k))))))))))))
   ·exact wp_skip (a8 _ _ _ A a5 O R a6 B rfl b k)
  ·refine wp_exit (f8 _ _ _ rfl ?_)
   cases k
   exact f6 _ _ _ _ rfl rfl (f0 _ _ _ _ _ O R b (f4 _ rfl))
 refine loopQ (fun s a w => ∃ (C : Bool) (j : Int) (f : FV), (C, j) = s ∧ a = fr 85 f ∧ f 0 = i.v ∧ f 1 = iV c ∧ f 6 = .bool C ∧ f 7 = iV j ∧ St w0 ros rs w) d7 ⟨_, _, _, rfl, rfl, rfl, rfl, rfl, rfl, b⟩ ?_
 rintro _ _ w l3 ⟨C, j, f, rfl, rfl, Z, a0, c3, I, b⟩ x i8 l4 i9 j0
 refine seqQ fun l5 j1 j2 => sR fun _ j3 => Ym (iV j) (eh I) (Ym (iV c) (eh a0) (yY (yquoc e0 rfl (by decide)) (yY (ylss e0 e0) (Ym (.bool (decide (j < (wqc .i64 c 32)))) e0 ?_))))
 refine joinW 5 (fun f w => f 0 = i.v ∧ f 1 = iV c ∧ f 6 = .bool C ∧ f 7 = iV j ∧ f 21 = .bool ((decide (j < (wqc .i64 c 32))) && (decide (j < (D.length : Int)))) ∧ St w0 ros rs w) (fun c4 => ?_) ?_
 ·rcases Bool.eq_false_or_eq_true (decide (j < (wqc .i64 c 32))) with m | m
  ·exact yG m (m_ (iV j) (eh I)) (yG m (m_ i.v (eh Z)) (yG m (yLen SL_96 e0 b (rdI p)) (yG m (ylss e0 e0) (yY (pt_ (.bool (decide (j < (D.length : Int)))) e0 m e0) (c4 _ _ ⟨Z, a0, c3, I, (congrArg Value.bool (andT m)), b⟩)))))
  ·exact gN m (gN m (gN m (gN m (yY (pf_ (.bool false) e0 m rfl) (c4 _ _ ⟨Z, a0, c3, I, (congrArg Value.bool (andF m)), b⟩)))))
 rintro f w ⟨J, a1, c5, a2, j4, b⟩
 refine wK j3 (cB (eh j4) x (fun j5 x => ?_) fun j5 x => ?_)
 ·refine wp_skip (j1 _ _ (sQ fun _ j6 => blockQ fun _ j7 => wR (Ym (.bool C) (eh c5) (Ym (.bool C) e0 (bE x fun c6 y x => ?_)))))
  refine joinW 6 (fun f w => f 0 = i.v ∧ f 1 = iV c ∧ f 7 = iV j ∧ f 31 = .bool c6 ∧ St w0 ros rs w) (fun c7 => ?_) ?_
  ·rcases iteS y with ⟨o, y⟩ | ⟨o, y⟩
   ·refine gN o (gN o (gN o (gN o (gN o (yY (pt_ (.bool true) e0 o rfl) ?_)))))
    cases y
    exact c7 _ _ ⟨J, a1, a2, rfl, b⟩
   ·refine yG (bfalse o) (m_ i.v (eh J)) (yG (bfalse o) (m_ (iV j) (eh a2)) (bE y fun j8 c8 y => yG (bfalse o) (yIa SL_96 e0 e0 b (rdI p) c8) (yG (bfalse o) (yI O_133 e0 b (rdI p) c8) (yG (bfalse o) (yneq e0 rfl) (yY (pf_ (.bool (!(decide (j8 = 0)))) e0 (bfalse o) e0) ?_)))))
    cases y
    exact c7 _ _ ⟨J, a1, a2, rfl, b⟩
  rintro f w ⟨j9, k0, k5, k6, b⟩
  refine Ya (.bool c6) (eh k6) (wN (j7 _ _ _ (j6 _ _ (wR (Ym (iV j) (eh k5) (yY (yadd e0 rfl) (Ya (iV (wa .i64 j 1)) e0 (wN ?_))))))))
  cases x
  exact i9 _ _ _ rfl ⟨_, _, _, rfl, rfl, j9, k0, rfl, rfl, b⟩
 ·refine wp_exit (j2 _ _ _ rfl ?_)
  cases x
  exact j0 _ _ _ _ rfl rfl (d8 _ _ _ J a1 c5 b (i8 _ rfl))
theorem sparseref01_Neg_ok {b : Bool} {f : LI} {c : Hdr} {out : Bool × LI} (d : sparseref01_Neg b f = some out) (j : imm (rI .u32) c.v f ∈ ros) (a : St w0 ros rs w) :
  Calls Tryz.prog 139 #[.agg #[.bool b, c.v]] w (fun e w => ∃ (g : Hdr), e = .returned (.agg #[.bool out.1, g.v]) ∧ St w0 ros (row 133 (rI .u32) g.v out.2 :: rs) w) := by
 refine enterQ Tryz.func139 rfl Tryz.ntmps139 rfl fun Q k => sR fun _ l => yBb (r_box (vals := [.bool b, c.v]) a e0 rfl) fun o w a => yBb (rAl a ZT_98) fun p w a => wK l (sR fun _ m => yY (yFb FL_98_0 e0) (yY (lb_ (.bool b) O_4 e0 a R1) (yY (ynot e0) ?_)))
 refine yY (yFb FL_98_1 e0) (yY (lb_ c.v O_96 e0 a R1) (bE d fun h n d => yC (yCall FN_110 (a2 e0 e0)) (sparseref01_make1_ok n j a) ?_))
 rintro _ w ⟨i, rfl, a⟩
 refine ⟨_, rfl, ?_⟩
 refine yT (r_stbn (vals' := [.bool h.1, i.v]) (us := [.bool h.1, i.v]) (a.k11) ST_98 e0 e0 rfl rfl (one_of rfl) rfl) fun w a => wK m (wp_ret ?_)
 cases d
 exact k _ _ _ (fin1r Tryz.results139 (rcs2 rfl rfl a R0 ST_98 rfl) ⟨_, rfl, (a.k2p)⟩)
theorem sparseref01_addMag_ok {G B : LI} {i j : Hdr} {out : LI} (c : sparseref01_addMag G B = some out) (u : imm (rI .u32) i.v G ∈ ros) (x : imm (rI .u32) j.v B ∈ ros) (b : St w0 ros rs w) :
  Calls Tryz.prog 136 #[i.v, j.v] w (fun e w => ∃ (H : Hdr), e = .returned (H.v) ∧ St w0 ros (row 133 (rI .u32) H.v out :: rs) w) := by
 refine enterQ Tryz.func136 rfl Tryz.ntmps136 rfl fun Q U => sR fun _ V => Ya hnil.v rfl (wK V (sR fun _ W => Ya hnil.v rfl (wK W (sR fun _ X => Ya (.int .u64 0) rfl ?_))))
 refine wK X (sQ fun _ Z => sR fun _ a0 => Ya (iV 0) rfl (wK a0 (blockQ fun a1 a2 => bE c fun a3 a4 c => ?_)))
 have a5 : ∀ (C : LI) (m : Int) (y : Hdr) (f : FV) w, f 5 = y.v → f 6 = .int .u64 m → St w0 ros (row 133 (rI .u32) y.v C :: rs) w → (C, m) = a3 → a1 (.exit 0) (fr 51 f) w := by
  intro C m y f w a6 a7 b ho
  subst ho
  refine a2 _ _ _ (Z _ _ (sR fun _ a8 => Ym y.v (eh a6) (Ym (.int .u64 m) (eh a7) (yY (ycv (k' := .u32) (by kernel_rfl) (by kernel_rfl) e0) (yH (rLt (n := 1) (l := [wc .u32 m]) b SL_96 [.int .u32 (wc .u32 m)] (bp1 e0) rfl rfl (mks1 (cs := [.int .u32 (wc .u32 m)]) rfl mkI mks0)) fun d7 w b => bE c fun d8 a9 c => yH (rAp (b.k11) SL_96 e0 e0 rO1 a9) fun b0 w b => Ya b0.v e0 (wN ?_))))))
  refine a8 _ _ (wp_ret ?_)
  cases c
  exact U _ _ _ (fin1r Tryz.results136 ⟨rfl, rfl⟩ ⟨_, rfl, (b.k1f)⟩)
 replace b := b.rowNh 133 (rI .u32)
 refine loopQ (fun s a w => ∃ (o : LI) (p d : Int) (f : FV) (k : Hdr), (o, p, d) = s ∧ a = fr 51 f ∧ f 0 = i.v ∧ f 1 = j.v ∧ f 5 = k.v ∧ f 6 = .int .u64 p ∧ f 7 = iV d ∧ St w0 ros (row 133 (rI .u32) k.v o :: rs) w) a4 ⟨_, _, _, _, _, rfl, rfl, rfl, rfl, rfl, rfl, rfl, b⟩ ?_
 rintro _ _ w I ⟨o, p, d, f, k, rfl, rfl, q, D, E, F, r, b⟩ g b1 d9 b2 b3
 refine seqQ fun e1 b4 b5 => sR fun _ b6 => Ym (iV d) (eh r) (Ym i.v (eh q) (yY (yLen SL_96 e0 b (rdI u)) (Ym j.v (eh D) (yY (yLen SL_96 e0 b (rdI x)) (yY (ymax e0 e0) (yY (ylss e0 e0) (wK b6 ?_)))))))
 refine cIf e0 g (fun b7 g => ?_) fun b7 g => ?_
 ·refine wp_skip (b4 _ _ (sQ fun _ b8 => blockQ fun _ b9 => sQ fun c0 c1 => sR fun _ c2 => Ym (iV d) (eh r) (Ym i.v (eh q) (yY (yLen SL_96 e0 b (rdI u)) (yY (ylss e0 e0) (wK c2 ?_))))))
  have J : ∀ (t : Int) (f : FV) w, f 0 = i.v → f 1 = j.v → f 5 = k.v → f 6 = .int .u64 t → f 7 = iV d → St w0 ros (row 133 (rI .u32) k.v o :: rs) w → sparseref01_addMag_j6 d B o t = some I → c0 .normal (fr 51 f) w := by
   intro t f w K z L N A b c
   refine c1 _ _ (sQ fun c3 c4 => sR fun _ c5 => Ym (iV d) (eh A) (Ym j.v (eh z) (yY (yLen SL_96 e0 b (rdI x)) (yY (ylss e0 e0) (wK c5 ?_)))))
   have O : ∀ (h : Int) (f : FV) w, f 0 = i.v → f 1 = j.v → f 5 = k.v → f 6 = .int .u64 h → f 7 = iV d → St w0 ros (row 133 (rI .u32) k.v o :: rs) w → sparseref01_addMag_j7 o d h = some I → c3 .normal (fr 51 f) w := by
    intro h f w c6 c7 c8 R c9 b c
    refine c4 _ _ (sR fun _ d0 => Ym k.v (eh c8) (Ym (.int .u64 h) (eh R) (yY (ycv (k' := .u32) (by kernel_rfl) (by kernel_rfl) e0) (yH (rLt (n := 1) (l := [wc .u32 h]) b SL_96 [.int .u32 (wc .u32 h)] (bp1 e0) rfl rfl (mks1 (cs := [.int .u32 (wc .u32 h)]) rfl mkI mks0)) fun e2 w b => bE c fun e3 d1 c => yH (rAp (b.k11) SL_96 e0 e0 rO1 d1) fun d2 w b => Ya d2.v e0 (wK d0 ?_)))))
    refine wR (Ym (.int .u64 h) (eh R) (yY (yshrc e0 rfl) (Ya (.int .u64 (wsrc .u64 h 32)) e0 (wN (b9 _ _ _ (b8 _ _ (wR (Ym (iV d) (eh c9) (yY (yadd e0 rfl) (Ya (iV (wa .i64 d 1)) e0 (wN ?_)))))))))))
    cases c
    exact b2 _ _ _ rfl ⟨_, _, _, _, _, rfl, rfl, c6, c7, rfl, rfl, rfl, (b.k1f)⟩
   refine cIf e0 c (fun d3 c => ?_) fun d3 c => ?_
   ·exact wR (Ym (.int .u64 t) (eh N) (Ym j.v (eh z) (Ym (iV d) (eh A) (bE c fun d4 S c => yY (yIa SL_96 e0 e0 b (rdI x) S) (yY (yI O_133 e0 b (rdI x) S) (yY (ycv (k' := .u64) (by kernel_rfl) (by kernel_rfl) e0) (yY (yadd e0 e0) (Ya (.int .u64 (wa .u64 t (wc .u64 d4))) e0 (wN (O _ _ _ K z L rfl A b c))))))))))
   ·exact wp_skip (O _ _ _ K z L N A b c)
  refine cIf e0 g (fun d5 g => ?_) fun d5 g => ?_
  ·exact wR (Ym (.int .u64 p) (eh F) (Ym i.v (eh q) (Ym (iV d) (eh r) (bE g fun d6 T g => yY (yIa SL_96 e0 e0 b (rdI u) T) (yY (yI O_133 e0 b (rdI u) T) (yY (ycv (k' := .u64) (by kernel_rfl) (by kernel_rfl) e0) (yY (yadd e0 e0) (Ya (.int .u64 (wa .u64 p (wc .u64 d6))) e0 (wN (J _ _ _ q D E rfl r b g))))))))))
  ·exact wp_skip (J _ _ _ q D E F r b g)
 ·refine wp_exit (b5 _ _ _ rfl ?_)
  cases g
  exact b3 _ _ _ _ rfl rfl (a5 _ _ _ _ _ E F b (b1 _ rfl))
theorem sparseref01_cmpMag_ok {n z : LI} {h i : Hdr} {out : Int} (d : sparseref01_cmpMag n z = some out) (j : imm (rI .u32) h.v n ∈ ros) (k : imm (rI .u32) i.v z ∈ ros) (b : St w0 ros rs w) :
  Calls Tryz.prog 137 #[h.v, i.v] w (fun e w => e = .returned (iV out) ∧ St w0 ros rs w) := by
 refine enterQ Tryz.func137 rfl Tryz.ntmps137 rfl fun Q m => sR fun _ K => Ya (iV 0) rfl (wK K (seqQ fun b7 L A => sR fun _ N => Ym h.v e0 (yY (yLen SL_96 e0 b (rdI j)) (Ym i.v e0 (yY (yLen SL_96 e0 b (rdI k)) (yY (yneq e0 e0) ?_))))))
 refine wK N ?_
 rcases iteS d with ⟨o, d⟩ | ⟨o, d⟩
 ·refine condF e0 (nF (dT o)) (wp_skip (L _ _ (seqQ fun b8 O R => sR fun _ S => Ym h.v e0 (yY (yLen SL_96 e0 b (rdI j)) (yY (ysub e0 rfl) (Ya (iV (ws .i64 (n.length : Int) 1)) e0 (wK S (blockQ fun B C => bE d fun D T d => ?_))))))))
  have U : ∀ (f : FV) w, St w0 ros rs w → .inl () = D → B (.exit 0) (fr 41 f) w := by
   intro f w b ho
   subst ho
   refine C _ _ _ (O _ _ (sR fun _ V => Ya (iV 0) rfl (wK V (wp_ret ?_))))
   cases d
   exact m _ _ _ (fin1r Tryz.results137 ⟨rfl, rfl⟩ ⟨rfl, b⟩)
  have E : ∀ (p : Int) (f : FV) w, f 4 = iV p → St w0 ros rs w → .inr p = D → B .ret (fr 41 f) w := by
   intro p f w W b ho
   subst ho
   refine C _ _ _ (R _ _ _ rfl ?_)
   cases d
   exact m _ _ _ (fin1r Tryz.results137 ⟨rfl, W⟩ ⟨rfl, b⟩)
  refine loopQ (fun s a w => ∃ (g : Int) (f : FV), g = s ∧ a = fr 41 f ∧ f 0 = h.v ∧ f 1 = i.v ∧ f 5 = iV g ∧ St w0 ros rs w) T ⟨_, _, rfl, rfl, rfl, rfl, rfl, b⟩ ?_
  rintro _ _ w b9 ⟨g, f, rfl, rfl, q, r, l, b⟩ c t c0 X u
  refine seqQ fun c1 Z a0 => sR fun _ a1 => Ym (iV g) (eh l) (yY (ygeq e0 rfl) (wK a1 ?_))
  refine cIf e0 c (fun a2 c => ?_) fun a2 c => ?_
  ·refine wp_skip (Z _ _ (seqQ fun c2 a3 F => blockQ fun _ x => sQ fun _ a4 => bE c fun c3 G c => bE c fun c4 H c => dR [0, 0, 3, 7, 0, 0, 48, 112, 255] [] 0 folM ?_))
   replace b := b.drew
   refine Dz [0, 1, 2, 3, 4, 5, 6, 7, 8] [] (yR rfl (m_ h.v (eh q)) (yR rfl (m_ (iV g) (eh l)) (yR rfl (yIa SL_96 e0 e0 b (rdI j) G) (yR rfl (yI O_133 e0 b (rdI j) G) (yR rfl (m_ i.v (eh r)) (yR rfl (m_ (iV g) (eh l)) (yR rfl (yIa SL_96 e0 e0 b (rdI k) H) (yR rfl (yI O_133 e0 b (rdI k) H) (yR rfl (yneq e0 e0) (Rn QSn (a4 _ _ ?_)))))))))))
   rcases iteS c with ⟨y, c⟩ | ⟨y, c⟩
   ·refine condF e0 (nF (dT y)) (wp_skip (x _ _ _ (a3 _ _ (wR (Ym (iV g) (eh l) (yY (ysub e0 rfl) (Ya (iV (ws .i64 g 1)) e0 (wN ?_))))))))
    cases c
    exact X _ _ _ rfl ⟨_, _, rfl, rfl, q, r, rfl, b⟩
   ·refine condT e0 (nT (dF y)) (seqQ fun c6 a5 a6 => sQ fun _ a7 => bE c fun c7 I c => bE c fun c8 J c => dR [0, 0, 3, 7, 0, 0, 48, 112, 255] [] 0 folM ?_)
    replace b := b.drew
    refine Dz [0, 1, 2, 3, 4, 5, 6, 7, 8] [] (yR rfl (m_ h.v (eh q)) (yR rfl (m_ (iV g) (eh l)) (yR rfl (yIa SL_96 e0 e0 b (rdI j) I) (yR rfl (yI O_133 e0 b (rdI j) I) (yR rfl (m_ i.v (eh r)) (yR rfl (m_ (iV g) (eh l)) (yR rfl (yIa SL_96 e0 e0 b (rdI k) J) (yR rfl (yI O_133 e0 b (rdI k) J) (yR rfl (ylss e0 e0) (Rn QSn (a7 _ _ ?_)))))))))))
    refine cIf e0 c (fun a8 c => ?_) fun a8 c => ?_
    ·refine sR fun _ a9 => Ya (iV (-1)) rfl (wK a9 (wp_ret (a6 _ _ _ rfl (x _ _ _ (F _ _ _ rfl ?_)))))
     cases c
     exact u _ _ _ _ rfl rfl (E _ _ _ rfl b (t _ rfl))
    ·refine wp_skip (a5 _ _ (sR fun _ b0 => Ya (iV 1) rfl (wK b0 (wp_ret (x _ _ _ (F _ _ _ rfl ?_))))))
     cases c
     exact u _ _ _ _ rfl rfl (E _ _ _ rfl b (t _ rfl))
  ·refine wp_exit (a0 _ _ _ rfl ?_)
   cases c
   exact u _ _ _ _ rfl rfl (U _ _ b (t _ rfl))
 ·refine condT e0 (nT (dF o)) (seqQ fun c9 b1 b2 => sR fun _ b3 => Ym h.v e0 (yY (yLen SL_96 e0 b (rdI j)) (Ym i.v e0 (yY (yLen SL_96 e0 b (rdI k)) (yY (ylss e0 e0) (wK b3 ?_))))))
  refine cIf e0 d (fun b4 d => ?_) fun b4 d => ?_
  ·refine sR fun _ b5 => Ya (iV (-1)) rfl (wK b5 (wp_ret (b2 _ _ _ rfl (A _ _ _ rfl ?_))))
   cases d
   exact m _ _ _ (fin1r Tryz.results137 ⟨rfl, rfl⟩ ⟨rfl, b⟩)
  ·refine wp_skip (b1 _ _ (sR fun _ b6 => Ya (iV 1) rfl (wK b6 (wp_ret (A _ _ _ rfl ?_)))))
   cases d
   exact m _ _ _ (fin1r Tryz.results137 ⟨rfl, rfl⟩ ⟨rfl, b⟩)
theorem sparseref01_subMag_ok {B C : LI} {j k : Hdr} {out : LI} (h : sparseref01_subMag B C = some out) (u : imm (rI .u32) j.v B ∈ ros) (x : imm (rI .u32) k.v C ∈ ros) (b : St w0 ros rs w) :
  Calls Tryz.prog 138 #[j.v, k.v] w (fun e w => ∃ (D : Hdr), e = .returned (D.v) ∧ St w0 ros (row 133 (rI .u32) D.v out :: rs) w) := by
 refine enterQ Tryz.func138 rfl Tryz.ntmps138 rfl fun Q I => sR fun _ J => Ya hnil.v rfl (wK J (sR fun _ K => Ya hnil.v rfl (wK K (sR fun _ L => Ya (.int .u64 0) rfl ?_))))
 refine wK L (sQ fun _ N => sR fun _ O => Ya (iV 0) rfl (wK O (blockQ fun R S => bE h fun T U h => ?_)))
 have V : ∀ (y : LI) (p : Hdr) (f : FV) w, f 5 = p.v → St w0 ros (row 133 (rI .u32) p.v y :: rs) w → y = T → R (.exit 0) (fr 41 f) w := by
  intro y p f w W b ho
  subst ho
  refine S _ _ _ (N _ _ (sR fun _ X => Ym p.v (eh W) (Ya p.v e0 (wK X (wp_ret ?_)))))
  cases h
  exact I _ _ _ (fin1r Tryz.results138 ⟨rfl, rfl⟩ ⟨_, rfl, b⟩)
 replace b := b.rowNh 133 (rI .u32)
 refine loopQ (fun s a w => ∃ (q : LI) (i d : Int) (f : FV) (m : Hdr), (q, i, d) = s ∧ a = fr 41 f ∧ f 0 = j.v ∧ f 1 = k.v ∧ f 5 = m.v ∧ f 6 = .int .u64 i ∧ f 7 = iV d ∧ St w0 ros (row 133 (rI .u32) m.v q :: rs) w) U ⟨_, _, _, _, _, rfl, rfl, rfl, rfl, rfl, rfl, rfl, b⟩ ?_
 rintro _ _ w Z ⟨q, i, d, f, m, rfl, rfl, r, t, z, a0, o, b⟩ c a1 c3 a2 a3
 refine seqQ fun c4 a4 a5 => sR fun _ a6 => Ym (iV d) (eh o) (Ym j.v (eh r) (yY (yLen SL_96 e0 b (rdI u)) (yY (ylss e0 e0) (wK a6 ?_))))
 refine cIf e0 c (fun a7 c => ?_) fun a7 c => ?_
 ·refine wp_skip (a4 _ _ (sQ fun _ a8 => blockQ fun _ a9 => sR fun _ b0 => Ym j.v (eh r) (Ym (iV d) (eh o) (bE c fun A E c => yY (yIa SL_96 e0 e0 b (rdI u) E) (yY (yI O_133 e0 b (rdI u) E) (yY (ycv (k' := .u64) (by kernel_rfl) (by kernel_rfl) e0) (Ym (.int .u64 i) (eh a0) (yY (ysub e0 e0) ?_))))))))
  refine Ya (.int .u64 (ws .u64 (wc .u64 A) i)) e0 (wK b0 (sQ fun b1 b2 => sR fun _ b3 => Ym (iV d) (eh o) (Ym k.v (eh t) (yY (yLen SL_96 e0 b (rdI x)) (yY (ylss e0 e0) (wK b3 ?_))))))
  have F : ∀ (g : Int) (f : FV) w, f 0 = j.v → f 1 = k.v → f 5 = m.v → f 7 = iV d → f 8 = .int .u64 g → St w0 ros (row 133 (rI .u32) m.v q :: rs) w → sparseref01_subMag_j4 q d g = some Z → b1 .normal (fr 41 f) w := by
   intro g f w b4 b5 b6 b7 G b h
   refine b2 _ _ (sR fun _ b8 => Ym m.v (eh b6) (Ym (.int .u64 g) (eh G) (yY (ycv (k' := .u32) (by kernel_rfl) (by kernel_rfl) e0) (yH (rLt (n := 1) (l := [wc .u32 g]) b SL_96 [.int .u32 (wc .u32 g)] (bp1 e0) rfl rfl (mks1 (cs := [.int .u32 (wc .u32 g)]) rfl mkI mks0)) fun c5 w b => bE h fun c6 b9 h => yH (rAp (b.k11) SL_96 e0 e0 rO1 b9) fun c0 w b => Ya c0.v e0 (wK b8 ?_)))))
   refine wR (Ym (.int .u64 g) (eh G) (yY (yshrc e0 rfl) (Ya (.int .u64 (wsrc .u64 g 63)) e0 (wN (a9 _ _ _ (a8 _ _ (wR (Ym (iV d) (eh b7) (yY (yadd e0 rfl) (Ya (iV (wa .i64 d 1)) e0 (wN ?_)))))))))))
   cases h
   exact a2 _ _ _ rfl ⟨_, _, _, _, _, rfl, rfl, b4, b5, rfl, rfl, rfl, (b.k1f)⟩
  refine cIf e0 c (fun c1 c => ?_) fun c1 c => ?_
  ·exact wR (Ym (.int .u64 (ws .u64 (wc .u64 A) i)) e0 (Ym k.v (eh t) (Ym (iV d) (eh o) (bE c fun c2 H c => yY (yIa SL_96 e0 e0 b (rdI x) H) (yY (yI O_133 e0 b (rdI x) H) (yY (ycv (k' := .u64) (by kernel_rfl) (by kernel_rfl) e0) (yY (ysub e0 e0) (Ya (.int .u64 (ws .u64 (ws .u64 (wc .u64 A) i) (wc .u64 c2))) e0 (wN (F _ _ _ r t z o rfl b c))))))))))
  ·exact wp_skip (F _ _ _ r t z o rfl b c)
 ·refine wp_exit (a5 _ _ _ rfl ?_)
  cases c
  exact a3 _ _ _ _ rfl rfl (V _ _ _ _ z b (a1 _ rfl))
theorem sparseref01_Add_ok {c : Bool} {k : LI} {d : Bool} {l : LI} {i f : Hdr} {out : Bool × LI} (b : sparseref01_Add c k d l = some out) (t : imm (rI .u32) i.v k ∈ ros) (u : imm (rI .u32) f.v l ∈ ros) (a : St w0 ros rs w) :
  Calls Tryz.prog 129 #[.agg #[.bool c, i.v], .agg #[.bool d, f.v]] w (fun e w => ∃ (m : Hdr), e = .returned (.agg #[.bool out.1, m.v]) ∧ St w0 ros (row 133 (rI .u32) m.v out.2 :: rs) w) := by
 refine enterQ Tryz.func129 rfl Tryz.ntmps129 rfl fun Q j => sR fun _ x => yBb (r_box (vals := [.bool c, i.v]) a e0 rfl) fun W w a => yBb (r_box (vals := [.bool d, f.v]) a e0 rfl) fun X w a => yBb (rAl a ZT_98) fun Z w a => wK x (sQ fun _ y => bE b fun a0 z b => bE b fun a3 A b => ?_)
 refine dR [0, 1, 3, 0, 8, 31, 63, 127] [2, 5, 6, 7] 4 folM ?_
 replace a := a.drew
 refine Dn [0, 1, 3, 4] [] [2] (yR rfl (yFb FL_98_1 e0) (yR rfl (lb_ i.v O_96 e0 a R2) (yR rfl (yFb FL_98_1 e0) (yR rfl (lb_ f.v O_96 e0 a R1) (Rn QSn ?_)))))
 refine Lc1 rfl ?_
 refine Lk wn (yCall FN_126 (a1 e0)) (sparseref01_trim_ok z t a) ?_
 rintro _ w ⟨g, rfl, a⟩
 refine ⟨_, rfl, ?_⟩
 refine Dn [] [3, 4] [5] (Rn (yS rfl (yFb FL_98_1 e0) (yS rfl (lb_ f.v O_96 e0 a R2) QSn)) ?_)
 refine Lc1 rfl ?_
 refine Lk wn (yCall FN_126 (a1 e0)) (sparseref01_trim_ok A u a) ?_
 rintro _ w ⟨h, rfl, a⟩
 refine ⟨_, rfl, ?_⟩
 refine Dn [] [] [6] (Rn QSn ?_)
 refine Lc1 rfl ?_
 refine Ly wn (a_ g.v e0) (Dn [] [] [7] (Rn QSn ?_))
 refine Lc1 rfl ?_
 refine Ly wn (a_ h.v e0) (Dz [] [] (Rn QSn (y _ _ (seqQ fun a4 B C => sR fun _ D => yY (yFb FL_98_0 e0) (yY (lb_ (.bool c) O_4 e0 a R4) (yY (yFb FL_98_0 e0) (yY (lb_ (.bool d) O_4 e0 a R3) (yY (yeqb (by kernel_rfl) e0 e0) (wK D (cB e0 b (fun E b => ?_) fun E b => ?_))))))))))
 ·refine sQ fun _ F => bE b fun a5 G b => bE b fun n H b => dR [0, 1, 0, 0, 12, 31, 63] [4, 5, 6] 3 folM ?_
  replace a := a.drew
  refine Dn [0, 1, 2, 3] [] [4] (yR rfl (yFb FL_98_0 e0) (yR rfl (lb_ (.bool c) O_4 e0 a R4) (yR rfl (m_ g.v e0) (yR rfl (m_ h.v e0) (Rn QSn ?_)))))
  refine Lc1 rfl ?_
  replace a := ((a.k11).fz).fz
  refine Lk wn (yCall FN_136 (a2 e0 e0)) (sparseref01_addMag_ok G F1 F0 a) ?_
  rintro _ w ⟨a6, rfl, a⟩
  refine ⟨_, rfl, ?_⟩
  refine Dn [] [0, 1] [5] (Rn (yS rfl (yFb FL_98_0 e0) (yS rfl (lb_ (.bool c) O_4 e0 a R3) QSn)) ?_)
  refine Lc1 rfl ?_
  replace a := a.fz
  refine Lk wn (yCall FN_110 (a2 e0 e0)) (sparseref01_make1_ok H F0 a) ?_
  rintro _ w ⟨o, rfl, a⟩
  refine ⟨_, rfl, ?_⟩
  refine Dn [] [] [6] (Rn QSn ?_)
  refine Lc1 rfl ?_
  replace a := a.k11
  refine LT wn (r_stbn (vals' := [.bool n.1, o.v]) (us := [.bool n.1, o.v]) a ST_98 e0 e0 rfl rfl (one_of rfl) rfl) fun w a => Dz [] [] (Rn QSn (F _ _ (wp_ret (C _ _ _ rfl ?_))))
  cases b
  exact j _ _ _ (fin1r Tryz.results129 (rcs2 rfl rfl a R0 ST_98 rfl) ⟨_, rfl, ((a.k2q).facts (allT (allT (allT allI))))⟩)
 ·refine wp_skip (B _ _ (seqQ fun a7 I J => sR fun _ K => Ym g.v e0 (Ym h.v e0 (bE b fun a8 L b => ?_))))
  replace a := ((a.k11).fz).fz
  refine yC (yCall FN_137 (a2 e0 e0)) (sparseref01_cmpMag_ok L F1 F0 a) ?_
  rintro _ w ⟨rfl, a⟩
  refine ⟨_, rfl, ?_⟩
  refine yY (ygeq e0 rfl) (wK K ?_)
  refine cIf e0 b (fun N b => ?_) fun N b => ?_
  ·refine sQ fun _ O => bE b fun a9 R b => bE b fun p S b => dR [0, 1, 0, 0, 12, 31, 63] [4, 5, 6] 3 folM ?_
   replace a := a.drew
   refine Dn [0, 1, 2, 3] [] [4] (yR rfl (yFb FL_98_0 e0) (yR rfl (lb_ (.bool c) O_4 e0 a R2) (yR rfl (m_ g.v e0) (yR rfl (m_ h.v e0) (Rn QSn ?_)))))
   refine Lc1 rfl ?_
   refine Lk wn (yCall FN_138 (a2 e0 e0)) (sparseref01_subMag_ok R F1 F0 a) ?_
   rintro _ w ⟨b0, rfl, a⟩
   refine ⟨_, rfl, ?_⟩
   refine Dn [] [0, 1] [5] (Rn (yS rfl (yFb FL_98_0 e0) (yS rfl (lb_ (.bool c) O_4 e0 a R3) QSn)) ?_)
   refine Lc1 rfl ?_
   replace a := a.fz
   refine Lk wn (yCall FN_110 (a2 e0 e0)) (sparseref01_make1_ok S F0 a) ?_
   rintro _ w ⟨q, rfl, a⟩
   refine ⟨_, rfl, ?_⟩
   refine Dn [] [] [6] (Rn QSn ?_)
   refine Lc1 rfl ?_
   replace a := a.k11
   refine LT wn (r_stbn (vals' := [.bool p.1, q.v]) (us := [.bool p.1, q.v]) a ST_98 e0 e0 rfl rfl (one_of rfl) rfl) fun w a => Dz [] [] (Rn QSn (O _ _ (wp_ret (J _ _ _ rfl ?_))))
   cases b
   exact j _ _ _ (fin1r Tryz.results129 (rcs2 rfl rfl a R0 ST_98 rfl) ⟨_, rfl, ((a.k2q).facts (allT (allT (allT allI))))⟩)
  ·refine wp_skip (I _ _ (sQ fun _ T => bE b fun b1 U b => bE b fun r V b => dR [0, 1, 0, 0, 12, 31, 63] [4, 5, 6] 3 folM ?_))
   replace a := a.drew
   refine Dn [0, 1, 2, 3] [] [4] (yR rfl (yFb FL_98_0 e0) (yR rfl (lb_ (.bool d) O_4 e0 a R1) (yR rfl (m_ h.v e0) (yR rfl (m_ g.v e0) (Rn QSn ?_)))))
   refine Lc1 rfl ?_
   refine Lk wn (yCall FN_138 (a2 e0 e0)) (sparseref01_subMag_ok U F0 F1 a) ?_
   rintro _ w ⟨b2, rfl, a⟩
   refine ⟨_, rfl, ?_⟩
   refine Dn [] [0, 1] [5] (Rn (yS rfl (yFb FL_98_0 e0) (yS rfl (lb_ (.bool d) O_4 e0 a R2) QSn)) ?_)
   refine Lc1 rfl ?_
   replace a := a.fz
   refine Lk wn (yCall FN_110 (a2 e0 e0)) (sparseref01_make1_ok V F0 a) ?_
   rintro _ w ⟨s, rfl, a⟩
   refine ⟨_, rfl, ?_⟩
   refine Dn [] [] [6] (Rn QSn ?_)
   refine Lc1 rfl ?_
   replace a := a.k11
   refine LT wn (r_stbn (vals' := [.bool r.1, s.v]) (us := [.bool r.1, s.v]) a ST_98 e0 e0 rfl rfl (one_of rfl) rfl) fun w a => Dz [] [] (Rn QSn (T _ _ (wp_ret ?_)))
   cases b
   exact j _ _ _ (fin1r Tryz.results129 (rcs2 rfl rfl a R0 ST_98 rfl) ⟨_, rfl, ((a.k2q).facts (allT (allT (allT allI))))⟩)
theorem sparseref01_Sub_ok {b : Bool} {h : LI} {f : Bool} {i : LI} {c g : Hdr} {out : Bool × LI} (d : sparseref01_Sub b h f i = some out) (m : imm (rI .u32) c.v h ∈ ros) (n : imm (rI .u32) g.v i ∈ ros) (a : St w0 ros rs w) :
  Calls Tryz.prog 132 #[.agg #[.bool b, c.v], .agg #[.bool f, g.v]] w (fun e w => ∃ (j : Hdr), e = .returned (.agg #[.bool out.1, j.v]) ∧ St w0 ros (row 133 (rI .u32) j.v out.2 :: rs) w) := by
 refine enterQ Tryz.func132 rfl Tryz.ntmps132 rfl fun Q o => sR fun _ p => yBb (r_box (vals := [.bool b, c.v]) a e0 rfl) fun t w a => yBb (r_box (vals := [.bool f, g.v]) a e0 rfl) fun u w a => yBb (rAl a ZT_98) fun x w a => wK p (sQ fun _ q => bE d fun y r d => bE d fun k s d => ?_)
 refine dR [0, 0, 2, 7, 15] [2, 3, 4] 3 folM ?_
 replace a := a.drew
 refine Dn [0, 1] [] [2] (yR rfl (lbs_ [.bool b, c.v] ST_98 e0 a R2) (yR rfl (lbs_ [.bool f, g.v] ST_98 e0 a R1) (Rn QSn ?_)))
 refine Lc1 rfl ?_
 refine Lk wn (yCall FN_139 (a1 e0)) (sparseref01_Neg_ok r n a) ?_
 rintro _ w ⟨z, rfl, a⟩
 refine ⟨_, rfl, ?_⟩
 refine Dn [] [0] [3] (Rn (yS rfl (lbs_ [.bool b, c.v] ST_98 e0 a R3) QSn) ?_)
 refine Lc1 rfl ?_
 replace a := a.fz
 refine Lk wn (yCall FN_129 (a2 e0 e0)) (sparseref01_Add_ok s (mtF m) F0 a) ?_
 rintro _ w ⟨l, rfl, a⟩
 refine ⟨_, rfl, ?_⟩
 refine Dn [] [] [4] (Rn QSn ?_)
 refine Lc1 rfl ?_
 replace a := a.k11
 refine LT wn (r_stbn (vals' := [.bool k.1, l.v]) (us := [.bool k.1, l.v]) a ST_98 e0 e0 rfl rfl (one_of rfl) rfl) fun w a => Dz [] [] (Rn QSn (q _ _ (wp_ret ?_)))
 cases d
 exact o _ _ _ (fin1r Tryz.results132 (rcs2 rfl rfl a R0 ST_98 rfl) ⟨_, rfl, ((a.k2q).facts (allT allI))⟩)
theorem sparseref01_Shift_ok {n : Bool} {u : LI} {l : Int} {o : Hdr} {out : Bool × LI} (b : sparseref01_Shift n u l = some out) (H : imm (rI .u32) o.v u ∈ ros) (a : St w0 ros rs w) :
  Calls Tryz.prog 107 #[.agg #[.bool n, o.v], iV l] w (fun e w => ∃ (x : Hdr), e = .returned (.agg #[.bool out.1, x.v]) ∧ St w0 ros (row 133 (rI .u32) x.v out.2 :: rs) w) := by
 refine enterQ Tryz.func107 rfl Tryz.ntmps107 rfl fun Q y => sR fun _ I => yBb (r_box (vals := [.bool n, o.v]) a e0 rfl) fun b1 w a => yBb (rAl a ZT_98) fun p w a => wK I (sR fun _ J => yY (lbs_ [.bool n, o.v] ST_98 e0 a R1) (bE b fun c K b => yC (yCall FN_103 (a1 e0)) (sparseref01_Norm_ok K H a) ?_))
 rintro _ w ⟨q, rfl, a⟩
 refine ⟨_, rfl, ?_⟩
 refine yT (r_stbn (vals' := [.bool c.1, q.v]) (us := [.bool c.1, q.v]) (a.k17) ST_98 e0 e0 rfl rfl (one_of rfl) rfl) fun w a => wK J (seqQ fun b2 L N => sR fun _ O => Ym (iV l) e0 (yY (ygeq e0 rfl) (wK O ?_)))
 refine cIf e0 b (fun R b => ?_) fun R b => ?_
 ·refine sQ fun _ S => bE b fun b3 T b => bE b fun z U b => dR [0, 1, 0, 4, 0, 28, 63, 127] [5, 6, 7] 3 folM ?_
  replace a := a.drew
  refine Dn [0, 1, 2, 3, 4] [] [5] (yR rfl (yFb FL_98_0 e0) (yR rfl (lb_ (.bool c.1) O_4 e0 a R0) (yR rfl (yFb FL_98_1 e0) (yR rfl (lb_ q.v O_96 e0 a R0) (yR rfl (m_ (iV l) e0) (Rn QSn ?_))))))
  refine Lc1 rfl ?_
  replace a := (a.k11).fz
  refine Lk wn (yCall FN_130 (a2 e0 e0)) (sparseref01_shl_ok T F0 a) ?_
  rintro _ w ⟨b4, rfl, a⟩
  refine ⟨_, rfl, ?_⟩
  refine Dn [] [0, 1] [6] (Rn (yS rfl (yFb FL_98_0 e0) (yS rfl (lb_ (.bool c.1) O_4 e0 a R1) QSn)) ?_)
  refine Lc1 rfl ?_
  replace a := a.fz
  refine Lk wn (yCall FN_110 (a2 e0 e0)) (sparseref01_make1_ok U F0 a) ?_
  rintro _ w ⟨A, rfl, a⟩
  refine ⟨_, rfl, ?_⟩
  refine Dn [] [] [7] (Rn QSn ?_)
  refine Lc1 rfl ?_
  replace a := a.k17
  refine LT wn (r_stbn (vals' := [.bool z.1, A.v]) (us := [.bool z.1, A.v]) a ST_98 e0 e0 rfl rfl (one_of rfl) rfl) fun w a => Dz [] [] (Rn QSn (S _ _ (wp_ret (N _ _ _ rfl ?_))))
  cases b
  exact y _ _ _ (fin1r Tryz.results107 (rcs2 rfl rfl a R0 ST_98 rfl) ⟨_, rfl, ((a.k2p).facts (allT (allT allI)))⟩)
 ·refine wp_skip (L _ _ (sR fun _ V => yY (yFb FL_98_1 e0) (yY (lb_ q.v O_96 e0 a R0) (Ym (iV l) e0 (yY (yneg e0) (bE b fun g W b => ?_))))))
  replace a := (a.k11).fz
  refine yC (yCall FN_131 (a2 e0 e0)) (sparseref01_shr_ok W F0 a) ?_
  rintro _ w ⟨r, rfl, a⟩
  refine ⟨_, rfl, ?_⟩
  refine Ym (.tuple #[r.v, .bool g.2]) e0 (yY (x_ r.v e0) (yY (x_ (.bool g.2) e0) (Ya r.v e0 (Ya (.bool g.2) e0 (wK V (sR fun _ X => yY (yFb FL_98_0 e0) (yY (lb_ (.bool c.1) O_4 e0 a R1) (Ym r.v e0 (bE b fun h Z b => ?_)))))))))
  replace a := a.fz
  refine yC (yCall FN_110 (a2 e0 e0)) (sparseref01_make1_ok Z F0 a) ?_
  rintro _ w ⟨i, rfl, a⟩
  refine ⟨_, rfl, ?_⟩
  refine yBb (rAl a ZT_98) fun s w a => yT (r_stbn (vals' := [.bool h.1, i.v]) (us := [.bool h.1, i.v]) a ST_98 e0 e0 rfl rfl (one_of rfl) rfl) fun w a => wK X (sQ fun a0 a3 => sR fun _ a4 => yY (yFb FL_98_0 e0) (yY (lb_ (.bool c.1) O_4 e0 a R2) (Ym (.bool c.1) e0 ?_)))
  refine joinW 2 (fun f w => f 4 = (pB p) ∧ f 7 = (pB s) ∧ f 35 = .bool (c.1 && g.2) ∧ St w0 ros (box p 98 [.bool false, hnil.v] :: row 133 (rI .u32) i.v h.2 :: box s 98 [.bool h.1, i.v] :: rs) w) (fun B => ?_) ?_
  ·rcases Bool.eq_false_or_eq_true c.1 with d | d
   ·exact yG d (m_ (.bool g.2) e0) (yY (pt_ (.bool g.2) e0 d e0) (B _ _ ⟨rfl, rfl, (congrArg Value.bool (andT d)), ((a.k2r).facts (allT (allT allI)))⟩))
   ·exact gN d (yY (pf_ (.bool false) e0 d rfl) (B _ _ ⟨rfl, rfl, (congrArg Value.bool (andF d)), ((a.k2r).facts (allT (allT allI)))⟩))
  rintro f w ⟨C, m, a5, a⟩
  refine wK a4 ?_
  have D : ∀ (j : Bool) (t : LI) (k : Hdr) (f : FV) w, f 4 = (pB p) → f 7 = (pB s) → St w0 ros (box p 98 [.bool false, hnil.v] :: row 133 (rI .u32) k.v t :: box s 98 [.bool j, k.v] :: rs) w → sparseref01_Shift_j2 j t = some out → a0 .normal (fr 40 f) w := by
   intro j t k f w E a6 a b
   refine a3 _ _ (sR fun _ a7 => yY (lbs_ [.bool j, k.v] ST_98 (eh a6) a R2) (yT (r_stbn (vals' := [.bool j, k.v]) (us := [.bool j, k.v]) a ST_98 (eh E) e0 rfl rfl (one_of rfl) rfl) fun w a => wK a7 (wp_ret ?_)))
   cases b
   exact y _ _ _ (fin1r Tryz.results107 (rcs2 rfl E a R0 ST_98 rfl) ⟨_, rfl, (a.k2p)⟩)
  refine cB (eh a5) b (fun a8 b => ?_) fun a8 b => ?_
  ·refine bE b fun b7 a9 b => bE b fun F b0 b => dR [0, 0, 3, 7] [1, 2, 3] 3 folM ?_
   replace a := a.drew
   refine Dn [0] [] [1] (yR rfl (lbs_ [.bool h.1, i.v] ST_98 (eh m) a R2) (Rn QSn ?_))
   refine Lc1 rfl ?_
   refine Lk wn (yCall FN_85 (a1 rfl)) (sparseref01_FromInt_ok a9 a) ?_
   rintro _ w ⟨b8, rfl, a⟩
   refine ⟨_, rfl, ?_⟩
   refine Dn [] [0] [2] (Rn (yS rfl (lbs_ [.bool h.1, i.v] ST_98 (eh m) a R3) QSn) ?_)
   refine Lc1 rfl ?_
   replace a := ((a.k17).fz).fz
   refine Lk wn (yCall FN_132 (a2 e0 e0)) (sparseref01_Sub_ok b0 F1 F0 a) ?_
   rintro _ w ⟨G, rfl, a⟩
   refine ⟨_, rfl, ?_⟩
   refine Dn [] [] [3] (Rn QSn ?_)
   refine Lc1 rfl ?_
   replace a := a.k17
   exact LT wn (r_stbn (vals' := [.bool F.1, G.v]) (us := [.bool F.1, G.v]) a ST_98 (eh m) e0 rfl rfl (one_of rfl) rfl) fun w a => Dz [] [] (Rn QSn (D _ _ _ _ _ C m ((a.k26).facts (allT (allT allI))) b))
  ·exact wp_skip (D _ _ _ _ _ C m a b)
theorem sparseref02_down_ok {p : Bool} {x : LI} {y : Int} {q : Hdr} {out : Bool × LI} (g : sparseref02_down p x y = some out) (G : imm (rI .u32) q.v x ∈ ros) (b : St w0 ros rs w) :
  Calls Tryz.prog 112 #[.agg #[.bool p, q.v], iV y] w (fun e w => ∃ (z : Hdr), e = .returned (.agg #[.bool out.1, z.v]) ∧ St w0 ros (row 133 (rI .u32) z.v out.2 :: rs) w) := by
 refine enterQ Tryz.func112 rfl Tryz.ntmps112 rfl fun Q H => sR fun _ I => yBb (r_box (vals := [.bool p, q.v]) b e0 rfl) fun h w b => yBb (rAl b ZT_98) fun i w b => wK I (sQ fun _ J => blockQ fun K L => bE g fun N O g => ?_)
 have R : ∀ (j : Int) (k : Bool) (r : LI) (l : Hdr) (f : FV) w, f 1 = iV j → f 2 = (pB h) → f 4 = (pB i) → St w0 (imm (rI .u32) l.v r :: ros) (box h 98 [.bool k, l.v] :: box i 98 [.bool false, hnil.v] :: rs) w → (j, k, r) = N → K (.exit 0) (fr 15 f) w := by
  intro j k r l f w S T A b ho
  subst ho
  refine L _ _ _ (J _ _ (sR fun _ U => yY (lbs_ [.bool k, l.v] ST_98 (eh T) b R0) (Ym (iV j) (eh S) (yY (yneg e0) (bE g fun B V g => yC (yCall FN_107 (a2 e0 e0)) (sparseref01_Shift_ok V F0 b) ?_)))))
  rintro _ w ⟨C, rfl, b⟩
  refine ⟨_, rfl, ?_⟩
  refine yT (r_stbn (vals' := [.bool B.1, C.v]) (us := [.bool B.1, C.v]) (b.k17) ST_98 (eh A) e0 rfl rfl (one_of rfl) rfl) fun w b => wK U (wp_ret ?_)
  cases g
  exact H _ _ _ (fin1r Tryz.results112 (rcs2 rfl A b R0 ST_98 rfl) ⟨_, rfl, ((b.k2p).facts (allT allI))⟩)
 refine loopQ (fun s a w => ∃ (d : Int) (m : Bool) (t : LI) (f : FV) (n : Hdr), (d, m, t) = s ∧ a = fr 15 f ∧ f 1 = iV d ∧ f 2 = (pB h) ∧ f 4 = (pB i) ∧ St w0 (imm (rI .u32) n.v t :: ros) (box h 98 [.bool m, n.v] :: box i 98 [.bool false, hnil.v] :: rs) w) O ⟨_, _, _, _, _, rfl, rfl, rfl, rfl, rfl, ((b.k11).facts (allC G allI))⟩ ?_
 rintro _ _ w a8 ⟨d, m, t, f, n, rfl, rfl, u, o, D, b⟩ c W a9 X Z
 refine seqQ fun b0 a0 a1 => sR fun _ a3 => Ym (iV d) (eh u) (yY (ygtr e0 rfl) (wK a3 ?_))
 refine cIf e0 c (fun a4 c => ?_) fun a4 c => ?_
 ·refine wp_skip (a0 _ _ (blockQ fun _ a5 => sR fun _ a6 => yY (lbs_ [.bool m, n.v] ST_98 (eh o) b R0) (bE c fun E a7 c => yC (yCall FN_107 (a2 e0 rfl)) (sparseref01_Shift_ok a7 F0 b) ?_)))
  rintro _ w ⟨F, rfl, b⟩
  refine ⟨_, rfl, ?_⟩
  refine yT (r_stbn (vals' := [.bool E.1, F.v]) (us := [.bool E.1, F.v]) (b.k11) ST_98 (eh o) e0 rfl rfl (one_of rfl) rfl) fun w b => wK a6 (wR (Ym (iV d) (eh u) (yY (ysub e0 rfl) (Ya (iV (ws .i64 d 1048576)) e0 (wN (a5 _ _ _ ?_))))))
  replace b := (b.k11).fz
  cases c
  exact X _ _ _ rfl ⟨_, _, _, _, _, rfl, rfl, rfl, o, D, (b.facts (allC F0 (allT (allT allI))))⟩
 ·refine wp_exit (a1 _ _ _ rfl ?_)
  cases c
  exact Z _ _ _ _ rfl rfl (R _ _ _ _ _ _ u o D b (W _ rfl))
theorem math_bits_Len32_ok {d out : Int} (a : math_bits_Len32 d = some out) (b : St w0 ros rs w) :
  Calls Tryz.prog 97 #[.int .u32 d] w (fun e w => e = .returned (iV out) ∧ St w0 ros rs w) := by
 refine enterQ Tryz.func97 rfl Tryz.ntmps97 rfl fun Q n => sR fun _ o => Ya (iV 0) rfl (wK o (sQ fun p q => sR fun _ r => Ym (.int .u32 d) e0 (yY (ygeq e0 rfl) (wK r ?_))))
 have k : ∀ (c g : Int) (f : FV) w, f 0 = .int .u32 c → f 2 = iV g → St w0 ros rs w → math_bits_Len32_j1 c g = some out → p .normal (fr 19 f) w := by
  intro c g f w j l b a
  refine q _ _ (sQ fun s t => sR fun _ u => Ym (.int .u32 c) (eh j) (yY (ygeq e0 rfl) (wK u ?_)))
  have m : ∀ (i h : Int) (f : FV) w, f 0 = .int .u32 i → f 2 = iV h → St w0 ros rs w → math_bits_Len32_j2 i h = some out → s .normal (fr 19 f) w := by
   intro i h f w v x b a
   refine t _ _ (sR fun _ y => Ym (iV h) (eh x) (Ym (.int .u32 i) (eh v) (yY (ycv (k' := .u8) (by kernel_rfl) (by kernel_rfl) e0) (bE a fun z A a => yY (yixs (by kernel_rfl) rfl e0 (by kernel_rfl) A) (yY (ycv (k' := .i64) (by kernel_rfl) (by kernel_rfl) e0) (yY (yadd e0 e0) (Ya (iV (wa .i64 h (wc .i64 z))) e0 (wK y (wp_ret ?_)))))))))
   cases a
   exact n _ _ _ (fin1r Tryz.results97 ⟨rfl, rfl⟩ ⟨rfl, b⟩)
  refine cIf e0 a (fun B a => ?_) fun B a => ?_
  ·exact sR fun _ C => Ym (.int .u32 c) (eh j) (yY (yshrc e0 rfl) (Ya (.int .u32 (wsrc .u32 c 8)) e0 (wK C (wR (Ym (iV g) (eh l) (yY (yadd e0 rfl) (Ya (iV (wa .i64 g 8)) e0 (wN (m _ _ _ _ rfl rfl b a)))))))))
  ·exact wp_skip (m _ _ _ _ j l b a)
 refine cIf e0 a (fun D a => ?_) fun D a => ?_
 ·exact sR fun _ E => Ym (.int .u32 d) e0 (yY (yshrc e0 rfl) (Ya (.int .u32 (wsrc .u32 d 16)) e0 (wK E (wR (Ya (iV 16) rfl (wN (k _ _ _ _ rfl rfl b a)))))))
 ·exact wp_skip (k _ _ _ _ rfl rfl b a)
end Go.Proofs.YtgnfkbaghjmgiaaGreatDoor
