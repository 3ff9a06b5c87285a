/- Walks: each function computes its model, printed. -/
import Derived.Test.YtpfmbaidflhamaaGreatDoorW4
namespace Go.Proofs.YtpfmbaidflhamaaGreatDoor
open Go Sx M
set_option maxRecDepth 100000
set_option maxHeartbeats 40000000
set_option linter.unusedVariables false
attribute [local irreducible] wpList Code.wp Calls DR QR QS LA LS St
variable {w0 : World} {ros : List Fact} {rs : List Res} {w : World}
theorem sparseref01_take_ok {p h : LI} {m q : Int} {d r : Hdr} {out : LI × Bool} (c : sparseref01_take p h m q = some out) (D : imm (rI .u32) r.v h ∈ ros) (b : St w0 ros (row 103 (rI .u32) d.v p :: rs) w) :
  Calls Tryz.prog 159 #[d.v, r.v, iV m, .int .u64 q] w (fun e w => e = .returned (.bool out.2) ∧ St w0 ros (row 103 (rI .u32) d.v out.1 :: rs) w) := by
 refine enterQ Tryz.func159 rfl Tryz.ntmps159 rfl fun Q R => sR fun _ a8 => Ya (.bool false) rfl (wK a8 (sR fun _ a9 => Ym r.v e0 (yY (yLen SL_29 e0 b (rdI D)) (Ya (iV (h.length : Int)) e0 (wK a9 (sQ fun _ b0 => ?_))))))
 refine wR (Ym (iV (h.length : Int)) e0 (yY (yadd e0 rfl) (bE c fun h0 b1 c => yH (rMk b SL_29 e0 b1) fun i w b => Ya i.v e0 (wK b0 (sR fun _ b2 => Ya (.int .u64 0) rfl (Ya (.int .u64 0) rfl (wN ?_)))))))
 refine b2 _ _ (sQ fun _ b3 => sR fun _ b4 => Ya (iV 0) rfl (wK b4 (blockQ fun b5 b6 => bE c fun b7 b8 c => ?_)))
 have b9 : ∀ (A : LI) (B : Int) (f : FV) w, f 0 = d.v → f 2 = iV m → f 9 = iV (h.length : Int) → f 10 = i.v → f 11 = .int .u64 B → St w0 ros (row 103 (rI .u32) d.v p :: row 103 (rI .u32) i.v A :: rs) w → (A, B) = b7 → b5 (.exit 0) (fr 75 f) w := by
  intro A B f w c0 c1 c2 c3 c4 b ho
  subst ho
  refine b6 _ _ _ (b3 _ _ (seqQ fun h1 c5 c6 => sR fun _ c7 => Ym (.int .u64 B) (eh c4) (yY (yneq e0 rfl) (wK c7 ?_))))
  rcases iteS c with ⟨E, c⟩ | ⟨E, c⟩
  ·refine condF e0 (nF (dT E)) (wp_skip (c5 _ _ (sQ fun _ c8 => sR fun _ c9 => Ya (iV 0) rfl (wK c9 (blockQ fun d0 d1 => bE c fun d2 d3 c => ?_)))))
   have d4 : ∀ (F : LI) (f : FV) w, St w0 ros (row 103 (rI .u32) d.v F :: rs) w → F = d2 → d0 (.exit 2) (fr 75 f) w := by
    intro F f w b ho
    subst ho
    refine d1 _ _ _ (c8 _ _ (sR fun _ d5 => Ya (.bool true) rfl (wK d5 (wp_ret ?_))))
    cases c
    exact R _ _ _ (fin1r Tryz.results159 ⟨rfl, rfl⟩ ⟨rfl, b⟩)
   refine loopQ (fun s a w => ∃ (G : LI) (o : Int) (f : FV), (G, o) = s ∧ a = fr 75 f ∧ f 0 = d.v ∧ f 2 = iV m ∧ f 9 = iV (h.length : Int) ∧ f 10 = i.v ∧ f 15 = iV o ∧ St w0 ros (row 103 (rI .u32) d.v G :: row 103 (rI .u32) i.v A :: rs) w) d3 ⟨_, _, _, rfl, rfl, c0, c1, c2, c3, rfl, b⟩ ?_
   rintro _ _ w h3 ⟨G, o, f, rfl, rfl, S, T, U, V, C, b⟩ n d6 h5 d7 d8
   refine seqQ fun h6 d9 e1 => sR fun _ e2 => Ym (iV o) (eh C) (Ym (iV (h.length : Int)) (eh U) (yY (yleq e0 e0) (wK e2 ?_)))
   refine cIf e0 n (fun e3 n => ?_) fun e3 n => ?_
   ·refine wp_skip (d9 _ _ (sQ fun _ e4 => blockQ fun _ e5 => wR (Ym d.v (eh S) (Ym (iV o) (eh C) (Ym (iV m) (eh T) (yY (yadd e0 e0) (Ym i.v (eh V) (Ym (iV o) (eh C) (bE n fun e6 W n => yY (yIa SL_29 e0 e0 b rO1 W) (yY (yI O_103 e0 b rO1 W) ?_))))))))))
    refine bE n fun h8 X n => yY (yIs SL_29 e0 e0 b rO0 X) (yT (r_sti (cs := [.int .u32 e6]) b O_103 rfl e0 e0 rfl mkI X) fun w b => wN (e5 _ _ _ (e4 _ _ (wR (Ym (iV o) (eh C) (yY (yadd e0 rfl) (Ya (iV (wa .i64 o 1)) e0 (wN ?_))))))))
    cases n
    exact d7 _ _ _ rfl ⟨_, _, _, rfl, rfl, S, T, U, V, rfl, b⟩
   ·refine wp_exit (e1 _ _ _ rfl ?_)
    cases n
    exact d8 _ _ _ _ rfl rfl (d4 _ _ _ (b.k18) (d6 _ rfl))
  ·refine condT e0 (nT (dF E)) (sR fun _ e7 => Ya (.bool false) rfl (wK e7 (wp_ret (c6 _ _ _ rfl ?_))))
   cases c
   exact R _ _ _ (fin1r Tryz.results159 ⟨rfl, rfl⟩ ⟨rfl, (b.k18)⟩)
 refine loopQ (fun s a w => ∃ (t : LI) (j u g : Int) (f : FV), (t, j, u, g) = s ∧ a = fr 75 f ∧ f 0 = d.v ∧ f 1 = r.v ∧ f 2 = iV m ∧ f 3 = .int .u64 q ∧ f 9 = iV (h.length : Int) ∧ f 10 = i.v ∧ f 11 = .int .u64 j ∧ f 12 = .int .u64 u ∧ f 13 = iV g ∧ St w0 ros (row 103 (rI .u32) d.v p :: row 103 (rI .u32) i.v t :: rs) w) b8 ⟨_, _, _, _, _, rfl, rfl, rfl, rfl, rfl, rfl, rfl, rfl, rfl, rfl, rfl, (b.k17)⟩ ?_
 rintro _ _ w e8 ⟨t, j, u, g, f, rfl, rfl, H, I, J, K, x, L, N, Z, y, b⟩ k e9 h9 f0 f1
 refine seqQ fun i0 f2 f3 => sR fun _ f4 => Ym (iV g) (eh y) (Ym (iV (h.length : Int)) (eh x) (yY (yleq e0 e0) (wK f4 ?_)))
 refine cIf e0 k (fun f5 k => ?_) fun f5 k => ?_
 ·refine wp_skip (f2 _ _ (sQ fun _ f6 => blockQ fun _ f7 => sQ fun f8 f9 => sR fun _ g0 => Ym (iV g) (eh y) (Ym (iV (h.length : Int)) (eh x) (yY (ylss e0 e0) (wK g0 ?_)))))
  have a0 : ∀ (l : Int) (f : FV) w, f 0 = d.v → f 1 = r.v → f 2 = iV m → f 3 = .int .u64 q → f 9 = iV (h.length : Int) → f 10 = i.v → f 11 = .int .u64 j → f 12 = .int .u64 l → f 13 = iV g → St w0 ros (row 103 (rI .u32) d.v p :: row 103 (rI .u32) i.v t :: rs) w → sparseref01_take_j5 p g m t j l = some e8 → f8 .normal (fr 75 f) w := by
   intro l f w a1 g1 a2 g2 g3 a3 g4 a4 O b c
   refine f9 _ _ (sR fun _ g5 => Ym d.v (eh a1) (Ym (iV g) (eh O) (Ym (iV m) (eh a2) (yY (yadd e0 e0) (bE c fun z a5 c => yY (yIa SL_29 e0 e0 b rO0 a5) (yY (yI O_103 e0 b rO0 a5) (yY (ycv (k' := .u64) (by kernel_rfl) (by kernel_rfl) e0) (Ym (.int .u64 j) (eh g4) (yY (ysub e0 e0) (Ym (.int .u64 l) (eh a4) ?_))))))))))
   refine yY (yand e0 rfl) (yY (ysub e0 e0) (Ya (.int .u64 (ws .u64 (ws .u64 (wc .u64 z) j) (wand .u64 l 4294967295))) e0 (wK g5 (sR fun _ g6 => Ym (.int .u64 l) (eh a4) (yY (yshrc e0 rfl) (Ya (.int .u64 (wsrc .u64 l 32)) e0 (wK g6 (sR fun _ g7 => ?_))))))))
   refine Ym i.v (eh a3) (Ym (iV g) (eh O) (Ym (.int .u64 (ws .u64 (ws .u64 (wc .u64 z) j) (wand .u64 l 4294967295))) e0 (yY (ycv (k' := .u32) (by kernel_rfl) (by kernel_rfl) e0) (bE c fun i1 a6 c => yY (yIs SL_29 e0 e0 b rO1 a6) (yT (r_sti (cs := [.int .u32 (wc .u32 (ws .u64 (ws .u64 (wc .u64 z) j) (wand .u64 l 4294967295)))]) (b.k17) O_103 rfl e0 e0 rfl mkI a6) fun w b => wK g7 (wR (Ym (.int .u64 (ws .u64 (ws .u64 (wc .u64 z) j) (wand .u64 l 4294967295))) e0 (yY (yshrc e0 rfl) (Ya (.int .u64 (wsrc .u64 (ws .u64 (ws .u64 (wc .u64 z) j) (wand .u64 l 4294967295)) 63)) e0 ?_)))))))))
   refine wN (f7 _ _ _ (f6 _ _ (wR (Ym (iV g) (eh O) (yY (yadd e0 rfl) (Ya (iV (wa .i64 g 1)) e0 (wN ?_)))))))
   cases c
   exact f0 _ _ _ rfl ⟨_, _, _, _, _, rfl, rfl, a1, g1, a2, g2, g3, a3, rfl, rfl, rfl, (b.k17)⟩
  refine cIf e0 k (fun g8 k => ?_) fun g8 k => ?_
  ·exact wR (Ym (.int .u64 u) (eh Z) (Ym (.int .u64 q) (eh K) (Ym r.v (eh I) (Ym (iV g) (eh y) (bE k fun g9 a7 k => yY (yIa SL_29 e0 e0 b (rdI D) a7) (yY (yI O_103 e0 b (rdI D) a7) (yY (ycv (k' := .u64) (by kernel_rfl) (by kernel_rfl) e0) (yY (ymul e0 e0) (yY (yadd e0 e0) (Ya (.int .u64 (wa .u64 u (wm .u64 q (wc .u64 g9)))) e0 (wN (a0 _ _ _ H I J K x L N rfl y b k))))))))))))
  ·exact wp_skip (a0 _ _ _ H I J K x L N Z y b k)
 ·refine wp_exit (f3 _ _ _ rfl ?_)
  cases k
  exact f1 _ _ _ _ rfl rfl (b9 _ _ _ _ H J x L N b (e9 _ rfl))
theorem sparseref01_shr_ok {D : LI} {c : Int} {i : Hdr} {out : LI × Bool} (g : sparseref01_shr D c = some out) (p : imm (rI .u32) i.v D ∈ ros) (b : St w0 ros rs w) :
  Calls Tryz.prog 160 #[i.v, iV c] w (fun e w => ∃ (a3 : Hdr), e = .returned (.tuple #[a3.v, .bool out.2]) ∧ St w0 ros (row 103 (rI .u32) a3.v out.1 :: rs) w) := by
 refine enterQ Tryz.func160 rfl Tryz.ntmps160 rfl fun Q c9 => sR fun _ d0 => Ya hnil.v rfl (Ya (.bool false) rfl (wK d0 (sR fun _ d1 => Ya (.bool false) rfl (wK d1 (sQ fun _ d2 => sQ fun _ d3 => ?_)))))
 refine wR (Ya (iV 0) rfl (wK d3 (blockQ fun d4 d5 => bE g fun d6 d7 g => ?_)))
 have d8 : ∀ (K : Bool) (f : FV) w, f 0 = i.v → f 1 = iV c → f 6 = .bool K → St w0 ros rs w → K = d6 → d4 (.exit 0) (fr 85 f) w := by
  intro K f w d9 L e1 b ho
  subst ho
  refine d5 _ _ _ (d2 _ _ (sR fun _ e2 => Ya hnil.v rfl (wK e2 (sR fun _ e3 => Ym (iV c) (eh L) (yY (yremc e0 rfl (by decide)) (Ya (iV (wrc c 32)) e0 (wK e3 ?_)))))))
  refine sQ fun _ e4 => sR fun _ e5 => Ym (iV c) (eh L) (yY (yquoc e0 rfl (by decide)) (Ya (iV (wqc .i64 c 32)) e0 (wK e5 (blockQ fun e6 e7 => bE g fun e8 e9 g => ?_))))
  have f0 : ∀ (E : Bool) (N : LI) (F : Hdr) (f : FV) w, f 6 = .bool E → f 8 = F.v → St w0 ros (row 103 (rI .u32) F.v N :: rs) w → (E, N) = e8 → e6 (.exit 2) (fr 85 f) w := by
   intro E N F f w f1 f2 b ho
   subst ho
   refine e7 _ _ _ (e4 _ _ (sR fun _ f3 => Ym F.v (eh f2) (Ym (.bool E) (eh f1) (Ya F.v e0 (Ya (.bool E) e0 (wK f3 (wp_ret ?_)))))))
   cases g
   exact c9 _ _ _ (fin2r Tryz.results160 ⟨rfl, rfl⟩ ⟨rfl, rfl⟩ ⟨_, rfl, b⟩)
  replace b := b.rowNh 103 (rI .u32)
  refine loopQ (fun s a w => ∃ (z : Bool) (t : LI) (h : Int) (f : FV) (q : Hdr), (z, t, h) = s ∧ a = fr 85 f ∧ f 0 = i.v ∧ f 1 = iV c ∧ f 6 = .bool z ∧ f 8 = q.v ∧ f 9 = iV (wrc c 32) ∧ f 10 = iV h ∧ St w0 ros (row 103 (rI .u32) q.v t :: rs) w) e9 ⟨_, _, _, _, _, rfl, rfl, d9, L, e1, rfl, rfl, rfl, b⟩ ?_
  rintro _ _ w a4 ⟨z, t, h, f, q, rfl, rfl, A, a5, O, R, a6, B, b⟩ k f4 k7 f5 f6
  refine seqQ fun k8 f7 f8 => sR fun _ f9 => Ym (iV h) (eh B) (Ym i.v (eh A) (yY (yLen SL_29 e0 b (rdI p)) (yY (ylss e0 e0) (wK f9 ?_))))
  refine cIf e0 k (fun g0 k => ?_) fun g0 k => ?_
  ·refine wp_skip (f7 _ _ (sQ fun _ g1 => blockQ fun _ g2 => sR fun _ g3 => Ym i.v (eh A) (Ym (iV h) (eh B) (bE k fun S a7 k => yY (yIa SL_29 e0 e0 b (rdI p) a7) (yY (yI O_103 e0 b (rdI p) a7) (yY (ycv (k' := .u64) (by kernel_rfl) (by kernel_rfl) e0) (Ya (.int .u64 (wc .u64 S)) e0 (wN ?_))))))))
   refine g3 _ _ (sQ fun g4 g5 => sR fun _ g6 => Ym (iV h) (eh B) (yY (yadd e0 rfl) (Ym i.v (eh A) (yY (yLen SL_29 e0 b (rdI p)) (yY (ylss e0 e0) (wK g6 ?_))))))
   have a8 : ∀ (u : Int) (f : FV) w, f 0 = i.v → f 1 = iV c → f 6 = .bool z → f 8 = q.v → f 9 = iV (wrc c 32) → f 10 = iV h → f 11 = .int .u64 u → St w0 ros (row 103 (rI .u32) q.v t :: rs) w → sparseref01_shr_j16 h c D t z u = some a4 → g4 .normal (fr 85 f) w := by
    intro u f w T H a9 b0 U G b1 b g
    refine g5 _ _ (sQ fun g7 g8 => sQ fun _ g9 => bE g fun V r g => ?_)
    refine joinN (n := 85) (fun f w => f 0 = i.v ∧ f 1 = iV c ∧ f 6 = .bool z ∧ f 8 = q.v ∧ f 9 = iV (wrc c 32) ∧ f 10 = iV h ∧ f 11 = .int .u64 u ∧ f 75 = .bool V ∧ St w0 ros (row 103 (rI .u32) q.v t :: rs) w) (fun b2 => ?_) ?_
    ·rcases iteS r with ⟨d, r⟩ | ⟨d, r⟩
     ·refine bE r fun k9 b3 r => bE r fun l0 h0 r => ?_
      have h1 := someI r
      refine dR [0, 0, 2, 7, 15, 31, 31, 127, 255, 31, 543, 1567, 4095, 8191, 16383] [] 0 folM ?_
      replace b := b.drew
      refine Dz [0, 1, 2, 3, 4, 5, 6, 7, 8, 9, 10, 11, 12, 13, 14] [] (yR rfl (m_ (iV h) (eh G)) (yR rfl (m_ (iV c) (eh H)) (yR rfl (yquoc e0 rfl (by decide)) (yR rfl (yeql e0 e0) (yR rfl (m_ (.bool (decide (h = (wqc .i64 c 32)))) e0) (Ry rfl rfl (wG (dT d)) (m_ i.v (eh T)) (Ry rfl rfl (wG (dT d)) (m_ (iV h) (eh G)) (Ry rfl rfl (wG (dT d)) (yIa SL_29 e0 e0 b (rdI p) b3) (Ry rfl rfl (wG (dT d)) (yI O_103 e0 b (rdI p) b3) (Ry rfl rfl (wG (dT d)) (m_ (iV (wrc c 32)) (eh U)) (Ry rfl rfl (wG (dT d)) (yshl rfl e0 h0) (Ry rfl rfl (wG (dT d)) (ysub e0 rfl) (Ry rfl rfl (wG (dT d)) (yand e0 e0) ?_)))))))))))))
      exact Ry rfl rfl (wG (dT d)) (yneq e0 rfl) (yR rfl (pt_ (.bool V) e0 (dT d) (eqv h1 e0)) (Rn QSn (b2 _ _ ⟨T, H, a9, b0, U, G, b1, rfl, b⟩)))
     ·have h3 := someI r
      refine dR [0, 0, 2, 7, 15, 31, 31, 127, 255, 31, 543, 1567, 4095, 8191, 16383] [] 0 folM ?_
      replace b := b.drew
      refine Dz [0, 1, 2, 3, 4, 5, 6, 7, 8, 9, 10, 11, 12, 13, 14] [] (yR rfl (m_ (iV h) (eh G)) (yR rfl (m_ (iV c) (eh H)) (yR rfl (yquoc e0 rfl (by decide)) (yR rfl (yeql e0 e0) (yR rfl (m_ (.bool (decide (h = (wqc .i64 c 32)))) e0) (Rx rfl rfl (wX (dF d)) (Rx rfl rfl (wX (dF d)) (Rx rfl rfl (wX (dF d)) (Rx rfl rfl (wX (dF d)) (Rx rfl rfl (wX (dF d)) (Rx rfl rfl (wX (dF d)) (Rx rfl rfl (wX (dF d)) (Rx rfl rfl (wX (dF d)) ?_)))))))))))))
      exact Rx rfl rfl (wX (dF d)) (yR rfl (pf_ (.bool V) e0 (dF d) (eqv h3 rfl)) (Rn QSn (b2 _ _ ⟨T, H, a9, b0, U, G, b1, rfl, b⟩)))
    rintro f w ⟨b4, b5, h4, b6, b7, b8, b9, h5, b⟩
    refine g9 _ _ ?_
    have c0 : ∀ (W : Bool) (f : FV) w, f 0 = i.v → f 1 = iV c → f 6 = .bool W → f 8 = q.v → f 9 = iV (wrc c 32) → f 10 = iV h → f 11 = .int .u64 u → St w0 ros (row 103 (rI .u32) q.v t :: rs) w → sparseref01_shr_j20 u c t h W = some a4 → g7 .normal (fr 85 f) w := by
     intro W f w h6 h7 h8 h9 c1 i0 i1 b g
     refine g8 _ _ (wR (Ym q.v (eh h9) (Ym (.int .u64 u) (eh i1) (Ym (iV (wrc c 32)) (eh c1) (bE g fun X i2 g => yY (yshr e0 e0 i2) (yY (ycv (k' := .u32) (by kernel_rfl) (by kernel_rfl) e0) (yH (rLt (n := 1) (l := [wc .u32 X]) b SL_29 [.int .u32 (wc .u32 X)] (bp1 e0) rfl rfl (mks1 (cs := [.int .u32 (wc .u32 X)]) rfl mkI mks0)) fun l1 w b => bE g fun l2 i3 g => yH (rAp (b.k17) SL_29 e0 e0 rO1 i3) fun i4 w b => Ya i4.v e0 ?_)))))))
     refine wN (g2 _ _ _ (g1 _ _ (wR (Ym (iV h) (eh i0) (yY (yadd e0 rfl) (Ya (iV (wa .i64 h 1)) e0 (wN ?_)))))))
     cases g
     exact f5 _ _ _ rfl ⟨_, _, _, _, _, rfl, rfl, h6, h7, h8, rfl, c1, rfl, (b.k18)⟩
    refine cB (eh h5) g (fun i5 g => ?_) fun i5 g => ?_
    ·exact wR (Ya (.bool true) rfl (wN (c0 _ _ _ b4 b5 rfl b6 b7 b8 b9 b g)))
    ·exact wp_skip (c0 _ _ _ b4 b5 h4 b6 b7 b8 b9 b g)
   refine cIf e0 k (fun i6 k => ?_) fun i6 k => ?_
   ·exact wR (Ym (.int .u64 (wc .u64 S)) e0 (Ym i.v (eh A) (Ym (iV h) (eh B) (yY (yadd e0 rfl) (bE k fun i7 c2 k => yY (yIa SL_29 e0 e0 b (rdI p) c2) (yY (yI O_103 e0 b (rdI p) c2) (yY (ycv (k' := .u64) (by kernel_rfl) (by kernel_rfl) e0) (yY (yshlc e0 rfl) (yY (yor e0 e0) (Ya (.int .u64 (wor .u64 (wc .u64 S) (wslc .u64 (wc .u64 i7) 32))) e0 (wN (a8 _ _ _ A a5 O R a6 B rfl b k))))))))))))
   ·exact wp_skip (a8 _ _ _ A a5 O R a6 B rfl b k)
  ·refine wp_exit (f8 _ _ _ rfl ?_)
   cases k
   exact f6 _ _ _ _ rfl rfl (f0 _ _ _ _ _ O R b (f4 _ rfl))
 refine loopQ (fun s a w => ∃ (C : Bool) (j : Int) (f : FV), (C, j) = s ∧ a = fr 85 f ∧ f 0 = i.v ∧ f 1 = iV c ∧ f 6 = .bool C ∧ f 7 = iV j ∧ St w0 ros rs w) d7 ⟨_, _, _, rfl, rfl, rfl, rfl, rfl, rfl, b⟩ ?_
 rintro _ _ w l3 ⟨C, j, f, rfl, rfl, Z, a0, c3, I, b⟩ x i8 l4 i9 j0
 refine seqQ fun l5 j1 j2 => sR fun _ j3 => Ym (iV j) (eh I) (Ym (iV c) (eh a0) (yY (yquoc e0 rfl (by decide)) (yY (ylss e0 e0) (Ym (.bool (decide (j < (wqc .i64 c 32)))) e0 ?_))))
 refine joinW 5 (fun f w => f 0 = i.v ∧ f 1 = iV c ∧ f 6 = .bool C ∧ f 7 = iV j ∧ f 21 = .bool ((decide (j < (wqc .i64 c 32))) && (decide (j < (D.length : Int)))) ∧ St w0 ros rs w) (fun c4 => ?_) ?_
 ·rcases Bool.eq_false_or_eq_true (decide (j < (wqc .i64 c 32))) with m | m
  ·exact yG m (m_ (iV j) (eh I)) (yG m (m_ i.v (eh Z)) (yG m (yLen SL_29 e0 b (rdI p)) (yG m (ylss e0 e0) (yY (pt_ (.bool (decide (j < (D.length : Int)))) e0 m e0) (c4 _ _ ⟨Z, a0, c3, I, (congrArg Value.bool (andT m)), b⟩)))))
  ·exact gN m (gN m (gN m (gN m (yY (pf_ (.bool false) e0 m rfl) (c4 _ _ ⟨Z, a0, c3, I, (congrArg Value.bool (andF m)), b⟩)))))
 rintro f w ⟨J, a1, c5, a2, j4, b⟩
 refine wK j3 (cB (eh j4) x (fun j5 x => ?_) fun j5 x => ?_)
 ·refine wp_skip (j1 _ _ (sQ fun _ j6 => blockQ fun _ j7 => wR (Ym (.bool C) (eh c5) (Ym (.bool C) e0 (bE x fun c6 y x => ?_)))))
  refine joinW 6 (fun f w => f 0 = i.v ∧ f 1 = iV c ∧ f 7 = iV j ∧ f 31 = .bool c6 ∧ St w0 ros rs w) (fun c7 => ?_) ?_
  ·rcases iteS y with ⟨o, y⟩ | ⟨o, y⟩
   ·refine gN o (gN o (gN o (gN o (gN o (yY (pt_ (.bool true) e0 o rfl) ?_)))))
    cases y
    exact c7 _ _ ⟨J, a1, a2, rfl, b⟩
   ·refine yG (bfalse o) (m_ i.v (eh J)) (yG (bfalse o) (m_ (iV j) (eh a2)) (bE y fun j8 c8 y => yG (bfalse o) (yIa SL_29 e0 e0 b (rdI p) c8) (yG (bfalse o) (yI O_103 e0 b (rdI p) c8) (yG (bfalse o) (yneq e0 rfl) (yY (pf_ (.bool (!(decide (j8 = 0)))) e0 (bfalse o) e0) ?_)))))
    cases y
    exact c7 _ _ ⟨J, a1, a2, rfl, b⟩
  rintro f w ⟨j9, k0, k5, k6, b⟩
  refine Ya (.bool c6) (eh k6) (wN (j7 _ _ _ (j6 _ _ (wR (Ym (iV j) (eh k5) (yY (yadd e0 rfl) (Ya (iV (wa .i64 j 1)) e0 (wN ?_))))))))
  cases x
  exact i9 _ _ _ rfl ⟨_, _, _, rfl, rfl, j9, k0, rfl, rfl, b⟩
 ·refine wp_exit (j2 _ _ _ rfl ?_)
  cases x
  exact j0 _ _ _ _ rfl rfl (d8 _ _ _ J a1 c5 b (i8 _ rfl))
theorem sparseref01_divMag_ok {A d : LI} {o p : Hdr} {out : LI × LI} (c : sparseref01_divMag A d = some out) (r : imm (rI .u32) o.v A ∈ ros) (u : imm (rI .u32) p.v d ∈ ros) (b : St w0 ros rs w) :
  Calls Tryz.prog 145 #[o.v, p.v] w (fun e w => ∃ (X Z : Hdr), e = .returned (.tuple #[X.v, Z.v]) ∧ St w0 (imm (rI .u32) Z.v out.2 :: ros) (row 103 (rI .u32) X.v out.1 :: rs) w) := by
 refine enterQ Tryz.func145 rfl Tryz.ntmps145 rfl fun Q a0 => sR fun _ k1 => Ya hnil.v rfl (Ya hnil.v rfl (wK k1 (seqQ fun j9 c1 c2 => sR fun _ c3 => Ym o.v e0 (Ym p.v e0 (bE c fun k0 c4 c => yC (yCall FN_143 (a2 e0 e0)) (sparseref01_cmpMag_ok c4 r u b) ?_)))))
 rintro _ w ⟨rfl, b⟩
 refine ⟨_, rfl, ?_⟩
 refine yY (ylss e0 rfl) (wK c3 ?_)
 refine cIf e0 c (fun c5 c => ?_) fun c5 c => ?_
 ·refine sR fun _ c7 => Ym o.v e0 (Ya hnil.v rfl (Ya o.v e0 (wK c7 (wp_ret (c2 _ _ _ rfl ?_)))))
  cases c
  replace b := b.rowNh 103 (rI .u32)
  exact a0 _ _ _ (fin2r Tryz.results145 ⟨rfl, rfl⟩ ⟨rfl, rfl⟩ ⟨_, _, rfl, (b.facts (allC r allI))⟩)
 ·refine wp_skip (c1 _ _ (sR fun _ c8 => Ym p.v e0 (yY (yLen SL_29 e0 b (rdI u)) (Ya (iV (d.length : Int)) e0 (wK c8 (sR fun _ c9 => Ym p.v e0 (Ym (iV (d.length : Int)) e0 (yY (ysub e0 rfl) ?_))))))))
  refine bE c fun l0 a3 c => yY (yIa SL_29 e0 e0 b (rdI u) a3) (yY (yI O_103 e0 b (rdI u) a3) (bE c fun j d0 c => yC (yCall FN_126 (a1 e0)) (math_bits_LeadingZeros32_ok d0 b) ?_))
  rintro _ w ⟨rfl, b⟩
  refine ⟨_, rfl, ?_⟩
  refine Ya (iV j) e0 (wK c9 (sQ fun _ d1 => bE c fun l1 d2 c => bE c fun l2 d3 c => bE c fun x F c => dR [0, 0, 3, 0, 0, 31, 0, 127, 63, 511] [2, 5, 8, 9] 4 folM ?_))
  replace b := b.drew
  refine Dn [0, 1, 3, 4, 6] [] [2] (yR rfl (m_ o.v e0) (yR rfl (m_ (iV j) e0) (yR rfl (m_ p.v e0) (yR rfl (m_ (iV j) e0) (yR rfl (m_ (iV (d.length : Int)) e0) (Rn QSn ?_))))))
  refine Lc1 rfl ?_
  refine Lk wn (yCall FN_158 (a2 e0 e0)) (sparseref01_shl_ok d2 r b) ?_
  rintro _ w ⟨G, rfl, b⟩
  refine ⟨_, rfl, ?_⟩
  refine Dn [] [3, 4, 6] [5] (Rn (yS rfl (m_ p.v e0) (yS rfl (m_ (iV j) e0) (yS rfl (m_ (iV (d.length : Int)) e0) QSn))) ?_)
  refine Lc1 rfl ?_
  refine Lk wn (yCall FN_158 (a2 e0 e0)) (sparseref01_shl_ok d3 u b) ?_
  rintro _ w ⟨k, rfl, b⟩
  refine ⟨_, rfl, ?_⟩
  refine Dn [7] [6] [8] ?_
  replace b := b.fz
  refine yR rfl (ySl (k1 := .i64) SL_29 e0 b (rdI F0) (.inr ⟨rfl, rfl⟩) (.inl (congrArg some e0)) F) ?_
  replace b := b.sub F0 F
  refine Rn (yS rfl (m_ (iV (d.length : Int)) e0) QSn) ?_
  refine Lc1 rfl ?_
  refine Ly wn (a_ G.v e0) (Dn [] [6, 7] [9] (Rn (yS rfl (m_ (iV (d.length : Int)) e0) (yS rfl (ySl (k1 := .i64) SL_29 e0 b (rdI F1) (.inr ⟨rfl, rfl⟩) (.inl (congrArg some e0)) F) QSn)) ?_))
  refine Lc1 rfl ?_
  refine Ly wn (a_ ((subH k 1 0 (d.length : Int)).v) e0) (Dz [] [] (Rn QSn (d1 _ _ (sQ fun d4 d5 => sR fun _ d6 => Ym G.v e0 (yY (yLen SL_29 e0 b rO0) (Ym o.v e0 (yY (yLen SL_29 e0 b (rdI (F_2 r))) (yY (yeql e0 e0) (wK d6 ?_)))))))))
  have a5 : ∀ (H : LI) (h : Hdr) (f : FV) w, f 0 = o.v → f 6 = iV (d.length : Int) → f 7 = iV j → f 8 = h.v → f 9 = (subH k 1 0 (d.length : Int)).v → St w0 (imm (rI .u32) (subH k 1 0 (d.length : Int)).v x :: ros) (row 103 (rI .u32) h.v H :: rs) w → sparseref01_divMag_j1 A d x j H = some out → d4 .normal (fr 109 f) w := by
   intro H h f w a6 I d7 d8 d9 b c
   refine d5 _ _ (sR fun _ e1 => Ym o.v (eh a6) (yY (yLen SL_29 e0 b (rdI (mtF r))) (Ym (iV (d.length : Int)) (eh I) (yY (ysub e0 e0) (yY (yadd e0 rfl) (bE c fun l3 e2 c => yH (rMk b SL_29 e0 e2) fun m w b => Ya m.v e0 (wK e1 ?_)))))))
   refine sQ fun _ e3 => sR fun _ e4 => Ym o.v (eh a6) (yY (yLen SL_29 e0 b (rdI (mtF r))) (Ym (iV (d.length : Int)) (eh I) (yY (ysub e0 e0) (Ya (iV (ws .i64 (A.length : Int) (d.length : Int))) e0 (wK e4 (blockQ fun e5 e6 => bE c fun e7 e8 c => ?_))))))
   have e9 : ∀ (J K : LI) (f : FV) w, f 7 = iV j → f 8 = h.v → f 10 = m.v → St w0 ros (row 103 (rI .u32) h.v J :: row 103 (rI .u32) m.v K :: rs) w → (J, K) = e7 → e5 (.exit 0) (fr 109 f) w := by
    intro J K f w f0 f1 f2 b ho
    subst ho
    refine e6 _ _ _ (e3 _ _ (sR fun _ f3 => Ym h.v (eh f1) (bE c fun l4 f4 c => ?_)))
    replace b := b.fz
    refine yC (yCall FN_116 (a1 e0)) (sparseref01_trim_ok f4 F0 b) ?_
    rintro _ w ⟨l5, rfl, b⟩
    refine ⟨_, rfl, ?_⟩
    refine Ym (iV j) (eh f0) (bE c fun L f5 c => ?_)
    replace b := b.fz
    refine yC (yCall FN_160 (a2 e0 e0)) (sparseref01_shr_ok f5 F0 b) ?_
    rintro _ w ⟨B, rfl, b⟩
    refine ⟨_, rfl, ?_⟩
    refine Ym (.tuple #[B.v, .bool L.2]) e0 (yY (x_ B.v e0) (yY (x_ (.bool L.2) e0) (Ya B.v e0 (Ya (.bool L.2) e0 (wK f3 (sR fun _ f6 => Ym m.v (eh f2) (bE c fun l6 f7 c => ?_)))))))
    replace b := (b.k17).fz
    refine yC (yCall FN_116 (a1 e0)) (sparseref01_trim_ok f7 F0 b) ?_
    rintro _ w ⟨f8, rfl, b⟩
    refine ⟨_, rfl, ?_⟩
    refine Ym B.v e0 (bE c fun l7 f9 c => ?_)
    replace b := (b.k17).fz
    refine yC (yCall FN_116 (a1 e0)) (sparseref01_trim_ok f9 F0 b) ?_
    rintro _ w ⟨g0, rfl, b⟩
    refine ⟨_, rfl, ?_⟩
    refine Ya f8.v e0 (Ya g0.v e0 (wK f6 (wp_ret ?_)))
    cases c
    replace b := b.fz
    exact a0 _ _ _ (fin2r Tryz.results145 ⟨rfl, rfl⟩ ⟨rfl, rfl⟩ ⟨_, _, rfl, (b.facts (allC F0 (allT (allT (allT (allT (allT allI)))))))⟩)
   refine loopQ (fun s a w => ∃ (N y : LI) (i : Int) (f : FV), (N, y, i) = s ∧ a = fr 109 f ∧ f 6 = iV (d.length : Int) ∧ f 7 = iV j ∧ f 8 = h.v ∧ f 9 = (subH k 1 0 (d.length : Int)).v ∧ f 10 = m.v ∧ f 11 = iV i ∧ St w0 (imm (rI .u32) (subH k 1 0 (d.length : Int)).v x :: ros) (row 103 (rI .u32) h.v N :: row 103 (rI .u32) m.v y :: rs) w) e8 ⟨_, _, _, _, rfl, rfl, I, d7, d8, d9, rfl, rfl, (b.k17)⟩ ?_
   rintro _ _ w l8 ⟨N, y, i, f, rfl, rfl, C, a7, D, a8, a9, E, b⟩ g g1 l9 g2 g3
   refine seqQ fun m0 g4 g5 => sR fun _ g6 => Ym (iV i) (eh E) (yY (ygeq e0 rfl) (wK g6 ?_))
   refine cIf e0 g (fun g7 g => ?_) fun g7 g => ?_
   ·refine wp_skip (g4 _ _ (sQ fun _ g8 => blockQ fun _ g9 => sQ fun _ h0 => bE g fun b0 b1 g => bE g fun b2 b3 g => dR [0, 0, 0, 6, 15, 31, 63, 127, 0, 0, 0, 1536, 3584, 7936, 16128, 32512, 65535, 131071] [17] 1 folM ?_))
    replace b := b.drew
    refine Dn [0, 1, 2, 3, 4, 5, 6, 7, 8, 9, 10, 11, 12, 13, 14, 15, 16] [] [17] (yR rfl (m_ h.v (eh D)) (yR rfl (m_ (iV i) (eh E)) (yR rfl (m_ (iV (d.length : Int)) (eh C)) (yR rfl (yadd e0 e0) (yR rfl (yIa SL_29 e0 e0 b rO0 b1) (yR rfl (yI O_103 e0 b rO0 b1) (yR rfl (ycv (k' := .u64) (by kernel_rfl) (by kernel_rfl) e0) (yR rfl (yshlc e0 rfl) (yR rfl (m_ h.v (eh D)) (yR rfl (m_ (iV i) (eh E)) (yR rfl (m_ (iV (d.length : Int)) (eh C)) (yR rfl (yadd e0 e0) (yR rfl (ysub e0 rfl) ?_)))))))))))))
    refine yR rfl (yIa SL_29 e0 e0 b rO0 b3) (yR rfl (yI O_103 e0 b rO0 b3) (yR rfl (ycv (k' := .u64) (by kernel_rfl) (by kernel_rfl) e0) (yR rfl (yor e0 e0) (Rn QSn ?_))))
    refine Lc1 rfl ?_
    refine Ly wn (a_ (.int .u64 (wor .u64 (wslc .u64 (wc .u64 b0) 32) (wc .u64 b2))) e0) (Dz [] [] (Rn QSn (h0 _ _ (sR fun _ h1 => Ym (.int .u64 (wor .u64 (wslc .u64 (wc .u64 b0) 32) (wc .u64 b2))) e0 (Ym ((subH k 1 0 (d.length : Int)).v) (eh a8) (Ym (iV (d.length : Int)) (eh C) (yY (ysub e0 rfl) (bE g fun m1 b4 g => yY (yIa SL_29 e0 e0 b (rdI F0) b4) (yY (yI O_103 e0 b (rdI F0) b4) (yY (ycv (k' := .u64) (by kernel_rfl) (by kernel_rfl) e0) ?_))))))))))
    refine bE g fun h3 h5 g => yY (yquo e0 e0 h5) (yY (ymin e0 rfl) (Ya (.int .u64 (imin h3 4294967295)) e0 (wK h1 (sQ fun _ h6 => blockQ fun h7 h8 => bE g fun h9 i0 g => ?_))))
    have i1 : ∀ (O : LI) (z : Int) (f : FV) w, f 6 = iV (d.length : Int) → f 7 = iV j → f 8 = h.v → f 9 = (subH k 1 0 (d.length : Int)).v → f 10 = m.v → f 11 = iV i → f 13 = .int .u64 z → St w0 (imm (rI .u32) (subH k 1 0 (d.length : Int)).v x :: ros) (row 103 (rI .u32) h.v O :: row 103 (rI .u32) m.v y :: rs) w → (O, z) = h9 → h7 (.exit 2) (fr 109 f) w := by
     intro O z f w i2 i3 i4 i5 b5 b6 i6 b ho
     subst ho
     refine h8 _ _ _ (h6 _ _ (wR (Ym m.v (eh b5) (Ym (iV i) (eh b6) (Ym (.int .u64 z) (eh i6) (yY (ycv (k' := .u32) (by kernel_rfl) (by kernel_rfl) e0) (bE g fun m2 b7 g => yY (yIs SL_29 e0 e0 b rO1 b7) (yT (r_sti (cs := [.int .u32 (wc .u32 z)]) (b.k17) O_103 rfl e0 e0 rfl mkI b7) fun w b => wN (g9 _ _ _ (g8 _ _ ?_))))))))))
     refine wR (Ym (iV i) (eh b6) (yY (ysub e0 rfl) (Ya (iV (ws .i64 i 1)) e0 (wN ?_))))
     cases g
     exact g2 _ _ _ rfl ⟨_, _, _, _, rfl, rfl, i2, i3, i4, i5, b5, rfl, (b.k17)⟩
    refine loopQ (fun s a w => ∃ (R : LI) (t : Int) (f : FV), (R, t) = s ∧ a = fr 109 f ∧ f 6 = iV (d.length : Int) ∧ f 7 = iV j ∧ f 8 = h.v ∧ f 9 = (subH k 1 0 (d.length : Int)).v ∧ f 10 = m.v ∧ f 11 = iV i ∧ f 13 = .int .u64 t ∧ St w0 (imm (rI .u32) (subH k 1 0 (d.length : Int)).v x :: ros) (row 103 (rI .u32) h.v R :: row 103 (rI .u32) m.v y :: rs) w) i0 ⟨_, _, _, rfl, rfl, C, a7, D, a8, a9, E, rfl, b⟩ ?_
    rintro _ _ w m3 ⟨R, t, f, rfl, rfl, b8, b9, S, T, c0, U, V, b⟩ q i7 m4 i8 i9
    refine seqQ fun m5 j0 j2 => sR fun _ j3 => Ym h.v (eh S) (Ym ((subH k 1 0 (d.length : Int)).v) (eh T) (Ym (iV i) (eh U) (Ym (.int .u64 t) (eh V) (bE q fun m6 j4 q => yC (yCall FN_159 (a4 e0 e0 e0 e0)) (sparseref01_take_ok j4 F0 b) ?_))))
    rintro _ w ⟨rfl, b⟩
    refine ⟨_, rfl, ?_⟩
    refine yY (ynot e0) (wK j3 ?_)
    rcases iteS q with ⟨W, q⟩ | ⟨W, q⟩
    ·refine condF e0 (nF W) (wp_exit (j2 _ _ _ rfl ?_))
     cases q
     exact i9 _ _ _ _ rfl rfl (i1 _ _ _ _ b8 b9 S T c0 U V b (i7 _ rfl))
    ·refine condT e0 (nT (bfalse W)) (wp_skip (j0 _ _ (blockQ fun _ j5 => wR (Ym (.int .u64 t) (eh V) (yY (ysub e0 rfl) (Ya (.int .u64 (ws .u64 t 1)) e0 (wN (j5 _ _ _ ?_))))))))
     cases q
     exact i8 _ _ _ rfl ⟨_, _, _, rfl, rfl, b8, b9, S, T, c0, U, rfl, b⟩
   ·refine wp_exit (g5 _ _ _ rfl ?_)
    cases g
    exact g3 _ _ _ _ rfl rfl (e9 _ _ _ _ a7 D a9 (b.facts (allT allI)) (g1 _ rfl))
  refine cIf e0 c (fun j6 c => ?_) fun j6 c => ?_
  ·exact wR (Ym G.v e0 (yH (rLt (n := 1) (l := [0]) b SL_29 [.int .u32 0] (bp1 rfl) rfl rfl (mks1 (cs := [.int .u32 0]) rfl mkI mks0)) fun m7 w b => bE c fun m8 j7 c => yH (rAp (b.k17) SL_29 e0 e0 rO1 j7) fun j8 w b => Ya j8.v e0 (wN (a5 _ _ _ _ rfl rfl rfl rfl rfl ((b.k18).facts (allC F0 (allT (allT allI)))) c))))
  ·exact wp_skip (a5 _ _ _ _ rfl rfl rfl rfl rfl (b.facts (allC F0 (allT (allT allI)))) c)
theorem sparseref01_DivMod_ok {K : Bool} {Z : LI} {G : Bool} {a0 : LI} {L H : Hdr} {out : Bool × LI × Bool × LI} (b : sparseref01_DivMod K Z G a0 = some out) (c0 : imm (rI .u32) L.v Z ∈ ros) (c1 : imm (rI .u32) H.v a0 ∈ ros) (a : St w0 ros rs w) :
  Calls Tryz.prog 117 #[.agg #[.bool K, L.v], .agg #[.bool G, H.v]] w (fun e w => ∃ (a3 a4 : Hdr), e = .returned (.tuple #[.agg #[.bool out.1, a3.v], .agg #[.bool out.2.2.1, a4.v]]) ∧ St w0 (imm (rI .u32) a4.v out.2.2.2 :: ros) (row 103 (rI .u32) a3.v out.2.1 :: rs) w) := by
 refine enterQ Tryz.func117 rfl Tryz.ntmps117 rfl fun Q c2 => sR fun _ c3 => yBb (r_box (vals := [.bool K, L.v]) a e0 rfl) fun f0 w a => yBb (r_box (vals := [.bool G, H.v]) a e0 rfl) fun a5 w a => yBb (rAl a ZT_31) fun A w a => yBb (rAl a ZT_31) fun B w a => wK c3 (sQ fun _ c4 => ?_)
 refine bE b fun i c5 b => bE b fun l c6 b => dR [0, 1, 0, 7, 15, 31] [1, 3, 4, 5] 4 folM ?_
 replace a := a.drew
 refine Dn [0, 2] [] [1] (yR rfl (lbs_ [.bool K, L.v] ST_31 e0 a R3) (yR rfl (lbs_ [.bool G, H.v] ST_31 e0 a R2) (Rn QSn ?_)))
 refine Lc1 rfl ?_
 refine Lk wn (yCall FN_78 (a1 e0)) (sparseref01_Norm_ok c5 c0 a) ?_
 rintro _ w ⟨O, rfl, a⟩
 refine ⟨_, rfl, ?_⟩
 refine Dn [] [2] [3] (Rn (yS rfl (lbs_ [.bool G, H.v] ST_31 e0 a R3) QSn) ?_)
 refine Lc1 rfl ?_
 refine Lk wn (yCall FN_78 (a1 e0)) (sparseref01_Norm_ok c6 c1 a) ?_
 rintro _ w ⟨C, rfl, a⟩
 refine ⟨_, rfl, ?_⟩
 refine Dn [] [] [4] (Rn QSn ?_)
 refine Lc1 rfl ?_
 replace a := a.k1p
 refine LT wn (r_stbn (vals' := [.bool i.1, O.v]) (us := [.bool i.1, O.v]) a ST_31 e0 e0 rfl rfl (one_of rfl) rfl) fun w a => Dn [] [] [5] (Rn QSn ?_)
 refine Lc1 rfl ?_
 replace a := a.k1p
 refine LT wn (r_stbn (vals' := [.bool l.1, C.v]) (us := [.bool l.1, C.v]) a ST_31 e0 e0 rfl rfl (one_of rfl) rfl) fun w a => Dz [] [] (Rn QSn (c4 _ _ (sR fun _ c7 => yY (yFb FL_31_1 e0) (yY (lb_ O.v O_29 e0 a R1) (yY (yFb FL_31_1 e0) (yY (lb_ C.v O_29 e0 a R0) (bE b fun f1 c8 b => ?_)))))))
 replace a := (((a.k13).fz).k19).fz
 refine yC (yCall FN_145 (a2 e0 e0)) (sparseref01_divMag_ok c8 F1 F0 a) ?_
 rintro _ w ⟨p, j, rfl, a⟩
 refine ⟨_, rfl, ?_⟩
 refine Ym (.tuple #[p.v, j.v]) e0 (yY (x_ p.v e0) (yY (x_ j.v e0) (Ya p.v e0 (Ya j.v e0 (wK c7 (sQ fun _ c9 => bE b fun d I b => bE b fun g m b => ?_))))))
 refine joinN (n := 50) (fun f w => ∃ (s : Nat) (t : Hdr) (u : Nat) (D : Hdr), f 3 = (pB a5) ∧ f 4 = (pB A) ∧ f 5 = (pB B) ∧ f 8 = (pB s) ∧ f 9 = (pB u) ∧ St w0 (imm (rI .u32) C.v l.2 :: ros) (box a5 31 [.bool l.1, C.v] :: box A 31 [.bool false, hnil.v] :: box B 31 [.bool false, hnil.v] :: row 103 (rI .u32) t.v d.2 :: box s 31 [.bool d.1, t.v] :: row 103 (rI .u32) D.v g.2 :: box u 31 [.bool g.1, D.v] :: rs) w) (fun k => ?_) ?_
 ·refine dR [0, 1, 0, 4, 15, 0, 63, 0, 128, 0, 1023, 0, 0, 8191, 16383] [6, 10, 11, 12, 13, 14] 6 folM ?_
  replace a := a.drew
  refine Dn [0, 1, 2, 3, 4, 5, 7, 8, 9] [] [6, 11, 12] (yR rfl (yFb FL_31_0 e0) (yR rfl (lb_ (.bool i.1) O_4 e0 a R2) (yR rfl (yFb FL_31_0 e0) (yR rfl (lb_ (.bool l.1) O_4 e0 a R1) (yR rfl (yneb (by kernel_rfl) e0 e0) (yR rfl (m_ p.v e0) (yR rfl (yFb FL_31_0 e0) (yR rfl (lb_ (.bool i.1) O_4 e0 a R2) (yR rfl (m_ j.v e0) (Rn QSn ?_))))))))))
  refine Lc rfl ?_ (Lc rfl ?_ (Lc1 rfl ?_))
  ·replace a := a.fz
   refine Lk wn (yCall FN_110 (a2 e0 e0)) (sparseref01_make1_ok I F0 a) ?_
   rintro _ w ⟨h, rfl, a⟩
   refine ⟨_, rfl, ?_⟩
   refine Dn [] [7, 8, 9] [10, 11, 12] (Rn (yS rfl (yFb FL_31_0 e0) (yS rfl (lb_ (.bool i.1) O_4 e0 a R2) (yS rfl (m_ j.v e0) QSn))) ?_)
   refine Lc rfl ?_ (Lc rfl ?_ (Lc1 rfl ?_))
   ·refine Lk wn (yCall FN_110 (a2 e0 e0)) (sparseref01_make1_ok m F1 a) ?_
    rintro _ w ⟨c, rfl, a⟩
    refine ⟨_, rfl, ?_⟩
    refine Dn [] [] [11, 12] (Rn QSn ?_)
    refine Lc rfl ?_ (Lc1 rfl ?_)
    ·refine LB wn (rAl a ZT_31) fun q w a => Dn [] [] [12] (Rn QSn ?_)
     refine Lc1 rfl ?_
     refine LB wn (rAl a ZT_31) fun r w a => Dn [] [] [13] (Rn QSn ?_)
     refine Lc1 rfl ?_
     replace a := a.k17
     refine LT wn (r_stbn (vals' := [.bool d.1, h.v]) (us := [.bool d.1, h.v]) a ST_31 e0 e0 rfl rfl (one_of rfl) rfl) fun w a => Dn [] [] [14] (Rn QSn ?_)
     refine Lc1 rfl ?_
     replace a := a.k17
     exact LT wn (r_stbn (vals' := [.bool g.1, c.v]) (us := [.bool g.1, c.v]) a ST_31 e0 e0 rfl rfl (one_of rfl) rfl) fun w a => Dz [] [] (Rn QSn (k _ _ ⟨_, _, _, _, rfl, rfl, rfl, rfl, rfl, ((a.k22).facts (allC F2 (allT (allT (allT (allT allI))))))⟩))
    ·refine LB wn (rAl a ZT_31) fun r w a => Dn [] [] [11] (Rn QSn ?_)
     refine Lc1 rfl ?_
     refine LB wn (rAl a ZT_31) fun q w a => Dn [] [] [13] (Rn QSn ?_)
     refine Lc1 rfl ?_
     refine LT wn (r_stbn (vals' := [.bool d.1, h.v]) (us := [.bool d.1, h.v]) a ST_31 e0 e0 rfl rfl (one_of rfl) rfl) fun w a => Dn [] [] [14] (Rn QSn ?_)
     refine Lc1 rfl ?_
     replace a := a.k17
     exact LT wn (r_stbn (vals' := [.bool g.1, c.v]) (us := [.bool g.1, c.v]) a ST_31 e0 e0 rfl rfl (one_of rfl) rfl) fun w a => Dz [] [] (Rn QSn (k _ _ ⟨_, _, _, _, rfl, rfl, rfl, rfl, rfl, ((a.k22).facts (allC F2 (allT (allT (allT (allT allI))))))⟩))
   ·refine LB wn (rAl a ZT_31) fun q w a => Dn [] [7, 8, 9] [10, 12] (Rn (yS rfl (yFb FL_31_0 e0) (yS rfl (lb_ (.bool i.1) O_4 e0 a R3) (yS rfl (m_ j.v e0) QSn))) ?_)
    refine Lc rfl ?_ (Lc1 rfl ?_)
    ·refine Lk wn (yCall FN_110 (a2 e0 e0)) (sparseref01_make1_ok m F1 a) ?_
     rintro _ w ⟨c, rfl, a⟩
     refine ⟨_, rfl, ?_⟩
     refine Dn [] [] [12] (Rn QSn ?_)
     refine Lc1 rfl ?_
     refine LB wn (rAl a ZT_31) fun r w a => Dn [] [] [13] (Rn QSn ?_)
     refine Lc1 rfl ?_
     replace a := a.k19
     refine LT wn (r_stbn (vals' := [.bool d.1, h.v]) (us := [.bool d.1, h.v]) a ST_31 e0 e0 rfl rfl (one_of rfl) rfl) fun w a => Dn [] [] [14] (Rn QSn ?_)
     refine Lc1 rfl ?_
     replace a := a.k17
     exact LT wn (r_stbn (vals' := [.bool g.1, c.v]) (us := [.bool g.1, c.v]) a ST_31 e0 e0 rfl rfl (one_of rfl) rfl) fun w a => Dz [] [] (Rn QSn (k _ _ ⟨_, _, _, _, rfl, rfl, rfl, rfl, rfl, ((a.k22).facts (allC F2 (allT (allT (allT (allT allI))))))⟩))
    ·refine LB wn (rAl a ZT_31) fun r w a => Dn [] [7, 8, 9] [10] (Rn (yS rfl (yFb FL_31_0 e0) (yS rfl (lb_ (.bool i.1) O_4 e0 a R4) (yS rfl (m_ j.v e0) QSn))) ?_)
     refine Lc1 rfl ?_
     refine Lk wn (yCall FN_110 (a2 e0 e0)) (sparseref01_make1_ok m F1 a) ?_
     rintro _ w ⟨c, rfl, a⟩
     refine ⟨_, rfl, ?_⟩
     refine Dn [] [] [13] (Rn QSn ?_)
     refine Lc1 rfl ?_
     replace a := a.k19
     refine LT wn (r_stbn (vals' := [.bool d.1, h.v]) (us := [.bool d.1, h.v]) a ST_31 e0 e0 rfl rfl (one_of rfl) rfl) fun w a => Dn [] [] [14] (Rn QSn ?_)
     refine Lc1 rfl ?_
     replace a := a.k19
     exact LT wn (r_stbn (vals' := [.bool g.1, c.v]) (us := [.bool g.1, c.v]) a ST_31 e0 e0 rfl rfl (one_of rfl) rfl) fun w a => Dz [] [] (Rn QSn (k _ _ ⟨_, _, _, _, rfl, rfl, rfl, rfl, rfl, ((a.k22).facts (allC F2 (allT (allT (allT (allT allI))))))⟩))
   ·refine LB wn (rAl a ZT_31) fun r w a => Dn [] [7, 8, 9] [10, 11] (Rn (yS rfl (yFb FL_31_0 e0) (yS rfl (lb_ (.bool i.1) O_4 e0 a R3) (yS rfl (m_ j.v e0) QSn))) ?_)
    refine Lc rfl ?_ (Lc1 rfl ?_)
    ·refine Lk wn (yCall FN_110 (a2 e0 e0)) (sparseref01_make1_ok m F1 a) ?_
     rintro _ w ⟨c, rfl, a⟩
     refine ⟨_, rfl, ?_⟩
     refine Dn [] [] [11] (Rn QSn ?_)
     refine Lc1 rfl ?_
     refine LB wn (rAl a ZT_31) fun q w a => Dn [] [] [13] (Rn QSn ?_)
     refine Lc1 rfl ?_
     refine LT wn (r_stbn (vals' := [.bool d.1, h.v]) (us := [.bool d.1, h.v]) a ST_31 e0 e0 rfl rfl (one_of rfl) rfl) fun w a => Dn [] [] [14] (Rn QSn ?_)
     refine Lc1 rfl ?_
     replace a := a.k19
     exact LT wn (r_stbn (vals' := [.bool g.1, c.v]) (us := [.bool g.1, c.v]) a ST_31 e0 e0 rfl rfl (one_of rfl) rfl) fun w a => Dz [] [] (Rn QSn (k _ _ ⟨_, _, _, _, rfl, rfl, rfl, rfl, rfl, ((a.k22).facts (allC F2 (allT (allT (allT (allT allI))))))⟩))
    ·refine LB wn (rAl a ZT_31) fun q w a => Dn [] [7, 8, 9] [10] (Rn (yS rfl (yFb FL_31_0 e0) (yS rfl (lb_ (.bool i.1) O_4 e0 a R4) (yS rfl (m_ j.v e0) QSn))) ?_)
     refine Lc1 rfl ?_
     refine Lk wn (yCall FN_110 (a2 e0 e0)) (sparseref01_make1_ok m F1 a) ?_
     rintro _ w ⟨c, rfl, a⟩
     refine ⟨_, rfl, ?_⟩
     refine Dn [] [] [13] (Rn QSn ?_)
     refine Lc1 rfl ?_
     replace a := a.k17
     refine LT wn (r_stbn (vals' := [.bool d.1, h.v]) (us := [.bool d.1, h.v]) a ST_31 e0 e0 rfl rfl (one_of rfl) rfl) fun w a => Dn [] [] [14] (Rn QSn ?_)
     refine Lc1 rfl ?_
     replace a := a.k19
     exact LT wn (r_stbn (vals' := [.bool g.1, c.v]) (us := [.bool g.1, c.v]) a ST_31 e0 e0 rfl rfl (one_of rfl) rfl) fun w a => Dz [] [] (Rn QSn (k _ _ ⟨_, _, _, _, rfl, rfl, rfl, rfl, rfl, ((a.k22).facts (allC F2 (allT (allT (allT (allT allI))))))⟩))
  ·refine LB wn (rAl a ZT_31) fun q w a => Dn [] [0, 1, 2, 3, 4, 5, 7, 8, 9] [6, 12] (Rn (yS rfl (yFb FL_31_0 e0) (yS rfl (lb_ (.bool i.1) O_4 e0 a R3) (yS rfl (yFb FL_31_0 e0) (yS rfl (lb_ (.bool l.1) O_4 e0 a R2) (yS rfl (yneb (by kernel_rfl) e0 e0) (yS rfl (m_ p.v e0) (yS rfl (yFb FL_31_0 e0) (yS rfl (lb_ (.bool i.1) O_4 e0 a R3) (yS rfl (m_ j.v e0) QSn))))))))) ?_)
   refine Lc rfl ?_ (Lc1 rfl ?_)
   ·replace a := a.k17
    replace a := a.fz
    refine Lk wn (yCall FN_110 (a2 e0 e0)) (sparseref01_make1_ok I F0 a) ?_
    rintro _ w ⟨h, rfl, a⟩
    refine ⟨_, rfl, ?_⟩
    refine Dn [] [7, 8, 9] [10, 12] (Rn (yS rfl (yFb FL_31_0 e0) (yS rfl (lb_ (.bool i.1) O_4 e0 a R3) (yS rfl (m_ j.v e0) QSn))) ?_)
    refine Lc rfl ?_ (Lc1 rfl ?_)
    ·refine Lk wn (yCall FN_110 (a2 e0 e0)) (sparseref01_make1_ok m F1 a) ?_
     rintro _ w ⟨c, rfl, a⟩
     refine ⟨_, rfl, ?_⟩
     refine Dn [] [] [12] (Rn QSn ?_)
     refine Lc1 rfl ?_
     refine LB wn (rAl a ZT_31) fun r w a => Dn [] [] [13] (Rn QSn ?_)
     refine Lc1 rfl ?_
     replace a := a.k13
     refine LT wn (r_stbn (vals' := [.bool d.1, h.v]) (us := [.bool d.1, h.v]) a ST_31 e0 e0 rfl rfl (one_of rfl) rfl) fun w a => Dn [] [] [14] (Rn QSn ?_)
     refine Lc1 rfl ?_
     replace a := a.k17
     exact LT wn (r_stbn (vals' := [.bool g.1, c.v]) (us := [.bool g.1, c.v]) a ST_31 e0 e0 rfl rfl (one_of rfl) rfl) fun w a => Dz [] [] (Rn QSn (k _ _ ⟨_, _, _, _, rfl, rfl, rfl, rfl, rfl, ((a.k22).facts (allC F2 (allT (allT (allT (allT allI))))))⟩))
    ·refine LB wn (rAl a ZT_31) fun r w a => Dn [] [7, 8, 9] [10] (Rn (yS rfl (yFb FL_31_0 e0) (yS rfl (lb_ (.bool i.1) O_4 e0 a R4) (yS rfl (m_ j.v e0) QSn))) ?_)
     refine Lc1 rfl ?_
     refine Lk wn (yCall FN_110 (a2 e0 e0)) (sparseref01_make1_ok m F1 a) ?_
     rintro _ w ⟨c, rfl, a⟩
     refine ⟨_, rfl, ?_⟩
     refine Dn [] [] [13] (Rn QSn ?_)
     refine Lc1 rfl ?_
     replace a := a.k13
     refine LT wn (r_stbn (vals' := [.bool d.1, h.v]) (us := [.bool d.1, h.v]) a ST_31 e0 e0 rfl rfl (one_of rfl) rfl) fun w a => Dn [] [] [14] (Rn QSn ?_)
     refine Lc1 rfl ?_
     replace a := a.k19
     exact LT wn (r_stbn (vals' := [.bool g.1, c.v]) (us := [.bool g.1, c.v]) a ST_31 e0 e0 rfl rfl (one_of rfl) rfl) fun w a => Dz [] [] (Rn QSn (k _ _ ⟨_, _, _, _, rfl, rfl, rfl, rfl, rfl, ((a.k22).facts (allC F2 (allT (allT (allT (allT allI))))))⟩))
   ·refine LB wn (rAl a ZT_31) fun r w a => Dn [] [0, 1, 2, 3, 4, 5, 7, 8, 9] [6] (Rn (yS rfl (yFb FL_31_0 e0) (yS rfl (lb_ (.bool i.1) O_4 e0 a R4) (yS rfl (yFb FL_31_0 e0) (yS rfl (lb_ (.bool l.1) O_4 e0 a R3) (yS rfl (yneb (by kernel_rfl) e0 e0) (yS rfl (m_ p.v e0) (yS rfl (yFb FL_31_0 e0) (yS rfl (lb_ (.bool i.1) O_4 e0 a R4) (yS rfl (m_ j.v e0) QSn))))))))) ?_)
    refine Lc1 rfl ?_
    replace a := (a.k19).fz
    refine Lk wn (yCall FN_110 (a2 e0 e0)) (sparseref01_make1_ok I F0 a) ?_
    rintro _ w ⟨h, rfl, a⟩
    refine ⟨_, rfl, ?_⟩
    refine Dn [] [7, 8, 9] [10] (Rn (yS rfl (yFb FL_31_0 e0) (yS rfl (lb_ (.bool i.1) O_4 e0 a R4) (yS rfl (m_ j.v e0) QSn))) ?_)
    refine Lc1 rfl ?_
    refine Lk wn (yCall FN_110 (a2 e0 e0)) (sparseref01_make1_ok m F1 a) ?_
    rintro _ w ⟨c, rfl, a⟩
    refine ⟨_, rfl, ?_⟩
    refine Dn [] [] [13] (Rn QSn ?_)
    refine Lc1 rfl ?_
    replace a := a.k13
    refine LT wn (r_stbn (vals' := [.bool d.1, h.v]) (us := [.bool d.1, h.v]) a ST_31 e0 e0 rfl rfl (one_of rfl) rfl) fun w a => Dn [] [] [14] (Rn QSn ?_)
    refine Lc1 rfl ?_
    replace a := a.k13
    exact LT wn (r_stbn (vals' := [.bool g.1, c.v]) (us := [.bool g.1, c.v]) a ST_31 e0 e0 rfl rfl (one_of rfl) rfl) fun w a => Dz [] [] (Rn QSn (k _ _ ⟨_, _, _, _, rfl, rfl, rfl, rfl, rfl, ((a.k22).facts (allC F2 (allT (allT (allT (allT allI))))))⟩))
  ·refine LB wn (rAl a ZT_31) fun r w a => Dn [] [0, 1, 2, 3, 4, 5, 7, 8, 9] [6, 11] (Rn (yS rfl (yFb FL_31_0 e0) (yS rfl (lb_ (.bool i.1) O_4 e0 a R3) (yS rfl (yFb FL_31_0 e0) (yS rfl (lb_ (.bool l.1) O_4 e0 a R2) (yS rfl (yneb (by kernel_rfl) e0 e0) (yS rfl (m_ p.v e0) (yS rfl (yFb FL_31_0 e0) (yS rfl (lb_ (.bool i.1) O_4 e0 a R3) (yS rfl (m_ j.v e0) QSn))))))))) ?_)
   refine Lc rfl ?_ (Lc1 rfl ?_)
   ·replace a := a.k17
    replace a := a.fz
    refine Lk wn (yCall FN_110 (a2 e0 e0)) (sparseref01_make1_ok I F0 a) ?_
    rintro _ w ⟨h, rfl, a⟩
    refine ⟨_, rfl, ?_⟩
    refine Dn [] [7, 8, 9] [10, 11] (Rn (yS rfl (yFb FL_31_0 e0) (yS rfl (lb_ (.bool i.1) O_4 e0 a R3) (yS rfl (m_ j.v e0) QSn))) ?_)
    refine Lc rfl ?_ (Lc1 rfl ?_)
    ·refine Lk wn (yCall FN_110 (a2 e0 e0)) (sparseref01_make1_ok m F1 a) ?_
     rintro _ w ⟨c, rfl, a⟩
     refine ⟨_, rfl, ?_⟩
     refine Dn [] [] [11] (Rn QSn ?_)
     refine Lc1 rfl ?_
     refine LB wn (rAl a ZT_31) fun q w a => Dn [] [] [13] (Rn QSn ?_)
     refine Lc1 rfl ?_
     refine LT wn (r_stbn (vals' := [.bool d.1, h.v]) (us := [.bool d.1, h.v]) a ST_31 e0 e0 rfl rfl (one_of rfl) rfl) fun w a => Dn [] [] [14] (Rn QSn ?_)
     refine Lc1 rfl ?_
     replace a := a.k13
     exact LT wn (r_stbn (vals' := [.bool g.1, c.v]) (us := [.bool g.1, c.v]) a ST_31 e0 e0 rfl rfl (one_of rfl) rfl) fun w a => Dz [] [] (Rn QSn (k _ _ ⟨_, _, _, _, rfl, rfl, rfl, rfl, rfl, ((a.k22).facts (allC F2 (allT (allT (allT (allT allI))))))⟩))
    ·refine LB wn (rAl a ZT_31) fun q w a => Dn [] [7, 8, 9] [10] (Rn (yS rfl (yFb FL_31_0 e0) (yS rfl (lb_ (.bool i.1) O_4 e0 a R4) (yS rfl (m_ j.v e0) QSn))) ?_)
     refine Lc1 rfl ?_
     refine Lk wn (yCall FN_110 (a2 e0 e0)) (sparseref01_make1_ok m F1 a) ?_
     rintro _ w ⟨c, rfl, a⟩
     refine ⟨_, rfl, ?_⟩
     refine Dn [] [] [13] (Rn QSn ?_)
     refine Lc1 rfl ?_
     replace a := a.k17
     refine LT wn (r_stbn (vals' := [.bool d.1, h.v]) (us := [.bool d.1, h.v]) a ST_31 e0 e0 rfl rfl (one_of rfl) rfl) fun w a => Dn [] [] [14] (Rn QSn ?_)
     refine Lc1 rfl ?_
     replace a := a.k13
     exact LT wn (r_stbn (vals' := [.bool g.1, c.v]) (us := [.bool g.1, c.v]) a ST_31 e0 e0 rfl rfl (one_of rfl) rfl) fun w a => Dz [] [] (Rn QSn (k _ _ ⟨_, _, _, _, rfl, rfl, rfl, rfl, rfl, ((a.k22).facts (allC F2 (allT (allT (allT (allT allI))))))⟩))
   ·refine LB wn (rAl a ZT_31) fun q w a => Dn [] [0, 1, 2, 3, 4, 5, 7, 8, 9] [6] (Rn (yS rfl (yFb FL_31_0 e0) (yS rfl (lb_ (.bool i.1) O_4 e0 a R4) (yS rfl (yFb FL_31_0 e0) (yS rfl (lb_ (.bool l.1) O_4 e0 a R3) (yS rfl (yneb (by kernel_rfl) e0 e0) (yS rfl (m_ p.v e0) (yS rfl (yFb FL_31_0 e0) (yS rfl (lb_ (.bool i.1) O_4 e0 a R4) (yS rfl (m_ j.v e0) QSn))))))))) ?_)
    refine Lc1 rfl ?_
    replace a := (a.k19).fz
    refine Lk wn (yCall FN_110 (a2 e0 e0)) (sparseref01_make1_ok I F0 a) ?_
    rintro _ w ⟨h, rfl, a⟩
    refine ⟨_, rfl, ?_⟩
    refine Dn [] [7, 8, 9] [10] (Rn (yS rfl (yFb FL_31_0 e0) (yS rfl (lb_ (.bool i.1) O_4 e0 a R4) (yS rfl (m_ j.v e0) QSn))) ?_)
    refine Lc1 rfl ?_
    refine Lk wn (yCall FN_110 (a2 e0 e0)) (sparseref01_make1_ok m F1 a) ?_
    rintro _ w ⟨c, rfl, a⟩
    refine ⟨_, rfl, ?_⟩
    refine Dn [] [] [13] (Rn QSn ?_)
    refine Lc1 rfl ?_
    replace a := a.k19
    refine LT wn (r_stbn (vals' := [.bool d.1, h.v]) (us := [.bool d.1, h.v]) a ST_31 e0 e0 rfl rfl (one_of rfl) rfl) fun w a => Dn [] [] [14] (Rn QSn ?_)
    refine Lc1 rfl ?_
    replace a := a.k13
    exact LT wn (r_stbn (vals' := [.bool g.1, c.v]) (us := [.bool g.1, c.v]) a ST_31 e0 e0 rfl rfl (one_of rfl) rfl) fun w a => Dz [] [] (Rn QSn (k _ _ ⟨_, _, _, _, rfl, rfl, rfl, rfl, rfl, ((a.k22).facts (allC F2 (allT (allT (allT (allT allI))))))⟩))
 rintro f w ⟨s, t, u, D, a6, R, S, o, x, a⟩
 refine c9 _ _ (sQ fun a7 d0 => sR fun _ d1 => yY (lbs_ [.bool g.1, D.v] ST_31 (eh x) a R6) (bE b fun f2 d2 b => ?_))
 replace a := (a.k1p).fz
 refine yC (yCall FN_34 (a1 e0)) (sparseref01_Sign_ok d2 F0 a) ?_
 rintro _ w ⟨rfl, a⟩
 refine ⟨_, rfl, ?_⟩
 refine yY (ylss e0 rfl) (wK d1 ?_)
 have a8 : ∀ (E : Bool) (T : LI) (y : Bool) (U : LI) (F z : Hdr) (f : FV) w, f 4 = (pB A) → f 5 = (pB B) → f 8 = (pB s) → f 9 = (pB u) → St w0 (imm (rI .u32) z.v U :: ros) (box A 31 [.bool false, hnil.v] :: box B 31 [.bool false, hnil.v] :: row 103 (rI .u32) F.v T :: box s 31 [.bool E, F.v] :: box u 31 [.bool y, z.v] :: rs) w → sparseref01_DivMod_j3 E T y U = some out → a7 .normal (fr 50 f) w := by
  intro E T y U F z f w a9 b0 d3 b1 a b
  refine d0 _ _ (sQ fun _ d4 => dR [0, 0, 1, 7] [2, 3] 2 folM ?_)
  replace a := a.drew
  refine Dn [0, 1] [] [2] (yR rfl (lbs_ [.bool E, F.v] ST_31 (eh d3) a R3) (yR rfl (lbs_ [.bool y, z.v] ST_31 (eh b1) a R4) (Rn QSn ?_)))
  refine Lc1 rfl ?_
  refine LT wn (r_stbn (vals' := [.bool E, F.v]) (us := [.bool E, F.v]) a ST_31 (eh a9) e0 rfl rfl (one_of rfl) rfl) fun w a => Dn [] [1] [3] (Rn (yS rfl (lbs_ [.bool y, z.v] ST_31 (eh b1) a R4) QSn) ?_)
  refine Lc1 rfl ?_
  replace a := a.k17
  refine LT wn (r_stbn (vals' := [.bool y, z.v]) (us := [.bool y, z.v]) a ST_31 (eh b0) e0 rfl rfl (one_of rfl) rfl) fun w a => Dz [] [] (Rn QSn (d4 _ _ (wp_ret ?_)))
  cases b
  exact c2 _ _ _ (fin2r Tryz.results117 (rcs2 rfl a9 a R1 ST_31 rfl) (rcs2 rfl b0 a R0 ST_31 rfl) ⟨_, _, rfl, (a.k23)⟩)
 refine cIf e0 b (fun d5 b => ?_) fun d5 b => ?_
 ·refine sQ fun _ d6 => bE b fun f3 d7 b => bE b fun J d8 b => dR [0, 0, 2, 7, 15] [2, 3, 4] 3 folM ?_
  replace a := a.drew
  refine Dn [0, 1] [] [2] (yR rfl (lbs_ [.bool g.1, D.v] ST_31 (eh x) a R5) (yR rfl (lbs_ [.bool l.1, C.v] ST_31 (eh a6) a R0) (Rn QSn ?_)))
  refine Lc1 rfl ?_
  refine Lk wn (yCall FN_72 (a1 e0)) (sparseref01_Abs_ok d7 F1 a) ?_
  rintro _ w ⟨f4, rfl, a⟩
  refine ⟨_, rfl, ?_⟩
  refine Dn [] [0] [3] (Rn (yS rfl (lbs_ [.bool g.1, D.v] ST_31 (eh x) a R6) QSn) ?_)
  refine Lc1 rfl ?_
  replace a := a.fz
  refine Lk wn (yCall FN_111 (a2 e0 e0)) (sparseref01_Add_ok d8 F1 F0 a) ?_
  rintro _ w ⟨N, rfl, a⟩
  refine ⟨_, rfl, ?_⟩
  refine Dn [] [] [4] (Rn QSn ?_)
  refine Lc1 rfl ?_
  replace a := a.k1s
  refine LT wn (r_stbn (vals' := [.bool J.1, N.v]) (us := [.bool J.1, N.v]) a ST_31 (eh x) e0 rfl rfl (one_of rfl) rfl) fun w a => Dz [] [] (Rn QSn (d6 _ _ (sR fun _ d9 => yY (yFb FL_31_0 (eh a6)) (yY (lb_ (.bool l.1) O_4 e0 a R2) (wK d9 ?_)))))
  have b2 : ∀ (V : Bool) (W : LI) (X : Hdr) (f : FV) w, f 4 = (pB A) → f 5 = (pB B) → f 8 = (pB s) → f 9 = (pB u) → St w0 ros (box A 31 [.bool false, hnil.v] :: box B 31 [.bool false, hnil.v] :: row 103 (rI .u32) X.v W :: box s 31 [.bool V, X.v] :: row 103 (rI .u32) N.v J.2 :: box u 31 [.bool J.1, N.v] :: rs) w → sparseref01_DivMod_j4 J V W = some out → a7 .normal (fr 50 f) w := by
   intro V W X f w e1 e2 e3 e4 a b
   replace a := (a.k14).fz
   exact a8 _ _ _ _ _ _ _ _ e1 e2 e3 e4 a b
  refine cB e0 b (fun e5 b => ?_) fun e5 b => ?_
  ·refine bE b fun f5 e6 b => bE b fun b3 e7 b => dR [0, 0, 3, 7] [1, 2, 3] 3 folM ?_
   replace a := a.drew
   refine Dn [0] [] [1] (yR rfl (lbs_ [.bool d.1, t.v] ST_31 (eh o) a R6) (Rn QSn ?_))
   refine Lc1 rfl ?_
   refine Lk wn (yCall FN_84 (a1 rfl)) (sparseref01_FromInt_ok e6 a) ?_
   rintro _ w ⟨f6, rfl, a⟩
   refine ⟨_, rfl, ?_⟩
   refine Dn [] [0] [2] (Rn (yS rfl (lbs_ [.bool d.1, t.v] ST_31 (eh o) a R7) QSn) ?_)
   refine Lc1 rfl ?_
   replace a := ((a.k1s).fz).fz
   refine Lk wn (yCall FN_111 (a2 e0 e0)) (sparseref01_Add_ok e7 F1 F0 a) ?_
   rintro _ w ⟨b4, rfl, a⟩
   refine ⟨_, rfl, ?_⟩
   refine Dn [] [] [3] (Rn QSn ?_)
   refine Lc1 rfl ?_
   replace a := a.k1s
   exact LT wn (r_stbn (vals' := [.bool b3.1, b4.v]) (us := [.bool b3.1, b4.v]) a ST_31 (eh o) e0 rfl rfl (one_of rfl) rfl) fun w a => Dz [] [] (Rn QSn (b2 _ _ _ _ _ R S o x ((a.k24).facts (allT (allT (allT (allT (allT allI)))))) b))
  ·refine bE b fun f7 e8 b => bE b fun b5 e9 b => dR [0, 0, 3, 7] [1, 2, 3] 3 folM ?_
   replace a := a.drew
   refine Dn [0] [] [1] (yR rfl (lbs_ [.bool d.1, t.v] ST_31 (eh o) a R6) (Rn QSn ?_))
   refine Lc1 rfl ?_
   refine Lk wn (yCall FN_84 (a1 rfl)) (sparseref01_FromInt_ok e8 a) ?_
   rintro _ w ⟨f8, rfl, a⟩
   refine ⟨_, rfl, ?_⟩
   refine Dn [] [0] [2] (Rn (yS rfl (lbs_ [.bool d.1, t.v] ST_31 (eh o) a R7) QSn) ?_)
   refine Lc1 rfl ?_
   replace a := ((a.k1s).fz).fz
   refine Lk wn (yCall FN_105 (a2 e0 e0)) (sparseref01_Sub_ok e9 F1 F0 a) ?_
   rintro _ w ⟨b6, rfl, a⟩
   refine ⟨_, rfl, ?_⟩
   refine Dn [] [] [3] (Rn QSn ?_)
   refine Lc1 rfl ?_
   replace a := a.k1s
   exact LT wn (r_stbn (vals' := [.bool b5.1, b6.v]) (us := [.bool b5.1, b6.v]) a ST_31 (eh o) e0 rfl rfl (one_of rfl) rfl) fun w a => Dz [] [] (Rn QSn (b2 _ _ _ _ _ R S o x ((a.k24).facts (allT (allT (allT (allT (allT allI)))))) b))
 ·exact wp_skip (a8 _ _ _ _ _ _ _ _ R S o x ((a.k25).facts (allC F0 (allT (allT allI)))) b)
theorem sparseref01_GCD_ok {q : Bool} {W : LI} {i : Bool} {X : LI} {r j : Hdr} {out : Bool × LI} (A : sparseref01_GCD q W i X = some out) (F : imm (rI .u32) r.v W ∈ ros) (m : imm (rI .u32) j.v X ∈ ros) (b : St w0 ros rs w) :
  Calls Tryz.prog 88 #[.agg #[.bool q, r.v], .agg #[.bool i, j.v]] w (fun e w => ∃ (Z : Hdr), e = .returned (.agg #[.bool out.1, Z.v]) ∧ St w0 (imm (rI .u32) Z.v out.2 :: ros) rs w) := by
 refine enterQ Tryz.func88 rfl Tryz.ntmps88 rfl fun Q a4 => sR fun _ a5 => yBb (r_box (vals := [.bool q, r.v]) b e0 rfl) fun d1 w b => yBb (r_box (vals := [.bool i, j.v]) b e0 rfl) fun d2 w b => yBb (rAl b ZT_31) fun C w b => wK a5 (sQ fun _ a6 => bE A fun g G A => bE A fun h o A => ?_)
 refine joinN (n := 25) (fun f w => ∃ (B : Nat) (O : Hdr) (H : Nat) (R : Hdr), f 4 = (pB C) ∧ f 5 = (pB B) ∧ f 6 = (pB H) ∧ St w0 ros (box C 31 [.bool false, hnil.v] :: row 103 (rI .u32) O.v g.2 :: box B 31 [.bool g.1, O.v] :: row 103 (rI .u32) R.v h.2 :: box H 31 [.bool h.1, R.v] :: rs) w) (fun k => ?_) ?_
 ·refine dR [0, 1, 0, 7, 0, 0, 63, 127] [1, 3, 4, 5, 6, 7] 6 folM ?_
  replace b := b.drew
  refine Dn [0, 2] [] [1, 4, 5] (yR rfl (lbs_ [.bool q, r.v] ST_31 e0 b R2) (yR rfl (lbs_ [.bool i, j.v] ST_31 e0 b R1) (Rn QSn ?_)))
  refine Lc rfl ?_ (Lc rfl ?_ (Lc1 rfl ?_))
  ·refine Lk wn (yCall FN_72 (a1 e0)) (sparseref01_Abs_ok G F b) ?_
   rintro _ w ⟨d, rfl, b⟩
   refine ⟨_, rfl, ?_⟩
   refine Dn [] [2] [3, 4, 5] (Rn (yS rfl (lbs_ [.bool i, j.v] ST_31 e0 b R2) QSn) ?_)
   refine Lc rfl ?_ (Lc rfl ?_ (Lc1 rfl ?_))
   ·refine Lk wn (yCall FN_72 (a1 e0)) (sparseref01_Abs_ok o m b) ?_
    rintro _ w ⟨c, rfl, b⟩
    refine ⟨_, rfl, ?_⟩
    refine Dn [] [] [4, 5] (Rn QSn ?_)
    refine Lc rfl ?_ (Lc1 rfl ?_)
    ·refine LB wn (rAl b ZT_31) fun t w b => Dn [] [] [5] (Rn QSn ?_)
     refine Lc1 rfl ?_
     refine LB wn (rAl b ZT_31) fun u w b => Dn [] [] [6] (Rn QSn ?_)
     refine Lc1 rfl ?_
     replace b := b.k17
     refine LT wn (r_stbn (vals' := [.bool g.1, d.v]) (us := [.bool g.1, d.v]) b ST_31 e0 e0 rfl rfl (one_of rfl) rfl) fun w b => Dn [] [] [7] (Rn QSn ?_)
     refine Lc1 rfl ?_
     replace b := b.k17
     exact LT wn (r_stbn (vals' := [.bool h.1, c.v]) (us := [.bool h.1, c.v]) b ST_31 e0 e0 rfl rfl (one_of rfl) rfl) fun w b => Dz [] [] (Rn QSn (k _ _ ⟨_, _, _, _, rfl, rfl, rfl, (b.k26)⟩))
    ·refine LB wn (rAl b ZT_31) fun u w b => Dn [] [] [4] (Rn QSn ?_)
     refine Lc1 rfl ?_
     refine LB wn (rAl b ZT_31) fun t w b => Dn [] [] [6] (Rn QSn ?_)
     refine Lc1 rfl ?_
     refine LT wn (r_stbn (vals' := [.bool g.1, d.v]) (us := [.bool g.1, d.v]) b ST_31 e0 e0 rfl rfl (one_of rfl) rfl) fun w b => Dn [] [] [7] (Rn QSn ?_)
     refine Lc1 rfl ?_
     replace b := b.k17
     exact LT wn (r_stbn (vals' := [.bool h.1, c.v]) (us := [.bool h.1, c.v]) b ST_31 e0 e0 rfl rfl (one_of rfl) rfl) fun w b => Dz [] [] (Rn QSn (k _ _ ⟨_, _, _, _, rfl, rfl, rfl, (b.k26)⟩))
   ·refine LB wn (rAl b ZT_31) fun t w b => Dn [] [2] [3, 5] (Rn (yS rfl (lbs_ [.bool i, j.v] ST_31 e0 b R3) QSn) ?_)
    refine Lc rfl ?_ (Lc1 rfl ?_)
    ·refine Lk wn (yCall FN_72 (a1 e0)) (sparseref01_Abs_ok o m b) ?_
     rintro _ w ⟨c, rfl, b⟩
     refine ⟨_, rfl, ?_⟩
     refine Dn [] [] [5] (Rn QSn ?_)
     refine Lc1 rfl ?_
     refine LB wn (rAl b ZT_31) fun u w b => Dn [] [] [6] (Rn QSn ?_)
     refine Lc1 rfl ?_
     replace b := b.k19
     refine LT wn (r_stbn (vals' := [.bool g.1, d.v]) (us := [.bool g.1, d.v]) b ST_31 e0 e0 rfl rfl (one_of rfl) rfl) fun w b => Dn [] [] [7] (Rn QSn ?_)
     refine Lc1 rfl ?_
     replace b := b.k17
     exact LT wn (r_stbn (vals' := [.bool h.1, c.v]) (us := [.bool h.1, c.v]) b ST_31 e0 e0 rfl rfl (one_of rfl) rfl) fun w b => Dz [] [] (Rn QSn (k _ _ ⟨_, _, _, _, rfl, rfl, rfl, (b.k26)⟩))
    ·refine LB wn (rAl b ZT_31) fun u w b => Dn [] [2] [3] (Rn (yS rfl (lbs_ [.bool i, j.v] ST_31 e0 b R4) QSn) ?_)
     refine Lc1 rfl ?_
     refine Lk wn (yCall FN_72 (a1 e0)) (sparseref01_Abs_ok o m b) ?_
     rintro _ w ⟨c, rfl, b⟩
     refine ⟨_, rfl, ?_⟩
     refine Dn [] [] [6] (Rn QSn ?_)
     refine Lc1 rfl ?_
     replace b := b.k19
     refine LT wn (r_stbn (vals' := [.bool g.1, d.v]) (us := [.bool g.1, d.v]) b ST_31 e0 e0 rfl rfl (one_of rfl) rfl) fun w b => Dn [] [] [7] (Rn QSn ?_)
     refine Lc1 rfl ?_
     replace b := b.k19
     exact LT wn (r_stbn (vals' := [.bool h.1, c.v]) (us := [.bool h.1, c.v]) b ST_31 e0 e0 rfl rfl (one_of rfl) rfl) fun w b => Dz [] [] (Rn QSn (k _ _ ⟨_, _, _, _, rfl, rfl, rfl, (b.k26)⟩))
   ·refine LB wn (rAl b ZT_31) fun u w b => Dn [] [2] [3, 4] (Rn (yS rfl (lbs_ [.bool i, j.v] ST_31 e0 b R3) QSn) ?_)
    refine Lc rfl ?_ (Lc1 rfl ?_)
    ·refine Lk wn (yCall FN_72 (a1 e0)) (sparseref01_Abs_ok o m b) ?_
     rintro _ w ⟨c, rfl, b⟩
     refine ⟨_, rfl, ?_⟩
     refine Dn [] [] [4] (Rn QSn ?_)
     refine Lc1 rfl ?_
     refine LB wn (rAl b ZT_31) fun t w b => Dn [] [] [6] (Rn QSn ?_)
     refine Lc1 rfl ?_
     refine LT wn (r_stbn (vals' := [.bool g.1, d.v]) (us := [.bool g.1, d.v]) b ST_31 e0 e0 rfl rfl (one_of rfl) rfl) fun w b => Dn [] [] [7] (Rn QSn ?_)
     refine Lc1 rfl ?_
     replace b := b.k19
     exact LT wn (r_stbn (vals' := [.bool h.1, c.v]) (us := [.bool h.1, c.v]) b ST_31 e0 e0 rfl rfl (one_of rfl) rfl) fun w b => Dz [] [] (Rn QSn (k _ _ ⟨_, _, _, _, rfl, rfl, rfl, (b.k26)⟩))
    ·refine LB wn (rAl b ZT_31) fun t w b => Dn [] [2] [3] (Rn (yS rfl (lbs_ [.bool i, j.v] ST_31 e0 b R4) QSn) ?_)
     refine Lc1 rfl ?_
     refine Lk wn (yCall FN_72 (a1 e0)) (sparseref01_Abs_ok o m b) ?_
     rintro _ w ⟨c, rfl, b⟩
     refine ⟨_, rfl, ?_⟩
     refine Dn [] [] [6] (Rn QSn ?_)
     refine Lc1 rfl ?_
     replace b := b.k17
     refine LT wn (r_stbn (vals' := [.bool g.1, d.v]) (us := [.bool g.1, d.v]) b ST_31 e0 e0 rfl rfl (one_of rfl) rfl) fun w b => Dn [] [] [7] (Rn QSn ?_)
     refine Lc1 rfl ?_
     replace b := b.k19
     exact LT wn (r_stbn (vals' := [.bool h.1, c.v]) (us := [.bool h.1, c.v]) b ST_31 e0 e0 rfl rfl (one_of rfl) rfl) fun w b => Dz [] [] (Rn QSn (k _ _ ⟨_, _, _, _, rfl, rfl, rfl, (b.k26)⟩))
  ·refine LB wn (rAl b ZT_31) fun t w b => Dn [] [0, 2] [1, 5] (Rn (yS rfl (lbs_ [.bool q, r.v] ST_31 e0 b R3) (yS rfl (lbs_ [.bool i, j.v] ST_31 e0 b R2) QSn)) ?_)
   refine Lc rfl ?_ (Lc1 rfl ?_)
   ·refine Lk wn (yCall FN_72 (a1 e0)) (sparseref01_Abs_ok G F b) ?_
    rintro _ w ⟨d, rfl, b⟩
    refine ⟨_, rfl, ?_⟩
    refine Dn [] [2] [3, 5] (Rn (yS rfl (lbs_ [.bool i, j.v] ST_31 e0 b R3) QSn) ?_)
    refine Lc rfl ?_ (Lc1 rfl ?_)
    ·refine Lk wn (yCall FN_72 (a1 e0)) (sparseref01_Abs_ok o m b) ?_
     rintro _ w ⟨c, rfl, b⟩
     refine ⟨_, rfl, ?_⟩
     refine Dn [] [] [5] (Rn QSn ?_)
     refine Lc1 rfl ?_
     refine LB wn (rAl b ZT_31) fun u w b => Dn [] [] [6] (Rn QSn ?_)
     refine Lc1 rfl ?_
     replace b := b.k13
     refine LT wn (r_stbn (vals' := [.bool g.1, d.v]) (us := [.bool g.1, d.v]) b ST_31 e0 e0 rfl rfl (one_of rfl) rfl) fun w b => Dn [] [] [7] (Rn QSn ?_)
     refine Lc1 rfl ?_
     replace b := b.k17
     exact LT wn (r_stbn (vals' := [.bool h.1, c.v]) (us := [.bool h.1, c.v]) b ST_31 e0 e0 rfl rfl (one_of rfl) rfl) fun w b => Dz [] [] (Rn QSn (k _ _ ⟨_, _, _, _, rfl, rfl, rfl, (b.k26)⟩))
    ·refine LB wn (rAl b ZT_31) fun u w b => Dn [] [2] [3] (Rn (yS rfl (lbs_ [.bool i, j.v] ST_31 e0 b R4) QSn) ?_)
     refine Lc1 rfl ?_
     refine Lk wn (yCall FN_72 (a1 e0)) (sparseref01_Abs_ok o m b) ?_
     rintro _ w ⟨c, rfl, b⟩
     refine ⟨_, rfl, ?_⟩
     refine Dn [] [] [6] (Rn QSn ?_)
     refine Lc1 rfl ?_
     replace b := b.k13
     refine LT wn (r_stbn (vals' := [.bool g.1, d.v]) (us := [.bool g.1, d.v]) b ST_31 e0 e0 rfl rfl (one_of rfl) rfl) fun w b => Dn [] [] [7] (Rn QSn ?_)
     refine Lc1 rfl ?_
     replace b := b.k19
     exact LT wn (r_stbn (vals' := [.bool h.1, c.v]) (us := [.bool h.1, c.v]) b ST_31 e0 e0 rfl rfl (one_of rfl) rfl) fun w b => Dz [] [] (Rn QSn (k _ _ ⟨_, _, _, _, rfl, rfl, rfl, (b.k26)⟩))
   ·refine LB wn (rAl b ZT_31) fun u w b => Dn [] [0, 2] [1] (Rn (yS rfl (lbs_ [.bool q, r.v] ST_31 e0 b R4) (yS rfl (lbs_ [.bool i, j.v] ST_31 e0 b R3) QSn)) ?_)
    refine Lc1 rfl ?_
    refine Lk wn (yCall FN_72 (a1 e0)) (sparseref01_Abs_ok G F b) ?_
    rintro _ w ⟨d, rfl, b⟩
    refine ⟨_, rfl, ?_⟩
    refine Dn [] [2] [3] (Rn (yS rfl (lbs_ [.bool i, j.v] ST_31 e0 b R4) QSn) ?_)
    refine Lc1 rfl ?_
    refine Lk wn (yCall FN_72 (a1 e0)) (sparseref01_Abs_ok o m b) ?_
    rintro _ w ⟨c, rfl, b⟩
    refine ⟨_, rfl, ?_⟩
    refine Dn [] [] [6] (Rn QSn ?_)
    refine Lc1 rfl ?_
    replace b := b.k13
    refine LT wn (r_stbn (vals' := [.bool g.1, d.v]) (us := [.bool g.1, d.v]) b ST_31 e0 e0 rfl rfl (one_of rfl) rfl) fun w b => Dn [] [] [7] (Rn QSn ?_)
    refine Lc1 rfl ?_
    replace b := b.k13
    exact LT wn (r_stbn (vals' := [.bool h.1, c.v]) (us := [.bool h.1, c.v]) b ST_31 e0 e0 rfl rfl (one_of rfl) rfl) fun w b => Dz [] [] (Rn QSn (k _ _ ⟨_, _, _, _, rfl, rfl, rfl, (b.k26)⟩))
  ·refine LB wn (rAl b ZT_31) fun u w b => Dn [] [0, 2] [1, 4] (Rn (yS rfl (lbs_ [.bool q, r.v] ST_31 e0 b R3) (yS rfl (lbs_ [.bool i, j.v] ST_31 e0 b R2) QSn)) ?_)
   refine Lc rfl ?_ (Lc1 rfl ?_)
   ·refine Lk wn (yCall FN_72 (a1 e0)) (sparseref01_Abs_ok G F b) ?_
    rintro _ w ⟨d, rfl, b⟩
    refine ⟨_, rfl, ?_⟩
    refine Dn [] [2] [3, 4] (Rn (yS rfl (lbs_ [.bool i, j.v] ST_31 e0 b R3) QSn) ?_)
    refine Lc rfl ?_ (Lc1 rfl ?_)
    ·refine Lk wn (yCall FN_72 (a1 e0)) (sparseref01_Abs_ok o m b) ?_
     rintro _ w ⟨c, rfl, b⟩
     refine ⟨_, rfl, ?_⟩
     refine Dn [] [] [4] (Rn QSn ?_)
     refine Lc1 rfl ?_
     refine LB wn (rAl b ZT_31) fun t w b => Dn [] [] [6] (Rn QSn ?_)
     refine Lc1 rfl ?_
     refine LT wn (r_stbn (vals' := [.bool g.1, d.v]) (us := [.bool g.1, d.v]) b ST_31 e0 e0 rfl rfl (one_of rfl) rfl) fun w b => Dn [] [] [7] (Rn QSn ?_)
     refine Lc1 rfl ?_
     replace b := b.k13
     exact LT wn (r_stbn (vals' := [.bool h.1, c.v]) (us := [.bool h.1, c.v]) b ST_31 e0 e0 rfl rfl (one_of rfl) rfl) fun w b => Dz [] [] (Rn QSn (k _ _ ⟨_, _, _, _, rfl, rfl, rfl, (b.k26)⟩))
    ·refine LB wn (rAl b ZT_31) fun t w b => Dn [] [2] [3] (Rn (yS rfl (lbs_ [.bool i, j.v] ST_31 e0 b R4) QSn) ?_)
     refine Lc1 rfl ?_
     refine Lk wn (yCall FN_72 (a1 e0)) (sparseref01_Abs_ok o m b) ?_
     rintro _ w ⟨c, rfl, b⟩
     refine ⟨_, rfl, ?_⟩
     refine Dn [] [] [6] (Rn QSn ?_)
     refine Lc1 rfl ?_
     replace b := b.k17
     refine LT wn (r_stbn (vals' := [.bool g.1, d.v]) (us := [.bool g.1, d.v]) b ST_31 e0 e0 rfl rfl (one_of rfl) rfl) fun w b => Dn [] [] [7] (Rn QSn ?_)
     refine Lc1 rfl ?_
     replace b := b.k13
     exact LT wn (r_stbn (vals' := [.bool h.1, c.v]) (us := [.bool h.1, c.v]) b ST_31 e0 e0 rfl rfl (one_of rfl) rfl) fun w b => Dz [] [] (Rn QSn (k _ _ ⟨_, _, _, _, rfl, rfl, rfl, (b.k26)⟩))
   ·refine LB wn (rAl b ZT_31) fun t w b => Dn [] [0, 2] [1] (Rn (yS rfl (lbs_ [.bool q, r.v] ST_31 e0 b R4) (yS rfl (lbs_ [.bool i, j.v] ST_31 e0 b R3) QSn)) ?_)
    refine Lc1 rfl ?_
    refine Lk wn (yCall FN_72 (a1 e0)) (sparseref01_Abs_ok G F b) ?_
    rintro _ w ⟨d, rfl, b⟩
    refine ⟨_, rfl, ?_⟩
    refine Dn [] [2] [3] (Rn (yS rfl (lbs_ [.bool i, j.v] ST_31 e0 b R4) QSn) ?_)
    refine Lc1 rfl ?_
    refine Lk wn (yCall FN_72 (a1 e0)) (sparseref01_Abs_ok o m b) ?_
    rintro _ w ⟨c, rfl, b⟩
    refine ⟨_, rfl, ?_⟩
    refine Dn [] [] [6] (Rn QSn ?_)
    refine Lc1 rfl ?_
    replace b := b.k19
    refine LT wn (r_stbn (vals' := [.bool g.1, d.v]) (us := [.bool g.1, d.v]) b ST_31 e0 e0 rfl rfl (one_of rfl) rfl) fun w b => Dn [] [] [7] (Rn QSn ?_)
    refine Lc1 rfl ?_
    replace b := b.k13
    exact LT wn (r_stbn (vals' := [.bool h.1, c.v]) (us := [.bool h.1, c.v]) b ST_31 e0 e0 rfl rfl (one_of rfl) rfl) fun w b => Dz [] [] (Rn QSn (k _ _ ⟨_, _, _, _, rfl, rfl, rfl, (b.k26)⟩))
 rintro f w ⟨B, O, H, R, a7, a8, a9, b⟩
 refine a6 _ _ (sQ fun _ b0 => blockQ fun b1 b2 => bE A fun b3 b4 A => ?_)
 have b5 : ∀ (D : Bool) (S : LI) (E : Hdr) (f : FV) w, f 4 = (pB C) → f 5 = (pB B) → St w0 (imm (rI .u32) E.v S :: ros) (box C 31 [.bool false, hnil.v] :: box B 31 [.bool D, E.v] :: rs) w → (D, S) = b3 → b1 (.exit 0) (fr 25 f) w := by
  intro D S E f w a0 b6 b ho
  subst ho
  refine b2 _ _ _ (b0 _ _ (sR fun _ c0 => yY (lbs_ [.bool D, E.v] ST_31 (eh b6) b R1) (yT (r_stbn (vals' := [.bool D, E.v]) (us := [.bool D, E.v]) b ST_31 (eh a0) e0 rfl rfl (one_of rfl) rfl) fun w b => wK c0 (wp_ret ?_))))
  cases A
  exact a4 _ _ _ (fin1r Tryz.results88 (rcs2 rfl a0 b R0 ST_31 rfl) ⟨_, rfl, (b.k1c)⟩)
 replace b := (((b.k17).fz).k19).fz
 refine loopQ (fun s a w => ∃ (J : Bool) (T : LI) (x : Bool) (U : LI) (f : FV) (K y : Hdr), (J, T, x, U) = s ∧ a = fr 25 f ∧ f 4 = (pB C) ∧ f 5 = (pB B) ∧ f 6 = (pB H) ∧ St w0 (imm (rI .u32) K.v T :: imm (rI .u32) y.v U :: ros) (box C 31 [.bool false, hnil.v] :: box B 31 [.bool J, K.v] :: box H 31 [.bool x, y.v] :: rs) w) b4 ⟨_, _, _, _, _, _, _, rfl, rfl, a7, a8, a9, (b.facts (allC F1 (allC F0 (allT (allT allI)))))⟩ ?_
 rintro _ _ w d3 ⟨J, T, x, U, f, K, y, rfl, rfl, a3, L, I, b⟩ p c1 d4 c2 c3
 refine seqQ fun d5 c4 c5 => sR fun _ c6 => yY (lbs_ [.bool x, y.v] ST_31 (eh I) b R2) (bE p fun d6 c7 p => yC (yCall FN_34 (a1 e0)) (sparseref01_Sign_ok c7 F1 b) ?_)
 rintro _ w ⟨rfl, b⟩
 refine ⟨_, rfl, ?_⟩
 refine yY (yneq e0 rfl) (wK c6 ?_)
 rcases iteS p with ⟨V, p⟩ | ⟨V, p⟩
 ·refine condF e0 (nF (dT V)) (wp_exit (c5 _ _ _ rfl ?_))
  cases p
  exact c3 _ _ _ _ rfl rfl (b5 _ _ _ _ _ a3 L ((b.k27).facts (allC F0 (allT (allT allI)))) (c1 _ rfl))
 ·refine condT e0 (nT (dF V)) (wp_skip (c4 _ _ (blockQ fun _ c8 => sR fun _ c9 => yY (lbs_ [.bool J, K.v] ST_31 (eh L) b R1) (yY (lbs_ [.bool x, y.v] ST_31 (eh I) b R2) (bE p fun l d0 p => yC (yCall FN_117 (a2 e0 e0)) (sparseref01_DivMod_ok d0 F0 F1 b) ?_)))))
  rintro _ w ⟨N, z, rfl, b⟩
  refine ⟨_, rfl, ?_⟩
  refine Ym (.tuple #[.agg #[.bool l.1, N.v], .agg #[.bool l.2.2.1, z.v]]) e0 (yY (x_ (.agg #[.bool l.1, N.v]) e0) (yY (x_ (.agg #[.bool l.2.2.1, z.v]) e0) (yBb (rAl b ZT_31) fun d7 w b => yBb (rAl b ZT_31) fun d8 w b => yT (r_stbn (vals' := [.bool l.1, N.v]) (us := [.bool l.1, N.v]) (b.k17) ST_31 e0 e0 rfl rfl (one_of rfl) rfl) fun w b => yT (r_stbn (vals' := [.bool l.2.2.1, z.v]) (us := [.bool l.2.2.1, z.v]) (b.k17) ST_31 e0 e0 rfl rfl (one_of rfl) rfl) fun w b => wK c9 (dR [0, 0, 1, 7] [2, 3] 2 folM ?_))))
  replace b := b.drew
  refine Dn [0, 1] [] [2] (yR rfl (lbs_ [.bool x, y.v] ST_31 (eh I) b R5) (yR rfl (lbs_ [.bool l.2.2.1, z.v] ST_31 e0 b R0) (Rn QSn ?_)))
  refine Lc1 rfl ?_
  replace b := b.k14
  refine LT wn (r_stbn (vals' := [.bool x, y.v]) (us := [.bool x, y.v]) b ST_31 (eh L) e0 rfl rfl (one_of rfl) rfl) fun w b => Dn [] [1] [3] (Rn (yS rfl (lbs_ [.bool l.2.2.1, z.v] ST_31 e0 b R1) QSn) ?_)
  refine Lc1 rfl ?_
  replace b := b.k1p
  refine LT wn (r_stbn (vals' := [.bool l.2.2.1, z.v]) (us := [.bool l.2.2.1, z.v]) b ST_31 (eh I) e0 rfl rfl (one_of rfl) rfl) fun w b => Dz [] [] (Rn QSn (c8 _ _ _ ?_))
  cases p
  exact c2 _ _ _ rfl ⟨_, _, _, _, _, _, _, rfl, rfl, a3, L, I, ((b.k28).facts (allC F2 (allC F0 (allT (allT (allT allI))))))⟩
theorem sparseref01_Quo_ok {g : Bool} {l : LI} {h : Bool} {m : LI} {i j : Hdr} {out : Bool × LI × Bool} (c : sparseref01_Quo g l h m = some out) (p : imm (rI .u32) i.v l ∈ ros) (q : imm (rI .u32) j.v m ∈ ros) (a : St w0 ros rs w) :
  Calls Tryz.prog 87 #[.agg #[.bool g, i.v], .agg #[.bool h, j.v]] w (fun e w => ∃ (n : Hdr), e = .returned (.tuple #[.agg #[.bool out.1, n.v], .bool out.2.2]) ∧ St w0 ros (row 103 (rI .u32) n.v out.2.1 :: rs) w) := by
 refine enterQ Tryz.func87 rfl Tryz.ntmps87 rfl fun Q o => sR fun _ r => yBb (r_box (vals := [.bool g, i.v]) a e0 rfl) fun C w a => yBb (r_box (vals := [.bool h, j.v]) a e0 rfl) fun D w a => yBb (rAl a ZT_31) fun E w a => Ya (.bool false) rfl (wK r (sR fun _ s => ?_))
 refine yY (lbs_ [.bool g, i.v] ST_31 e0 a R2) (yY (lbs_ [.bool h, j.v] ST_31 e0 a R1) (bE c fun b t c => yC (yCall FN_117 (a2 e0 e0)) (sparseref01_DivMod_ok t p q a) ?_))
 rintro _ w ⟨d, f, rfl, a⟩
 refine ⟨_, rfl, ?_⟩
 refine Ym (.tuple #[.agg #[.bool b.1, d.v], .agg #[.bool b.2.2.1, f.v]]) e0 (yY (x_ (.agg #[.bool b.1, d.v]) e0) (yY (x_ (.agg #[.bool b.2.2.1, f.v]) e0) (yBb (rAl a ZT_31) fun F w a => yBb (rAl a ZT_31) fun G w a => yT (r_stbn (vals' := [.bool b.1, d.v]) (us := [.bool b.1, d.v]) (a.k17) ST_31 e0 e0 rfl rfl (one_of rfl) rfl) fun w a => yT (r_stbn (vals' := [.bool b.2.2.1, f.v]) (us := [.bool b.2.2.1, f.v]) (a.k17) ST_31 e0 e0 rfl rfl (one_of rfl) rfl) fun w a => wK s (seqQ fun H u x => ?_))))
 refine sR fun _ y => yY (lbs_ [.bool b.2.2.1, f.v] ST_31 e0 a R0) (bE c fun I z c => yC (yCall FN_34 (a1 e0)) (sparseref01_Sign_ok z F0 a) ?_)
 rintro _ w ⟨rfl, a⟩
 refine ⟨_, rfl, ?_⟩
 refine yY (yneq e0 rfl) (wK y ?_)
 rcases iteS c with ⟨k, c⟩ | ⟨k, c⟩
 ·refine condF e0 (nF (dT k)) (wp_skip (u _ _ (sR fun _ A => yY (lbs_ [.bool b.1, d.v] ST_31 e0 a R1) (yT (r_stbn (vals' := [.bool b.1, d.v]) (us := [.bool b.1, d.v]) (a.k13) ST_31 e0 e0 rfl rfl (one_of rfl) rfl) fun w a => Ya (.bool true) rfl (wK A (wp_ret ?_))))))
  cases c
  exact o _ _ _ (fin2r Tryz.results87 (rcs2 rfl rfl a R0 ST_31 rfl) ⟨rfl, rfl⟩ ⟨_, rfl, ((a.k29).facts (allT allI))⟩)
 ·refine condT e0 (nT (dF k)) (sR fun _ B => yY (ybuild (us := [.bool false, hnil.v]) [] SO_31 bp0 rfl) (yT (r_stbn (vals' := [.bool false, hnil.v]) (us := [.bool false, hnil.v]) (a.k13) ST_31 e0 e0 rfl rfl (one_of rfl) rfl) fun w a => Ya (.bool false) rfl (wK B (wp_ret (x _ _ _ rfl ?_)))))
  cases c
  replace a := a.rowNh 103 (rI .u32)
  exact o _ _ _ (fin2r Tryz.results87 (rcs2 rfl rfl a R1 ST_31 rfl) ⟨rfl, rfl⟩ ⟨_, rfl, ((a.k2a).facts (allT allI))⟩)
theorem sparseref08_frac_ok {j : Bool} {o : LI} {i : Bool} {p : LI} {l k : Hdr} {out : Bool × LI × Bool × LI} (b : sparseref08_frac j o i p = some out) (u : imm (rI .u32) l.v o ∈ ros) (q : imm (rI .u32) k.v p ∈ ros) (a : St w0 ros rs w) :
  Calls Tryz.prog 85 #[.agg #[.bool j, l.v], .agg #[.bool i, k.v]] w (fun e w => ∃ (x y : Hdr), e = .returned (.agg #[.bool out.1, x.v, .bool out.2.2.1, y.v]) ∧ St w0 ros (row 103 (rI .u32) x.v out.2.1 :: row 103 (rI .u32) y.v out.2.2.2 :: rs) w) := by
 refine enterQ Tryz.func85 rfl Tryz.ntmps85 rfl fun Q I => sR fun _ J => yBb (r_box (vals := [.bool j, l.v]) a e0 rfl) fun z w a => yBb (r_box (vals := [.bool i, k.v]) a e0 rfl) fun A w a => yBb (rAl a ZT_80) fun B w a => wK J (sR fun _ K => yY (lbs_ [.bool j, l.v] ST_31 e0 a R2) ?_)
 refine yY (lbs_ [.bool i, k.v] ST_31 e0 a R1) (bE b fun r L b => yC (yCall FN_88 (a2 e0 e0)) (sparseref01_GCD_ok L u q a) ?_)
 rintro _ w ⟨s, rfl, a⟩
 refine ⟨_, rfl, ?_⟩
 refine yBb (rAl a ZT_31) fun C w a => yT (r_stbn (vals' := [.bool r.1, s.v]) (us := [.bool r.1, s.v]) a ST_31 e0 e0 rfl rfl (one_of rfl) rfl) fun w a => wK K (sQ fun N O => sR fun _ R => yY (lbs_ [.bool i, k.v] ST_31 e0 a R2) (bE b fun a5 S b => yC (yCall FN_34 (a1 e0)) (sparseref01_Sign_ok S (mtF q) a) ?_))
 rintro _ w ⟨rfl, a⟩
 refine ⟨_, rfl, ?_⟩
 refine yY (ylss e0 rfl) (wK R ?_)
 have D : ∀ (m : Bool) (t : LI) (n : Hdr) (f : FV) w, f 2 = (pB z) → f 3 = (pB A) → f 4 = (pB B) → f 5 = (pB C) → St w0 (imm (rI .u32) n.v t :: ros) (box z 31 [.bool j, l.v] :: box A 31 [.bool i, k.v] :: box B 80 [.bool false, hnil.v, .bool false, hnil.v] :: box C 31 [.bool m, n.v] :: rs) w → sparseref08_frac_j1 j o i p m t = some out → N .normal (fr 33 f) w := by
  intro m t n f w T U E F a b
  refine O _ _ (sR fun _ V => yY (lbs_ [.bool j, l.v] ST_31 (eh T) a R0) (yY (lbs_ [.bool m, n.v] ST_31 (eh F) a R3) (bE b fun c W b => yC (yCall FN_87 (a2 e0 e0)) (sparseref01_Quo_ok W (mtF u) F0 a) ?_)))
  rintro _ w ⟨g, rfl, a⟩
  refine ⟨_, rfl, ?_⟩
  refine Ym (.tuple #[.agg #[.bool c.1, g.v], .bool c.2.2]) e0 (yY (x_ (.agg #[.bool c.1, g.v]) e0) (yY (x_ (.bool c.2.2) e0) (yBb (rAl a ZT_31) fun a6 w a => yT (r_stbn (vals' := [.bool c.1, g.v]) (us := [.bool c.1, g.v]) a ST_31 e0 e0 rfl rfl (one_of rfl) rfl) fun w a => Ya (.bool c.2.2) e0 (wK V (sR fun _ X => yY (lbs_ [.bool i, k.v] ST_31 (eh U) a R3) (yY (lbs_ [.bool m, n.v] ST_31 (eh F) a R5) ?_))))))
  refine bE b fun d Z b => yC (yCall FN_87 (a2 e0 e0)) (sparseref01_Quo_ok Z (mtF q) F0 a) ?_
  rintro _ w ⟨h, rfl, a⟩
  refine ⟨_, rfl, ?_⟩
  refine Ym (.tuple #[.agg #[.bool d.1, h.v], .bool d.2.2]) e0 (yY (x_ (.agg #[.bool d.1, h.v]) e0) (yY (x_ (.bool d.2.2) e0) (yBb (rAl a ZT_31) fun a7 w a => yT (r_stbn (vals' := [.bool d.1, h.v]) (us := [.bool d.1, h.v]) a ST_31 e0 e0 rfl rfl (one_of rfl) rfl) fun w a => Ya (.bool d.2.2) e0 (wK X (sR fun _ a0 => yY (lbs_ [.bool c.1, g.v] ST_31 e0 a R2) (yY (lbs_ [.bool d.1, h.v] ST_31 e0 a R0) ?_))))))
  refine yY (ybuild (us := [.bool c.1, g.v, .bool d.1, h.v]) [(0, .agg #[.bool c.1, g.v]), (1, .agg #[.bool d.1, h.v])] SO_80 (bp2 e0 e0) rfl) (yT (r_stbn (vals' := [.bool c.1, g.v, .bool d.1, h.v]) (us := [.bool c.1, g.v, .bool d.1, h.v]) (a.k1s) ST_80 (eh E) e0 rfl rfl (one_of rfl) rfl) fun w a => wK a0 (wp_ret ?_))
  cases b
  exact I _ _ _ (fin1r Tryz.results85 (rcs2 rfl E a R0 ST_80 rfl) ⟨_, _, rfl, ((a.k2b).facts (allT allI))⟩)
 refine cIf e0 b (fun a3 b => ?_) fun a3 b => ?_
 ·refine wR (yY (lbs_ [.bool r.1, s.v] ST_31 e0 a R0) (bE b fun G a4 b => yC (yCall FN_71 (a1 e0)) (sparseref01_Neg_ok a4 F0 a) ?_))
  rintro _ w ⟨H, rfl, a⟩
  refine ⟨_, rfl, ?_⟩
  refine yT (r_stbn (vals' := [.bool G.1, H.v]) (us := [.bool G.1, H.v]) (a.k17) ST_31 e0 e0 rfl rfl (one_of rfl) rfl) fun w a => wN ?_
  replace a := (a.k17).fz
  exact D _ _ _ _ _ rfl rfl rfl rfl ((a.k1l).facts (allC F0 (allT (allT allI)))) b
 ·exact wp_skip (D _ _ _ _ _ rfl rfl rfl rfl (a.k1l) b)
theorem sparseref08_minus_ok {z : Bool} {V : LI} {o : Bool} {W : LI} {A : Bool} {X : LI} {j : Bool} {Z : LI} {B : Bool} {a0 : LI} {k : Bool} {a1 : LI} {d : Bool} {a3 : LI} {q : Bool} {a4 : LI} {C p D l E m g r : Hdr} {out : Bool × LI × Bool × LI} (c : sparseref08_minus z V o W A X j Z B a0 k a1 d a3 q a4 = some out) (b7 : imm (rI .u32) C.v V ∈ ros) (a5 : imm (rI .u32) p.v W ∈ ros) (a6 : imm (rI .u32) D.v X ∈ ros) (J : imm (rI .u32) l.v Z ∈ ros) (a7 : imm (rI .u32) E.v a0 ∈ ros) (K : imm (rI .u32) m.v a1 ∈ ros) (F : imm (rI .u32) g.v a3 ∈ ros) (R : imm (rI .u32) r.v a4 ∈ ros) (a : St w0 ros rs w) :
  Calls Tryz.prog 58 #[.agg #[.bool z, C.v, .bool o, p.v], .agg #[.bool A, D.v, .bool j, l.v], .agg #[.bool B, E.v, .bool k, m.v], .agg #[.bool d, g.v, .bool q, r.v]] w (fun e w => ∃ (a8 a9 : Hdr), e = .returned (.agg #[.bool out.1, a8.v, .bool out.2.2.1, a9.v]) ∧ St w0 ros (row 103 (rI .u32) a8.v out.2.1 :: row 103 (rI .u32) a9.v out.2.2.2 :: rs) w) := by
 refine enterQ Tryz.func58 rfl Tryz.ntmps58 rfl fun Q b8 => sR fun _ b9 => yBb (r_box (vals := [.bool z, C.v, .bool o, p.v]) a e0 rfl) fun b0 w a => yBb (r_box (vals := [.bool A, D.v, .bool j, l.v]) a e0 rfl) fun c8 w a => yBb (r_box (vals := [.bool B, E.v, .bool k, m.v]) a e0 rfl) fun c9 w a => yBb (r_box (vals := [.bool d, g.v, .bool q, r.v]) a e0 rfl) fun d0 w a => yBb (rAl a ZT_80) fun b1 w a => wN ?_
 refine b9 _ _ (sQ fun _ c0 => bE c fun d1 b2 c => bE c fun d2 S c => bE c fun d3 L c => bE c fun d4 G c => bE c fun b x c => ?_)
 refine joinN (n := 44) (fun f w => ∃ (T : Nat) (H s : Hdr), f 4 = (pB b0) ∧ f 8 = (pB b1) ∧ f 9 = (pB T) ∧ St w0 ros (box b0 80 [.bool z, C.v, .bool o, p.v] :: box b1 80 [.bool false, hnil.v, .bool false, hnil.v] :: row 103 (rI .u32) H.v b.2.1 :: row 103 (rI .u32) s.v b.2.2.2 :: box T 80 [.bool b.1, H.v, .bool b.2.2.1, s.v] :: rs) w) (fun y => ?_) ?_
 ·refine dR [0, 1, 0, 4, 15, 0, 32, 127, 0, 256, 0, 1024, 4095, 0, 8192, 32767, 65535, 0, 262143] [4, 7, 12, 15, 16, 17, 18] 7 folM ?_
  replace a := a.drew
  refine Dn [0, 1, 2, 3, 5, 6, 8, 9, 10, 11, 13, 14] [] [4, 17] (yR rfl (yFb FL_80_0 e0) (yR rfl (lbs_ [.bool A, D.v] ST_31 e0 a R3) (yR rfl (yFb FL_80_0 e0) (yR rfl (lbs_ [.bool B, E.v] ST_31 e0 a R2) (yR rfl (yFb FL_80_1 e0) (yR rfl (lbs_ [.bool q, r.v] ST_31 e0 a R1) (yR rfl (yFb FL_80_1 e0) (yR rfl (lbs_ [.bool j, l.v] ST_31 e0 a R3) (yR rfl (yFb FL_80_1 e0) (yR rfl (lbs_ [.bool k, m.v] ST_31 e0 a R2) (yR rfl (yFb FL_80_0 e0) (yR rfl (lbs_ [.bool d, g.v] ST_31 e0 a R1) (Rn QSn ?_)))))))))))))
  refine Lc rfl ?_ (Lc1 rfl ?_)
  ·refine Lk wn (yCall FN_86 (a2 e0 e0)) (sparseref01_Mul_ok b2 a6 a7 a) ?_
   rintro _ w ⟨c1, rfl, a⟩
   refine ⟨_, rfl, ?_⟩
   refine Dn [] [5, 6, 8, 9, 10, 11, 13, 14] [7, 17] (Rn (yS rfl (yFb FL_80_1 e0) (yS rfl (lbs_ [.bool q, r.v] ST_31 e0 a R2) (yS rfl (yFb FL_80_1 e0) (yS rfl (lbs_ [.bool j, l.v] ST_31 e0 a R4) (yS rfl (yFb FL_80_1 e0) (yS rfl (lbs_ [.bool k, m.v] ST_31 e0 a R3) (yS rfl (yFb FL_80_0 e0) (yS rfl (lbs_ [.bool d, g.v] ST_31 e0 a R2) QSn)))))))) ?_)
   refine Lc rfl ?_ (Lc1 rfl ?_)
   ·replace a := a.fz
    refine Lk wn (yCall FN_86 (a2 e0 e0)) (sparseref01_Mul_ok S F0 (mtF R) a) ?_
    rintro _ w ⟨b3, rfl, a⟩
    refine ⟨_, rfl, ?_⟩
    refine Dn [] [8, 9, 10, 11, 13, 14] [12, 17] (Rn (yS rfl (yFb FL_80_1 e0) (yS rfl (lbs_ [.bool j, l.v] ST_31 e0 a R4) (yS rfl (yFb FL_80_1 e0) (yS rfl (lbs_ [.bool k, m.v] ST_31 e0 a R3) (yS rfl (yFb FL_80_0 e0) (yS rfl (lbs_ [.bool d, g.v] ST_31 e0 a R2) QSn)))))) ?_)
    refine Lc rfl ?_ (Lc1 rfl ?_)
    ·refine Lk wn (yCall FN_86 (a2 e0 e0)) (sparseref01_Mul_ok L (mtF J) (mtF K) a) ?_
     rintro _ w ⟨U, rfl, a⟩
     refine ⟨_, rfl, ?_⟩
     refine Dn [] [13, 14] [15, 17] (Rn (yS rfl (yFb FL_80_0 e0) (yS rfl (lbs_ [.bool d, g.v] ST_31 e0 a R3) QSn)) ?_)
     refine Lc rfl ?_ (Lc1 rfl ?_)
     ·replace a := a.fz
      refine Lk wn (yCall FN_86 (a2 e0 e0)) (sparseref01_Mul_ok G F0 (F_2 F) a) ?_
      rintro _ w ⟨N, rfl, a⟩
      refine ⟨_, rfl, ?_⟩
      refine Dn [] [] [16, 17] (Rn QSn ?_)
      refine Lc rfl ?_ (Lc1 rfl ?_)
      ·replace a := a.k17
       replace a := a.fz.fz
       refine Lk wn (yCall FN_85 (a2 e0 e0)) (sparseref08_frac_ok x F1 F0 a) ?_
       rintro _ w ⟨h, i, rfl, a⟩
       refine ⟨_, rfl, ?_⟩
       refine Dn [] [] [17] (Rn QSn ?_)
       refine Lc1 rfl ?_
       refine LB wn (rAl a ZT_80) fun I w a => Dn [] [] [18] (Rn QSn ?_)
       refine Lc1 rfl ?_
       exact LT wn (r_stbn (vals' := [.bool b.1, h.v, .bool b.2.2.1, i.v]) (us := [.bool b.1, h.v, .bool b.2.2.1, i.v]) a ST_80 e0 e0 rfl rfl (one_of rfl) rfl) fun w a => Dz [] [] (Rn QSn (y _ _ ⟨_, _, _, rfl, rfl, rfl, ((a.k2c).facts (allT (allT (allT (allT allI)))))⟩))
      ·refine LB wn (rAl a ZT_80) fun I w a => Dn [] [] [16] (Rn QSn ?_)
       refine Lc1 rfl ?_
       replace a := (((a.k19).fz).k17).fz
       refine Lk wn (yCall FN_85 (a2 e0 e0)) (sparseref08_frac_ok x F1 F0 a) ?_
       rintro _ w ⟨h, i, rfl, a⟩
       refine ⟨_, rfl, ?_⟩
       refine Dn [] [] [18] (Rn QSn ?_)
       refine Lc1 rfl ?_
       replace a := a.k19
       exact LT wn (r_stbn (vals' := [.bool b.1, h.v, .bool b.2.2.1, i.v]) (us := [.bool b.1, h.v, .bool b.2.2.1, i.v]) a ST_80 e0 e0 rfl rfl (one_of rfl) rfl) fun w a => Dz [] [] (Rn QSn (y _ _ ⟨_, _, _, rfl, rfl, rfl, ((a.k2c).facts (allT (allT (allT (allT allI)))))⟩))
     ·refine LB wn (rAl a ZT_80) fun I w a => Dn [] [13, 14] [15] (Rn (yS rfl (yFb FL_80_0 e0) (yS rfl (lbs_ [.bool d, g.v] ST_31 e0 a R4) QSn)) ?_)
      refine Lc1 rfl ?_
      replace a := (a.k17).fz
      refine Lk wn (yCall FN_86 (a2 e0 e0)) (sparseref01_Mul_ok G F0 (F_2 F) a) ?_
      rintro _ w ⟨N, rfl, a⟩
      refine ⟨_, rfl, ?_⟩
      refine Dn [] [] [16] (Rn QSn ?_)
      refine Lc1 rfl ?_
      replace a := ((a.k19).fz).fz
      refine Lk wn (yCall FN_85 (a2 e0 e0)) (sparseref08_frac_ok x F1 F0 a) ?_
      rintro _ w ⟨h, i, rfl, a⟩
      refine ⟨_, rfl, ?_⟩
      refine Dn [] [] [18] (Rn QSn ?_)
      refine Lc1 rfl ?_
      replace a := a.k19
      exact LT wn (r_stbn (vals' := [.bool b.1, h.v, .bool b.2.2.1, i.v]) (us := [.bool b.1, h.v, .bool b.2.2.1, i.v]) a ST_80 e0 e0 rfl rfl (one_of rfl) rfl) fun w a => Dz [] [] (Rn QSn (y _ _ ⟨_, _, _, rfl, rfl, rfl, ((a.k2c).facts (allT (allT (allT (allT allI)))))⟩))
    ·refine LB wn (rAl a ZT_80) fun I w a => Dn [] [8, 9, 10, 11, 13, 14] [12] (Rn (yS rfl (yFb FL_80_1 e0) (yS rfl (lbs_ [.bool j, l.v] ST_31 e0 a R5) (yS rfl (yFb FL_80_1 e0) (yS rfl (lbs_ [.bool k, m.v] ST_31 e0 a R4) (yS rfl (yFb FL_80_0 e0) (yS rfl (lbs_ [.bool d, g.v] ST_31 e0 a R3) QSn)))))) ?_)
     refine Lc1 rfl ?_
     refine Lk wn (yCall FN_86 (a2 e0 e0)) (sparseref01_Mul_ok L (mtF J) (mtF K) a) ?_
     rintro _ w ⟨U, rfl, a⟩
     refine ⟨_, rfl, ?_⟩
     refine Dn [] [13, 14] [15] (Rn (yS rfl (yFb FL_80_0 e0) (yS rfl (lbs_ [.bool d, g.v] ST_31 e0 a R4) QSn)) ?_)
     refine Lc1 rfl ?_
     replace a := a.fz
     refine Lk wn (yCall FN_86 (a2 e0 e0)) (sparseref01_Mul_ok G F0 (F_2 F) a) ?_
     rintro _ w ⟨N, rfl, a⟩
     refine ⟨_, rfl, ?_⟩
     refine Dn [] [] [16] (Rn QSn ?_)
     refine Lc1 rfl ?_
     replace a := ((a.k19).fz).fz
     refine Lk wn (yCall FN_85 (a2 e0 e0)) (sparseref08_frac_ok x F1 F0 a) ?_
     rintro _ w ⟨h, i, rfl, a⟩
     refine ⟨_, rfl, ?_⟩
     refine Dn [] [] [18] (Rn QSn ?_)
     refine Lc1 rfl ?_
     replace a := a.k19
     exact LT wn (r_stbn (vals' := [.bool b.1, h.v, .bool b.2.2.1, i.v]) (us := [.bool b.1, h.v, .bool b.2.2.1, i.v]) a ST_80 e0 e0 rfl rfl (one_of rfl) rfl) fun w a => Dz [] [] (Rn QSn (y _ _ ⟨_, _, _, rfl, rfl, rfl, ((a.k2c).facts (allT (allT (allT (allT allI)))))⟩))
   ·refine LB wn (rAl a ZT_80) fun I w a => Dn [] [5, 6, 8, 9, 10, 11, 13, 14] [7] (Rn (yS rfl (yFb FL_80_1 e0) (yS rfl (lbs_ [.bool q, r.v] ST_31 e0 a R3) (yS rfl (yFb FL_80_1 e0) (yS rfl (lbs_ [.bool j, l.v] ST_31 e0 a R5) (yS rfl (yFb FL_80_1 e0) (yS rfl (lbs_ [.bool k, m.v] ST_31 e0 a R4) (yS rfl (yFb FL_80_0 e0) (yS rfl (lbs_ [.bool d, g.v] ST_31 e0 a R3) QSn)))))))) ?_)
    refine Lc1 rfl ?_
    replace a := (a.k17).fz
    refine Lk wn (yCall FN_86 (a2 e0 e0)) (sparseref01_Mul_ok S F0 (mtF R) a) ?_
    rintro _ w ⟨b3, rfl, a⟩
    refine ⟨_, rfl, ?_⟩
    refine Dn [] [8, 9, 10, 11, 13, 14] [12] (Rn (yS rfl (yFb FL_80_1 e0) (yS rfl (lbs_ [.bool j, l.v] ST_31 e0 a R5) (yS rfl (yFb FL_80_1 e0) (yS rfl (lbs_ [.bool k, m.v] ST_31 e0 a R4) (yS rfl (yFb FL_80_0 e0) (yS rfl (lbs_ [.bool d, g.v] ST_31 e0 a R3) QSn)))))) ?_)
    refine Lc1 rfl ?_
    refine Lk wn (yCall FN_86 (a2 e0 e0)) (sparseref01_Mul_ok L (mtF J) (mtF K) a) ?_
    rintro _ w ⟨U, rfl, a⟩
    refine ⟨_, rfl, ?_⟩
    refine Dn [] [13, 14] [15] (Rn (yS rfl (yFb FL_80_0 e0) (yS rfl (lbs_ [.bool d, g.v] ST_31 e0 a R4) QSn)) ?_)
    refine Lc1 rfl ?_
    replace a := a.fz
    refine Lk wn (yCall FN_86 (a2 e0 e0)) (sparseref01_Mul_ok G F0 (F_2 F) a) ?_
    rintro _ w ⟨N, rfl, a⟩
    refine ⟨_, rfl, ?_⟩
    refine Dn [] [] [16] (Rn QSn ?_)
    refine Lc1 rfl ?_
    replace a := ((a.k17).fz).fz
    refine Lk wn (yCall FN_85 (a2 e0 e0)) (sparseref08_frac_ok x F1 F0 a) ?_
    rintro _ w ⟨h, i, rfl, a⟩
    refine ⟨_, rfl, ?_⟩
    refine Dn [] [] [18] (Rn QSn ?_)
    refine Lc1 rfl ?_
    replace a := a.k19
    exact LT wn (r_stbn (vals' := [.bool b.1, h.v, .bool b.2.2.1, i.v]) (us := [.bool b.1, h.v, .bool b.2.2.1, i.v]) a ST_80 e0 e0 rfl rfl (one_of rfl) rfl) fun w a => Dz [] [] (Rn QSn (y _ _ ⟨_, _, _, rfl, rfl, rfl, ((a.k2c).facts (allT (allT (allT (allT allI)))))⟩))
  ·refine LB wn (rAl a ZT_80) fun I w a => Dn [] [0, 1, 2, 3, 5, 6, 8, 9, 10, 11, 13, 14] [4] (Rn (yS rfl (yFb FL_80_0 e0) (yS rfl (lbs_ [.bool A, D.v] ST_31 e0 a R4) (yS rfl (yFb FL_80_0 e0) (yS rfl (lbs_ [.bool B, E.v] ST_31 e0 a R3) (yS rfl (yFb FL_80_1 e0) (yS rfl (lbs_ [.bool q, r.v] ST_31 e0 a R2) (yS rfl (yFb FL_80_1 e0) (yS rfl (lbs_ [.bool j, l.v] ST_31 e0 a R4) (yS rfl (yFb FL_80_1 e0) (yS rfl (lbs_ [.bool k, m.v] ST_31 e0 a R3) (yS rfl (yFb FL_80_0 e0) (yS rfl (lbs_ [.bool d, g.v] ST_31 e0 a R2) QSn)))))))))))) ?_)
   refine Lc1 rfl ?_
   refine Lk wn (yCall FN_86 (a2 e0 e0)) (sparseref01_Mul_ok b2 a6 a7 a) ?_
   rintro _ w ⟨c1, rfl, a⟩
   refine ⟨_, rfl, ?_⟩
   refine Dn [] [5, 6, 8, 9, 10, 11, 13, 14] [7] (Rn (yS rfl (yFb FL_80_1 e0) (yS rfl (lbs_ [.bool q, r.v] ST_31 e0 a R3) (yS rfl (yFb FL_80_1 e0) (yS rfl (lbs_ [.bool j, l.v] ST_31 e0 a R5) (yS rfl (yFb FL_80_1 e0) (yS rfl (lbs_ [.bool k, m.v] ST_31 e0 a R4) (yS rfl (yFb FL_80_0 e0) (yS rfl (lbs_ [.bool d, g.v] ST_31 e0 a R3) QSn)))))))) ?_)
   refine Lc1 rfl ?_
   replace a := a.fz
   refine Lk wn (yCall FN_86 (a2 e0 e0)) (sparseref01_Mul_ok S F0 (mtF R) a) ?_
   rintro _ w ⟨b3, rfl, a⟩
   refine ⟨_, rfl, ?_⟩
   refine Dn [] [8, 9, 10, 11, 13, 14] [12] (Rn (yS rfl (yFb FL_80_1 e0) (yS rfl (lbs_ [.bool j, l.v] ST_31 e0 a R5) (yS rfl (yFb FL_80_1 e0) (yS rfl (lbs_ [.bool k, m.v] ST_31 e0 a R4) (yS rfl (yFb FL_80_0 e0) (yS rfl (lbs_ [.bool d, g.v] ST_31 e0 a R3) QSn)))))) ?_)
   refine Lc1 rfl ?_
   refine Lk wn (yCall FN_86 (a2 e0 e0)) (sparseref01_Mul_ok L (mtF J) (mtF K) a) ?_
   rintro _ w ⟨U, rfl, a⟩
   refine ⟨_, rfl, ?_⟩
   refine Dn [] [13, 14] [15] (Rn (yS rfl (yFb FL_80_0 e0) (yS rfl (lbs_ [.bool d, g.v] ST_31 e0 a R4) QSn)) ?_)
   refine Lc1 rfl ?_
   replace a := a.fz
   refine Lk wn (yCall FN_86 (a2 e0 e0)) (sparseref01_Mul_ok G F0 (F_2 F) a) ?_
   rintro _ w ⟨N, rfl, a⟩
   refine ⟨_, rfl, ?_⟩
   refine Dn [] [] [16] (Rn QSn ?_)
   refine Lc1 rfl ?_
   replace a := ((a.k17).fz).fz
   refine Lk wn (yCall FN_85 (a2 e0 e0)) (sparseref08_frac_ok x F1 F0 a) ?_
   rintro _ w ⟨h, i, rfl, a⟩
   refine ⟨_, rfl, ?_⟩
   refine Dn [] [] [18] (Rn QSn ?_)
   refine Lc1 rfl ?_
   replace a := a.k19
   exact LT wn (r_stbn (vals' := [.bool b.1, h.v, .bool b.2.2.1, i.v]) (us := [.bool b.1, h.v, .bool b.2.2.1, i.v]) a ST_80 e0 e0 rfl rfl (one_of rfl) rfl) fun w a => Dz [] [] (Rn QSn (y _ _ ⟨_, _, _, rfl, rfl, rfl, ((a.k2c).facts (allT (allT (allT (allT allI)))))⟩))
 rintro f w ⟨T, H, s, t, b4, u, a⟩
 refine c0 _ _ (sQ fun _ c2 => bE c fun d5 c3 c => bE c fun d6 c4 c => bE c fun d7 c5 c => bE c fun d8 c6 c => bE c fun O c7 c => dR [0, 1, 0, 4, 15, 0, 32, 0, 128, 511, 1023, 0, 2048, 0, 8192, 32767, 65535, 131071] [4, 9, 10, 15, 16, 17] 6 folM ?_)
 replace a := a.drew
 refine Dn [0, 1, 2, 3, 5, 6, 7, 8, 11, 12, 13, 14] [] [4] (yR rfl (yFb FL_80_0 (eh t)) (yR rfl (lbs_ [.bool z, C.v] ST_31 e0 a R0) (yR rfl (yFb FL_80_1 (eh u)) (yR rfl (lbs_ [.bool b.2.2.1, s.v] ST_31 e0 a R4) (yR rfl (yFb FL_80_0 (eh u)) (yR rfl (lbs_ [.bool b.1, H.v] ST_31 e0 a R4) (yR rfl (yFb FL_80_1 (eh t)) (yR rfl (lbs_ [.bool o, p.v] ST_31 e0 a R0) (yR rfl (yFb FL_80_1 (eh t)) (yR rfl (lbs_ [.bool o, p.v] ST_31 e0 a R0) (yR rfl (yFb FL_80_1 (eh u)) (yR rfl (lbs_ [.bool b.2.2.1, s.v] ST_31 e0 a R4) (Rn QSn ?_)))))))))))))
 refine Lc1 rfl ?_
 replace a := (a.k13).fz
 refine Lk wn (yCall FN_86 (a2 e0 e0)) (sparseref01_Mul_ok c3 (mtF b7) F0 a) ?_
 rintro _ w ⟨d9, rfl, a⟩
 refine ⟨_, rfl, ?_⟩
 refine Dn [] [5, 6, 7, 8, 11, 12, 13, 14] [9] (Rn (yS rfl (yFb FL_80_0 (eh u)) (yS rfl (lbs_ [.bool b.1, H.v] ST_31 e0 a R4) (yS rfl (yFb FL_80_1 (eh t)) (yS rfl (lbs_ [.bool o, p.v] ST_31 e0 a R1) (yS rfl (yFb FL_80_1 (eh t)) (yS rfl (lbs_ [.bool o, p.v] ST_31 e0 a R1) (yS rfl (yFb FL_80_1 (eh u)) (yS rfl (lbs_ [.bool b.2.2.1, s.v] ST_31 e0 a R4) QSn)))))))) ?_)
 refine Lc1 rfl ?_
 replace a := (a.k13).fz
 refine Lk wn (yCall FN_86 (a2 e0 e0)) (sparseref01_Mul_ok c4 F0 (F_2 a5) a) ?_
 rintro _ w ⟨e1, rfl, a⟩
 refine ⟨_, rfl, ?_⟩
 refine Dn [] [11, 12, 13, 14] [10] (Rn (yS rfl (yFb FL_80_1 (eh t)) (yS rfl (lbs_ [.bool o, p.v] ST_31 e0 a R2) (yS rfl (yFb FL_80_1 (eh u)) (yS rfl (lbs_ [.bool b.2.2.1, s.v] ST_31 e0 a R4) QSn)))) ?_)
 refine Lc1 rfl ?_
 replace a := ((a.k17).fz).fz
 refine Lk wn (yCall FN_105 (a2 e0 e0)) (sparseref01_Sub_ok c5 F1 F0 a) ?_
 rintro _ w ⟨e2, rfl, a⟩
 refine ⟨_, rfl, ?_⟩
 refine Dn [] [11, 12, 13, 14] [15] (Rn (yS rfl (yFb FL_80_1 (eh t)) (yS rfl (lbs_ [.bool o, p.v] ST_31 e0 a R1) (yS rfl (yFb FL_80_1 (eh u)) (yS rfl (lbs_ [.bool b.2.2.1, s.v] ST_31 e0 a R3) QSn)))) ?_)
 refine Lc1 rfl ?_
 refine Lk wn (yCall FN_86 (a2 e0 e0)) (sparseref01_Mul_ok c6 (F_4 a5) F3 a) ?_
 rintro _ w ⟨e3, rfl, a⟩
 refine ⟨_, rfl, ?_⟩
 refine Dn [] [] [16] (Rn QSn ?_)
 refine Lc1 rfl ?_
 replace a := ((a.k17).fz).fz
 refine Lk wn (yCall FN_85 (a2 e0 e0)) (sparseref08_frac_ok c7 F1 F0 a) ?_
 rintro _ w ⟨b5, b6, rfl, a⟩
 refine ⟨_, rfl, ?_⟩
 refine Dn [] [] [17] (Rn QSn ?_)
 refine Lc1 rfl ?_
 replace a := a.k13
 refine LT wn (r_stbn (vals' := [.bool O.1, b5.v, .bool O.2.2.1, b6.v]) (us := [.bool O.1, b5.v, .bool O.2.2.1, b6.v]) a ST_80 (eh b4) e0 rfl rfl (one_of rfl) rfl) fun w a => Dz [] [] (Rn QSn (c2 _ _ (wp_ret ?_)))
 cases c
 exact b8 _ _ _ (fin1r Tryz.results58 (rcs2 rfl b4 a R0 ST_80 rfl) ⟨_, _, rfl, ((a.k2d).facts (allT (allT (allT (allT (allT (allT allI)))))))⟩)
theorem sparseref08_Inertia_ok {j6 : List (List (Bool × LI))} {a7 : Hdr} {out : Int × Int × Int} (h : sparseref08_Inertia j6 = some out) (j7 : imm (rS (rP rB (rS (rI .u32)))) a7.v j6 ∈ ros) (b : St w0 ros rs w) :
  Calls Tryz.prog 16 #[a7.v] w (fun e w => e = .returned (.tuple #[iV out.1, iV out.2.1, iV out.2.2]) ∧ St w0 ros rs w) := by
 refine enterQ Tryz.func16 rfl Tryz.ntmps16 rfl fun Q r0 => sR fun _ r1 => Ya (iV 0) rfl (Ya (iV 0) rfl (Ya (iV 0) rfl (wK r1 (sR fun _ r2 => Ym a7.v e0 (bE h fun j8 r4 h => yC (yCall FN_56 (a1 e0)) (sparseref08_fracs_ok r4 j7 b) ?_)))))
 rintro _ w ⟨d, j, rfl, b⟩
 refine ⟨_, rfl, ?_⟩
 refine Ya d.v e0 (wK r2 (sR fun _ r5 => Ya (iV 0) rfl (Ya (iV 0) rfl (wK r5 (sR fun _ r6 => Ya hnil.v rfl (wK r6 ?_))))))
 refine sQ fun _ r7 => sR fun _ r8 => Ya (iV 0) rfl (wK r8 (blockQ fun r9 s0 => bE h fun s1 s2 h => ?_))
 have s3 : ∀ (f1 : LI) (f2 : Hdr) (f : FV) w, f 5 = d.v → f 6 = iV 0 → f 7 = iV 0 → f 8 = f2.v → St w0 ros (row 81 rH d.v j :: fam 80 (rP rB (rP (rS (rI .u32)) (rP rB (rS (rI .u32))))) j j8 :: row 3 I1 f2.v f1 :: rs) w → f1 = s1 → r9 (.exit 0) (fr 179 f) w := by
  intro f1 f2 f w s4 s5 s6 s7 b ho
  subst ho
  refine s0 _ _ _ (r7 _ _ (sQ fun _ s8 => blockQ fun s9 t0 => bE h fun t1 t2 h => ?_))
  have j9 : ∀ (a8 a9 : Int) (c4 : LI) (c5 : Hdr) (f : FV) w, f 6 = iV a8 → f 7 = iV a9 → f 8 = c5.v → St w0 ros (row 3 I1 c5.v c4 :: rs) w → (a8, a9, c4) = t1 → s9 (.exit 2) (fr 179 f) w := by
   intro a8 a9 c4 c5 f w t3 t4 t5 b ho
   subst ho
   refine t0 _ _ _ (s8 _ _ (sR fun _ t6 => Ym (iV a8) (eh t3) (Ym c5.v (eh t5) (yY (yLen SL_48 e0 b rO0) (Ym (iV a9) (eh t4) (Ya (iV a8) e0 (Ya (iV (c4.length : Int)) e0 (Ya (iV a9) e0 (wK t6 (wp_ret ?_))))))))))
   cases h
   exact r0 _ _ _ (fin3r Tryz.results16 ⟨rfl, rfl⟩ ⟨rfl, rfl⟩ ⟨rfl, rfl⟩ ⟨rfl, (b.k10)⟩)
  refine loopQ (fun s a w => ∃ (A : List (List (Bool × LI × Bool × LI))) (B : Int) (C : Int) (Z : LI) (f : FV) (r : Hdr), (A, B, C, Z) = s ∧ a = fr 179 f ∧ f 5 = d.v ∧ f 6 = iV B ∧ f 7 = iV C ∧ f 8 = r.v ∧ St w0 ros (row 81 rH d.v j :: fam 80 (rP rB (rP (rS (rI .u32)) (rP rB (rS (rI .u32))))) j A :: row 3 I1 r.v Z :: rs) w) t2 ⟨_, _, _, _, _, _, rfl, rfl, s4, s5, s6, s7, b⟩ ?_
  rintro _ _ w k0 ⟨A, B, C, Z, f, r, rfl, rfl, k7, f3, f4, b0, b⟩ k k8 J2 t7 k9
  refine seqQ fun J3 t8 t9 => sR fun _ u0 => Ym r.v (eh b0) (yY (yLen SL_48 e0 b rO2) (yY (ygtr e0 rfl) (wK u0 ?_)))
  refine cIf e0 k (fun u1 k => ?_) fun u1 k => ?_
  ·refine wp_skip (t8 _ _ (blockQ fun _ l0 => sR fun _ u2 => Ym d.v (eh k7) (Ym r.v (eh b0) (bE k fun c u3 k => ?_))))
   have l1 := b
   replace b := b.ffz.fz
   have b1 := b.guest0
   replace b := l1
   clear l1
   refine yC (yCall FN_57 (a2 e0 e0)) (sparseref08_pivot_ok u3 F1 F0 b1) ?_
   clear b1
   rintro _ w ⟨rfl, b1⟩
   replace b := b.back b1
   clear b1
   refine ⟨_, rfl, ?_⟩
   refine Ym (.tuple #[iV c.1, iV c.2]) e0 (yY (x_ (iV c.1) e0) (yY (x_ (iV c.2) e0) (Ya (iV c.1) e0 (Ya (iV c.2) e0 (wK u2 (seqQ fun J4 u4 u5 => sR fun _ u6 => Ym (iV c.1) e0 (yY (ylss e0 rfl) (wK u6 ?_))))))))
   refine cIf e0 k (fun u7 k => ?_) fun u7 k => ?_
   ·refine wp_exit (u5 _ _ _ rfl (l0 _ _ _ ?_))
    cases k
    exact k9 _ _ _ _ rfl rfl (j9 _ _ _ _ _ _ f3 f4 b0 (b.k2e) (k8 _ rfl))
   ·refine wp_skip (u4 _ _ (sR fun _ u8 => Ya hnil.v rfl (wK u8 (sQ fun _ u9 => sR fun _ v0 => Ya (iV 0) rfl (wK v0 (blockQ fun v1 v2 => ?_))))))
    refine bE k fun v3 v4 k => ?_
    have v5 : ∀ (x : LI) (m : Hdr) (f : FV) w, f 5 = d.v → f 6 = iV B → f 7 = iV C → f 10 = iV c.1 → f 11 = iV c.2 → f 12 = m.v → St w0 ros (row 81 rH d.v j :: fam 80 (rP rB (rP (rS (rI .u32)) (rP rB (rS (rI .u32))))) j A :: row 3 I1 m.v x :: rs) w → x = v3 → v1 (.exit 4) (fr 179 f) w := by
     intro x m f w c6 f5 f6 a0 c7 f7 b ho
     subst ho
     refine v2 _ _ _ (u9 _ _ (sQ fun l2 v6 => sR fun _ v7 => Ym (iV c.1) (eh a0) (Ym (iV c.2) (eh c7) (yY (yeql e0 e0) (wK v7 ?_)))))
     have l3 : ∀ (I J : Int) (f : FV) w, f 5 = d.v → f 6 = iV I → f 7 = iV J → f 10 = iV c.1 → f 11 = iV c.2 → f 12 = m.v → St w0 ros (row 81 rH d.v j :: fam 80 (rP rB (rP (rS (rI .u32)) (rP rB (rS (rI .u32))))) j A :: row 3 I1 m.v x :: rs) w → sparseref08_Inertia_j170 A c x I J = some k0 → l2 .normal (fr 179 f) w := by
      intro I J f w l4 v8 v9 l5 l6 w1 b h
      refine v6 _ _ (sR fun _ w2 => Ym d.v (eh l4) (Ym (iV c.1) (eh l5) (bE h fun J5 f8 h => ?_)))
      obtain ⟨J6, c8⟩ := b.famI R1 f8
      refine yY (yIa SLH_75 e0 e0 b rO0 c8) (yY (yF1 O_81 e0 b rO0 c8 rfl) (Ym (iV c.2) (eh l6) (bE h fun i l7 h => yY (yIa SL_81 e0 e0 b (rdF R1 c8 f8) l7) ?_)))
      obtain ⟨J7, J8, cc6020, b⟩ := b.ld (rdF R1 c8 f8) l7
      replace b := b.eltP
      obtain ⟨J9, K0, rfl, b⟩ := b
      replace b := b.eltB
      obtain ⟨rfl, b⟩ := b
      replace b := b.eltP
      obtain ⟨K1, K2, rfl, b⟩ := b
      replace b := b.eltS
      obtain ⟨p, rfl, b⟩ := b
      replace b := b.swf.eltP
      obtain ⟨K3, K4, rfl, b⟩ := b
      replace b := b.eltB
      obtain ⟨rfl, b⟩ := b
      replace b := b.eltS
      obtain ⟨q, rfl, b⟩ := b
      refine yY (yCn (cs := [.bool i.1, p.v, .bool i.2.2.1, q.v]) ST_80 rfl e0 cc6020) (yBb (rAl b ZT_80) fun G w b => yT (r_stbn (vals' := [.bool i.1, p.v, .bool i.2.2.1, q.v]) (us := [.bool i.1, p.v, .bool i.2.2.1, q.v]) b ST_80 e0 e0 rfl rfl (one_of rfl) rfl) fun w b => wK w2 (sQ fun _ w3 => sR fun _ w4 => Ya (iV 0) rfl (wK w4 (blockQ fun w5 w6 => ?_))))
      refine bE h fun w7 w8 h => ?_
      have w9 : ∀ (f9 : List (List (Bool × LI × Bool × LI))) (f : FV) w, f 5 = d.v → f 6 = iV I → f 7 = iV J → f 12 = m.v → St w0 ros (row 81 rH d.v j :: fam 80 (rP rB (rP (rS (rI .u32)) (rP rB (rS (rI .u32))))) j f9 :: row 3 I1 m.v x :: rs) w → f9 = w7 → w5 (.exit 6) (fr 179 f) w := by
       intro f9 f w x0 x2 x3 x4 b ho
       subst ho
       refine w6 _ _ _ (w3 _ _ (wR (Ym m.v (eh x4) (Ya m.v e0 (wN (l0 _ _ _ ?_))))))
       cases h
       exact t7 _ _ _ rfl ⟨_, _, _, _, _, _, rfl, rfl, x0, x2, x3, rfl, b⟩
      refine loopQ (fun s a w => ∃ (g0 : List (List (Bool × LI × Bool × LI))) (y : Int) (f : FV), (g0, y) = s ∧ a = fr 179 f ∧ f 5 = d.v ∧ f 6 = iV I ∧ f 7 = iV J ∧ f 10 = iV c.1 ∧ f 11 = iV c.2 ∧ f 12 = m.v ∧ f 14 = (pB G) ∧ f 15 = iV y ∧ St w0 (imm (rI .u32) p.v i.2.1 :: imm (rI .u32) q.v i.2.2.2 :: ros) (row 81 rH d.v j :: fam 80 (rP rB (rP (rS (rI .u32)) (rP rB (rS (rI .u32))))) j g0 :: row 3 I1 m.v x :: box G 80 [.bool i.1, p.v, .bool i.2.2.1, q.v] :: rs) w) w8 ⟨_, _, _, rfl, rfl, l4, v8, v9, l5, l6, w1, rfl, rfl, ((b.k1i).facts (allC F1 (allC F0 (allT (allT allI)))))⟩ ?_
      rintro _ _ w K5 ⟨g0, y, f, rfl, rfl, l8, l9, m0, x5, x6, g1, x7, m1, b⟩ L x8 K6 x9 y0
      refine seqQ fun K7 y1 y2 => sR fun _ y3 => Ym (iV y) (eh m1) (Ym m.v (eh g1) (yY (yLen SL_48 e0 b rO2) (yY (ylss e0 e0) (wK y3 ?_))))
      refine cIf e0 L (fun y4 L => ?_) fun y4 L => ?_
      ·refine wp_skip (y1 _ _ (sQ fun _ y6 => blockQ fun _ y7 => sR fun _ y8 => Ya (iV 0) rfl (wK y8 (blockQ fun y9 z0 => bE L fun z1 z2 L => ?_))))
       have z3 : ∀ (g2 : List (List (Bool × LI × Bool × LI))) (f : FV) w, f 5 = d.v → f 6 = iV I → f 7 = iV J → f 10 = iV c.1 → f 11 = iV c.2 → f 12 = m.v → f 14 = (pB G) → f 15 = iV y → St w0 (imm (rI .u32) p.v i.2.1 :: imm (rI .u32) q.v i.2.2.2 :: ros) (row 81 rH d.v j :: fam 80 (rP rB (rP (rS (rI .u32)) (rP rB (rS (rI .u32))))) j g2 :: row 3 I1 m.v x :: box G 80 [.bool i.1, p.v, .bool i.2.2.1, q.v] :: rs) w → g2 = z1 → y9 (.exit 8) (fr 179 f) w := by
        intro g2 f w z4 z5 z6 z7 z8 z9 A0 A1 b ho
        subst ho
        refine z0 _ _ _ (y7 _ _ _ (y6 _ _ (wR (Ym (iV y) (eh A1) (yY (yadd e0 rfl) (Ya (iV (wa .i64 y 1)) e0 (wN ?_)))))))
        cases L
        exact x9 _ _ _ rfl ⟨_, _, _, rfl, rfl, z4, z5, z6, z7, z8, z9, A0, rfl, b⟩
       refine loopQ (fun s a w => ∃ (a3 : List (List (Bool × LI × Bool × LI))) (D : Int) (f : FV), (a3, D) = s ∧ a = fr 179 f ∧ f 5 = d.v ∧ f 6 = iV I ∧ f 7 = iV J ∧ f 10 = iV c.1 ∧ f 11 = iV c.2 ∧ f 12 = m.v ∧ f 14 = (pB G) ∧ f 15 = iV y ∧ f 16 = iV D ∧ St w0 (imm (rI .u32) p.v i.2.1 :: imm (rI .u32) q.v i.2.2.2 :: ros) (row 81 rH d.v j :: fam 80 (rP rB (rP (rS (rI .u32)) (rP rB (rS (rI .u32))))) j a3 :: row 3 I1 m.v x :: box G 80 [.bool i.1, p.v, .bool i.2.2.1, q.v] :: rs) w) z2 ⟨_, _, _, rfl, rfl, l8, l9, m0, x5, x6, g1, x7, m1, rfl, b⟩ ?_
       rintro _ _ w A2 ⟨a3, D, f, rfl, rfl, K, g3, g4, b2, b3, a5, b4, b5, b6, b⟩ g A3 K8 A4 A5
       refine seqQ fun K9 A6 A7 => sR fun _ A8 => Ym (iV D) (eh b6) (Ym (iV y) (eh b5) (yY (yleq e0 e0) (wK A8 ?_)))
       refine cIf e0 g (fun A9 g => ?_) fun A9 g => ?_
       ·refine wp_skip (A6 _ _ (sQ fun _ B0 => blockQ fun _ B1 => sQ fun _ B2 => bE g fun E m2 g => bE g fun F c9 g => dR [0, 0, 3, 7, 0, 0, 48, 112, 15, 511] [8, 9] 2 folM ?_))
        replace b := b.drew
        refine Dn [0, 1, 2, 3, 4, 5, 6, 7] [] [8] (yR rfl (m_ m.v (eh a5)) (yR rfl (m_ (iV y) (eh b5)) (yR rfl (yIa SL_48 e0 e0 b rO2 m2) (yR rfl (yI O_3 e0 b rO2 m2) (yR rfl (m_ m.v (eh a5)) (yR rfl (m_ (iV D) (eh b6)) (yR rfl (yIa SL_48 e0 e0 b rO2 c9) (yR rfl (yI O_3 e0 b rO2 c9) (Rn QSn ?_)))))))))
        refine Lc1 rfl ?_
        refine Ly wn (a_ (iV E) e0) (Dn [] [4, 5, 6, 7] [9] (Rn (yS rfl (m_ m.v (eh a5)) (yS rfl (m_ (iV D) (eh b6)) (yS rfl (yIa SL_48 e0 e0 b rO2 c9) (yS rfl (yI O_3 e0 b rO2 c9) QSn)))) ?_))
        refine Lc1 rfl ?_
        refine Ly wn (a_ (iV F) e0) (Dz [] [] (Rn QSn (B2 _ _ (sQ fun _ B3 => bE g fun L0 d0 g => bE g fun d1 g5 g => bE g fun L1 d2 g => bE g fun d3 g6 g => bE g fun L3 d4 g => bE g fun d5 g7 g => bE g fun u m3 g => ?_))))
        refine joinN (n := 179) (fun f w => ∃ (b7 : Nat) (d6 d7 : Hdr), f 5 = d.v ∧ f 6 = iV I ∧ f 7 = iV J ∧ f 10 = iV c.1 ∧ f 11 = iV c.2 ∧ f 12 = m.v ∧ f 14 = (pB G) ∧ f 15 = iV y ∧ f 16 = iV D ∧ f 17 = iV E ∧ f 18 = iV F ∧ f 19 = (pB b7) ∧ St w0 (imm (rI .u32) p.v i.2.1 :: imm (rI .u32) q.v i.2.2.2 :: ros) (row 81 rH d.v j :: fam 80 (rP rB (rP (rS (rI .u32)) (rP rB (rS (rI .u32))))) j a3 :: row 3 I1 m.v x :: box G 80 [.bool i.1, p.v, .bool i.2.2.1, q.v] :: row 103 (rI .u32) d6.v u.2.1 :: row 103 (rI .u32) d7.v u.2.2.2 :: box b7 80 [.bool u.1, d6.v, .bool u.2.2.1, d7.v] :: rs) w) (fun m4 => ?_) ?_
        ·refine dR [0, 0, 3, 7, 0, 31, 63, 0, 0, 384, 896, 0, 3968, 8064, 0, 0, 49152, 114688, 0, 507904, 1032192, 0, 4194303, 0, 16777215] [22, 23, 24] 3 folM ?_
         replace b := b.drew
         refine Dn [0, 1, 2, 3, 4, 5, 6, 7, 8, 9, 10, 11, 12, 13, 14, 15, 16, 17, 18, 19, 20, 21] [] [22, 23] (yR rfl (m_ d.v (eh K)) (yR rfl (m_ (iV E) e0) ?_))
         obtain ⟨L4, N⟩ := b.famI R1 d0
         refine yR rfl (yIa SLH_75 e0 e0 b rO0 N) (yR rfl (yF1 O_81 e0 b rO0 N rfl) (yR rfl (m_ (iV F) e0) (yR rfl (yIa SL_81 e0 e0 b (rdF R1 N d0) g5) ?_)))
         replace b := (b.k17).pin0
         obtain ⟨L5, b⟩ := St.pinF N d0 b g5
         obtain ⟨L6, L7, rfl, b⟩ := b.eltP
         obtain ⟨rfl, b⟩ := b.eltB
         obtain ⟨L8, L9, rfl, b⟩ := b.eltP
         obtain ⟨m5, rfl, b⟩ := b.eltS
         replace b := b.swf
         obtain ⟨M0, M1, rfl, b⟩ := b.eltP
         obtain ⟨rfl, b⟩ := b.eltB
         obtain ⟨m6, rfl, b⟩ := b.eltS
         refine yR rfl (yCn (cs := [.bool d1.1, m5.v, .bool d1.2.2.1, m6.v]) ST_80 rfl e0 (b.cAtP R0 mhP)) (yR rfl (m_ d.v (eh K)) (yR rfl (m_ (iV E) e0) ?_))
         obtain ⟨M2, O⟩ := b.famIP R0 d2
         refine yR rfl (yIa SLH_75 e0 e0 b rO1 O) (yR rfl (yF1 O_81 e0 b rO1 O rfl) (yR rfl (m_ (iV c.1) (eh b2)) (yR rfl (yIa SL_81 e0 e0 b (rdFP R0 O d2) g6) ?_)))
         obtain ⟨M3, b⟩ := St.pinF O d2 b g6
         obtain ⟨M4, M5, rfl, b⟩ := b.eltP
         obtain ⟨rfl, b⟩ := b.eltB
         obtain ⟨M6, M7, rfl, b⟩ := b.eltP
         obtain ⟨m7, rfl, b⟩ := b.eltS
         replace b := b.swf
         obtain ⟨M8, M9, rfl, b⟩ := b.eltP
         obtain ⟨rfl, b⟩ := b.eltB
         obtain ⟨m8, rfl, b⟩ := b.eltS
         refine yR rfl (yCn (cs := [.bool d3.1, m7.v, .bool d3.2.2.1, m8.v]) ST_80 rfl e0 (b.cAtP R0 mhP)) (yR rfl (m_ d.v (eh K)) (yR rfl (m_ (iV c.2) (eh b3)) ?_))
         obtain ⟨N0, R⟩ := b.famIP R0 d4
         refine yR rfl (yIa SLH_75 e0 e0 b rO1 R) (yR rfl (yF1 O_81 e0 b rO1 R rfl) (yR rfl (m_ (iV F) e0) (yR rfl (yIa SL_81 e0 e0 b (rdFP R0 R d4) g7) ?_)))
         obtain ⟨N1, b⟩ := St.pinF R d4 b g7
         obtain ⟨N2, N3, rfl, b⟩ := b.eltP
         obtain ⟨rfl, b⟩ := b.eltB
         obtain ⟨N4, N5, rfl, b⟩ := b.eltP
         obtain ⟨m9, rfl, b⟩ := b.eltS
         replace b := b.swf
         obtain ⟨N6, N7, rfl, b⟩ := b.eltP
         obtain ⟨rfl, b⟩ := b.eltB
         obtain ⟨n0, rfl, b⟩ := b.eltS
         refine yR rfl (yCn (cs := [.bool d5.1, m9.v, .bool d5.2.2.1, n0.v]) ST_80 rfl e0 (b.cAtP R0 mhP)) (yR rfl (lbs_ [.bool i.1, p.v, .bool i.2.2.1, q.v] ST_80 (eh b4) b R3) (Rn QSn ?_))
         refine Lc rfl ?_ (Lc1 rfl ?_)
         ·refine Lk wn (yCall FN_58 (a4 e0 e0 e0 e0)) (sparseref08_minus_ok m3 F5 F4 F3 F2 F1 F0 F6 F7 b) ?_
          rintro _ w ⟨b8, b9, rfl, b⟩
          refine ⟨_, rfl, ?_⟩
          refine Dn [] [] [23] (Rn QSn ?_)
          refine Lc1 rfl ?_
          refine LB wn (rAl b ZT_80) fun B4 w b => Dn [] [] [24] (Rn QSn ?_)
          refine Lc1 rfl ?_
          refine LT wn (r_stbn (vals' := [.bool u.1, b8.v, .bool u.2.2.1, b9.v]) (us := [.bool u.1, b8.v, .bool u.2.2.1, b9.v]) b ST_80 e0 e0 rfl rfl (one_of rfl) rfl) fun w b => Dz [] [] (Rn QSn ?_)
          replace b := (b.k13).unpin
          exact m4 _ _ ⟨_, _, _, K, g3, g4, b2, b3, a5, b4, b5, b6, rfl, rfl, rfl, ((b.k2f).facts (allC F6 (allC F7 (allT (allT (allT (allT (allT (allT (allT (allT allI)))))))))))⟩
         ·refine LB wn (rAl b ZT_80) fun B4 w b => Dn [] [0, 1, 2, 3, 4, 5, 6, 7, 8, 9, 10, 11, 12, 13, 14, 15, 16, 17, 18, 19, 20, 21] [22] (Rn (yS rfl (m_ d.v (eh K)) (yS rfl (m_ (iV E) e0) (yS rfl (yIa SLH_75 e0 e0 b rO2 N) (yS rfl (yF1 O_81 e0 b rO2 N rfl) (yS rfl (m_ (iV F) e0) (yS rfl (yIa SL_81 e0 e0 b (rdFP R1 N d0) g5) (yS rfl (yCn (cs := [.bool d1.1, m5.v, .bool d1.2.2.1, m6.v]) ST_80 rfl e0 (b.cAtP R1 (mtP (mtP mhP)))) (yS rfl (m_ d.v (eh K)) (yS rfl (m_ (iV E) e0) (yS rfl (yIa SLH_75 e0 e0 b rO2 O) (yS rfl (yF1 O_81 e0 b rO2 O rfl) (yS rfl (m_ (iV c.1) (eh b2)) (yS rfl (yIa SL_81 e0 e0 b (rdFP R1 O d2) g6) (yS rfl (yCn (cs := [.bool d3.1, m7.v, .bool d3.2.2.1, m8.v]) ST_80 rfl e0 (b.cAtP R1 (mtP mhP))) (yS rfl (m_ d.v (eh K)) (yS rfl (m_ (iV c.2) (eh b3)) (yS rfl (yIa SLH_75 e0 e0 b rO2 R) (yS rfl (yF1 O_81 e0 b rO2 R rfl) (yS rfl (m_ (iV F) e0) (yS rfl (yIa SL_81 e0 e0 b (rdFP R1 R d4) g7) (yS rfl (yCn (cs := [.bool d5.1, m9.v, .bool d5.2.2.1, n0.v]) ST_80 rfl e0 (b.cAtP R1 mhP)) (yS rfl (lbs_ [.bool i.1, p.v, .bool i.2.2.1, q.v] ST_80 (eh b4) b R4) QSn)))))))))))))))))))))) ?_)
          refine Lc1 rfl ?_
          refine Lk wn (yCall FN_58 (a4 e0 e0 e0 e0)) (sparseref08_minus_ok m3 F5 F4 F3 F2 F1 F0 F6 F7 b) ?_
          rintro _ w ⟨b8, b9, rfl, b⟩
          refine ⟨_, rfl, ?_⟩
          refine Dn [] [] [24] (Rn QSn ?_)
          refine Lc1 rfl ?_
          replace b := b.k19
          refine LT wn (r_stbn (vals' := [.bool u.1, b8.v, .bool u.2.2.1, b9.v]) (us := [.bool u.1, b8.v, .bool u.2.2.1, b9.v]) b ST_80 e0 e0 rfl rfl (one_of rfl) rfl) fun w b => Dz [] [] (Rn QSn ?_)
          replace b := (b.k13).unpin
          exact m4 _ _ ⟨_, _, _, K, g3, g4, b2, b3, a5, b4, b5, b6, rfl, rfl, rfl, ((b.k2f).facts (allC F6 (allC F7 (allT (allT (allT (allT (allT (allT (allT (allT allI)))))))))))⟩
        rintro f w ⟨b7, d6, d7, d8, n2, n3, d9, e1, n4, g8, n5, n6, g9, h0, e2, b⟩
        refine B3 _ _ (sQ fun B5 B6 => sR fun _ B7 => Ym (iV c.1) (eh d9) (Ym (iV c.2) (eh e1) (yY (yneq e0 e0) (wK B7 ?_))))
        have n7 : ∀ (S : Bool) (h1 : LI) (T : Bool) (h3 : LI) (U V : Hdr) (f : FV) w, f 5 = d.v → f 6 = iV I → f 7 = iV J → f 10 = iV c.1 → f 11 = iV c.2 → f 12 = m.v → f 14 = (pB G) → f 15 = iV y → f 16 = iV D → f 17 = iV E → f 18 = iV F → f 19 = (pB b7) → St w0 (imm (rI .u32) p.v i.2.1 :: imm (rI .u32) q.v i.2.2.2 :: ros) (row 81 rH d.v j :: fam 80 (rP rB (rP (rS (rI .u32)) (rP rB (rS (rI .u32))))) j a3 :: row 3 I1 m.v x :: box G 80 [.bool i.1, p.v, .bool i.2.2.1, q.v] :: row 103 (rI .u32) U.v h1 :: row 103 (rI .u32) V.v h3 :: box b7 80 [.bool S, U.v, .bool T, V.v] :: rs) w → sparseref08_Inertia_j192 a3 E F D S h1 T h3 = some A2 → B5 .normal (fr 179 f) w := by
         intro S h1 T h3 U V f w h5 B8 B9 C0 C1 C2 C3 C4 C5 n8 n9 o0 b h
         refine B6 _ _ (sQ fun _ C6 => bE h fun N8 h6 h => bE h fun N9 o2 h => bE h fun O0 C7 h => dR [0, 0, 3, 7, 0, 0, 63, 127] [7] 1 folM ?_)
         replace b := b.drew
         refine Dn [0, 1, 2, 3, 4, 5, 6] [] [7] (yR rfl (m_ d.v (eh h5)) (yR rfl (m_ (iV E) (eh n8)) ?_))
         obtain ⟨O1, c0⟩ := b.famI R1 h6
         refine yR rfl (yIa SLH_75 e0 e0 b rO0 c0) (yR rfl (yF1 O_81 e0 b rO0 c0 rfl) (yR rfl (m_ (iV F) (eh n9)) (yR rfl (lbs_ [.bool S, U.v, .bool T, V.v] ST_80 (eh o0) b R6) (yR rfl (yIs SL_81 e0 e0 b (rdF R1 c0 h6) o2) (Rn QSn ?_)))))
         refine Lc1 rfl ?_
         replace b := ((((b.k14).fz).k14).fz).k17
         refine LT wn (r_stn (cs := [.bool S, U.v, .bool T, V.v]) (b.foc c0 h6) ST_80 e0 e0 rfl (mkP mkB (mkP (mkS F1) (mkP mkB (mkS F0)))) o2) fun w b => ?_
         replace b := b.unfoc' c0 C7
         refine Dz [] [] (Rn QSn (C6 _ _ (bE h fun O2 h7 h => bE h fun O3 o3 h => bE h fun O4 C8 h => dR [0, 0, 3, 7, 0, 0, 63, 127] [7] 1 folM ?_)))
         replace b := b.drew
         refine Dn [0, 1, 2, 3, 4, 5, 6] [] [7] (yR rfl (m_ d.v (eh h5)) (yR rfl (m_ (iV F) (eh n9)) ?_))
         obtain ⟨O5, c1⟩ := b.famI R0 h7
         refine yR rfl (yIa SLH_75 e0 e0 b rO1 c1) (yR rfl (yF1 O_81 e0 b rO1 c1 rfl) (yR rfl (m_ (iV E) (eh n8)) (yR rfl (lbs_ [.bool S, U.v, .bool T, V.v] ST_80 (eh o0) b R4) (yR rfl (yIs SL_81 e0 e0 b (rdF R0 c1 h7) o3) (Rn QSn ?_)))))
         refine Lc1 rfl ?_
         refine LT wn (r_stn (cs := [.bool S, U.v, .bool T, V.v]) (b.foc c1 h7) ST_80 e0 e0 rfl (mkP mkB (mkP (mkS F1) (mkP mkB (mkS F0)))) o3) fun w b => ?_
         replace b := b.unfoc' c1 C8
         refine Dz [] [] (Rn QSn (B1 _ _ _ (B0 _ _ (wR (Ym (iV D) (eh C5) (yY (yadd e0 rfl) (Ya (iV (wa .i64 D 1)) e0 (wN ?_))))))))
         cases h
         exact A4 _ _ _ rfl ⟨_, _, _, rfl, rfl, h5, B8, B9, C0, C1, C2, C3, C4, rfl, ((b.k2g).facts (allC F2 (allC F3 (allT (allT (allT (allT allI)))))))⟩
        rcases iteS g with ⟨h8, g⟩ | ⟨h8, g⟩
        ·exact condF e0 (nF (dT h8)) (wp_skip (n7 _ _ _ _ _ _ _ _ d8 n2 n3 d9 e1 n4 g8 n5 n6 g9 h0 e2 b g))
        ·refine condT e0 (nT (dF h8)) (bE g fun O6 h9 g => bE g fun o4 o5 g => bE g fun O7 i0 g => bE g fun o6 o7 g => bE g fun e3 C9 g => dR [0, 0, 0, 6, 14, 0, 62, 126, 0, 0, 768, 1792, 0, 7936, 16128, 0, 65535, 131071] [16, 17] 2 folM ?_)
         replace b := b.drew
         refine Dn [0, 1, 2, 3, 4, 5, 6, 7, 8, 9, 10, 11, 12, 13, 14, 15] [] [16] (yR rfl (lbs_ [.bool u.1, d6.v, .bool u.2.2.1, d7.v] ST_80 (eh e2) b R6) (yR rfl (m_ d.v (eh d8)) (yR rfl (m_ (iV E) (eh g9)) ?_)))
         obtain ⟨O8, e4⟩ := b.famI R1 h9
         refine yR rfl (yIa SLH_75 e0 e0 b rO0 e4) (yR rfl (yF1 O_81 e0 b rO0 e4 rfl) (yR rfl (m_ (iV c.2) (eh e1)) (yR rfl (yIa SL_81 e0 e0 b (rdF R1 e4 h9) o5) ?_)))
         obtain ⟨O9, P0, cc7081, b⟩ := b.ld (rdF R1 e4 h9) o5
         replace b := b.eltP
         obtain ⟨P1, P2, rfl, b⟩ := b
         replace b := b.eltB
         obtain ⟨rfl, b⟩ := b
         replace b := b.eltP
         obtain ⟨P3, P4, rfl, b⟩ := b
         replace b := b.eltS
         obtain ⟨D0, rfl, b⟩ := b
         replace b := b.swf.eltP
         obtain ⟨P5, P6, rfl, b⟩ := b
         replace b := b.eltB
         obtain ⟨rfl, b⟩ := b
         replace b := b.eltS
         obtain ⟨D1, rfl, b⟩ := b
         refine yR rfl (yCn (cs := [.bool o4.1, D0.v, .bool o4.2.2.1, D1.v]) ST_80 rfl e0 cc7081) (yR rfl (m_ d.v (eh d8)) (yR rfl (m_ (iV c.1) (eh d9)) ?_))
         obtain ⟨P7, e5⟩ := b.famI R1 i0
         refine yR rfl (yIa SLH_75 e0 e0 b rO0 e5) (yR rfl (yF1 O_81 e0 b rO0 e5 rfl) (yR rfl (m_ (iV F) (eh h0)) (yR rfl (yIa SL_81 e0 e0 b (rdF R1 e5 i0) o7) ?_)))
         obtain ⟨P8, P9, cc7088, b⟩ := b.ld (rdF R1 e5 i0) o7
         replace b := b.eltP
         obtain ⟨Q0, Q1, rfl, b⟩ := b
         replace b := b.eltB
         obtain ⟨rfl, b⟩ := b
         replace b := b.eltP
         obtain ⟨Q2, Q3, rfl, b⟩ := b
         replace b := b.eltS
         obtain ⟨D2, rfl, b⟩ := b
         replace b := b.swf.eltP
         obtain ⟨Q4, Q5, rfl, b⟩ := b
         replace b := b.eltB
         obtain ⟨rfl, b⟩ := b
         replace b := b.eltS
         obtain ⟨D3, rfl, b⟩ := b
         refine yR rfl (yCn (cs := [.bool o6.1, D2.v, .bool o6.2.2.1, D3.v]) ST_80 rfl e0 cc7088) (yR rfl (lbs_ [.bool i.1, p.v, .bool i.2.2.1, q.v] ST_80 (eh g8) b R3) (Rn QSn ?_))
         refine Lc1 rfl ?_
         replace b := (((b.k14).fz).k14).fz
         refine Lk wn (yCall FN_58 (a4 e0 e0 e0 e0)) (sparseref08_minus_ok C9 F1 F0 F5 F4 F3 F2 F6 F7 b) ?_
         rintro _ w ⟨o8, o9, rfl, b⟩
         refine ⟨_, rfl, ?_⟩
         refine Dn [] [] [17] (Rn QSn ?_)
         refine Lc1 rfl ?_
         replace b := b.k1s
         exact LT wn (r_stbn (vals' := [.bool e3.1, o8.v, .bool e3.2.2.1, o9.v]) (us := [.bool e3.1, o8.v, .bool e3.2.2.1, o9.v]) b ST_80 (eh e2) e0 rfl rfl (one_of rfl) rfl) fun w b => Dz [] [] (Rn QSn (n7 _ _ _ _ _ _ _ _ d8 n2 n3 d9 e1 n4 g8 n5 n6 g9 h0 e2 ((b.k2h).facts (allC F6 (allC F7 (allT (allT (allT (allT (allT (allT (allT (allT allI))))))))))) g))
       ·refine wp_exit (A7 _ _ _ rfl ?_)
        cases g
        exact A5 _ _ _ _ rfl rfl (z3 _ _ _ K g3 g4 b2 b3 a5 b4 b5 b (A3 _ rfl))
      ·refine wp_exit (y2 _ _ _ rfl ?_)
       cases L
       exact y0 _ _ _ _ rfl rfl (w9 _ _ _ l8 l9 m0 g1 ((b.k1v).facts (allT (allT allI))) (x8 _ rfl))
     refine cIf e0 k (fun D4 k => ?_) fun D4 k => ?_
     ·refine sR fun _ D5 => Ym d.v (eh c6) (Ym (iV c.1) (eh a0) (bE k fun Q6 i1 k => ?_))
      obtain ⟨Q8, e6⟩ := b.famI R1 i1
      refine yY (yIa SLH_75 e0 e0 b rO0 e6) (yY (yF1 O_81 e0 b rO0 e6 rfl) (Ym (iV c.1) (eh a0) (bE k fun i2 p0 k => yY (yIa SL_81 e0 e0 b (rdF R1 e6 i1) p0) (yY (yFe FL_80_0 e0) ?_))))
      obtain ⟨Q9, R2, cc7101, b⟩ := b.ld (rdF R1 e6 i1) p0
      replace b := b.eltP
      obtain ⟨R5, R7, rfl, b⟩ := b
      replace b := b.eltB
      obtain ⟨rfl, b⟩ := b
      replace b := b.eltP
      obtain ⟨R8, R9, rfl, b⟩ := b
      replace b := b.eltS
      obtain ⟨p1, rfl, b⟩ := b
      replace b := b.swf.eltP
      obtain ⟨S0, S3, rfl, b⟩ := b
      replace b := b.eltB
      obtain ⟨rfl, b⟩ := b
      replace b := b.eltS
      obtain ⟨D6, rfl, b⟩ := b
      refine yY (yCfn (cs := [.bool i2.1, p1.v, .bool i2.2.2.1, D6.v]) (us := [.bool i2.1, p1.v]) ST_31 e0 cc7101 rfl rfl) (bE k fun S4 D7 k => yC (yCall FN_34 (a1 e0)) (sparseref01_Sign_ok D7 F1 b) ?_)
      rintro _ w ⟨rfl, b⟩
      refine ⟨_, rfl, ?_⟩
      refine yY (ylss e0 rfl) (wK D5 ?_)
      have p2 : ∀ (i3 i4 : Int) (f : FV) w, f 5 = d.v → f 6 = iV i3 → f 7 = iV i4 → f 10 = iV c.1 → f 11 = iV c.2 → f 12 = m.v → St w0 ros (row 81 rH d.v j :: fam 80 (rP rB (rP (rS (rI .u32)) (rP rB (rS (rI .u32))))) j A :: row 3 I1 m.v x :: rs) w → sparseref08_Inertia_j193 A c x i3 i4 = some k0 → l2 .normal (fr 179 f) w := by
       intro i3 i4 f w D8 D9 E0 E1 E2 E3 b h
       exact l3 _ _ _ _ D8 D9 E0 E1 E2 E3 b h
      refine cIf e0 k (fun E4 k => ?_) fun E4 k => ?_
      ·exact wR (Ym (iV B) (eh f5) (yY (yadd e0 rfl) (Ya (iV (wa .i64 B 1)) e0 (wN (p2 _ _ _ _ c6 rfl f6 a0 c7 f7 (b.facts (allT (allT allI))) k)))))
      ·exact wR (Ym (iV C) (eh f6) (yY (yadd e0 rfl) (Ya (iV (wa .i64 C 1)) e0 (wN (p2 _ _ _ _ c6 f5 rfl a0 c7 f7 (b.facts (allT (allT allI))) k)))))
     ·exact wR (Ym (iV B) (eh f5) (yY (yadd e0 rfl) (Ym (iV C) (eh f6) (yY (yadd e0 rfl) (Ya (iV (wa .i64 B 1)) e0 (Ya (iV (wa .i64 C 1)) e0 (wN (l3 _ _ _ _ c6 rfl rfl a0 c7 f7 b k))))))))
    replace b := b.rowNh 3 I1
    refine loopQ (fun s a w => ∃ (e7 : LI) (z : Int) (f : FV) (a6 : Hdr), (e7, z) = s ∧ a = fr 179 f ∧ f 5 = d.v ∧ f 6 = iV B ∧ f 7 = iV C ∧ f 8 = r.v ∧ f 10 = iV c.1 ∧ f 11 = iV c.2 ∧ f 12 = a6.v ∧ f 13 = iV z ∧ St w0 ros (row 81 rH d.v j :: fam 80 (rP rB (rP (rS (rI .u32)) (rP rB (rS (rI .u32))))) j A :: row 3 I1 r.v Z :: row 3 I1 a6.v e7 :: rs) w) v4 ⟨_, _, _, _, rfl, rfl, k7, f3, f4, b0, rfl, rfl, rfl, rfl, (b.k1i)⟩ ?_
    rintro _ _ w E5 ⟨e7, z, f, a6, rfl, rfl, i5, i6, i7, c2, e8, e9, i8, c3, b⟩ o E6 S5 E7 E8
    refine seqQ fun S6 E9 F8 => sR fun _ F9 => Ym (iV z) (eh c3) (Ym r.v (eh c2) (yY (yLen SL_48 e0 b rO2) (yY (ylss e0 e0) (wK F9 ?_))))
    refine cIf e0 o (fun G0 o => ?_) fun G0 o => ?_
    ·refine wp_skip (E9 _ _ (sQ fun _ G1 => blockQ fun G2 G3 => sR fun _ G4 => Ym r.v (eh c2) (Ym (iV z) (eh c3) (bE o fun G5 p3 o => yY (yIa SL_48 e0 e0 b rO2 p3) (yY (yI O_3 e0 b rO2 p3) (Ym (iV c.1) (eh e8) (yY (yneq e0 e0) (Ym (.bool (!(decide (G5 = c.1)))) e0 ?_))))))))
     refine bE o fun G6 W o => ?_
     refine joinW 7 (fun f w => f 5 = d.v ∧ f 6 = iV B ∧ f 7 = iV C ∧ f 8 = r.v ∧ f 10 = iV c.1 ∧ f 11 = iV c.2 ∧ f 12 = a6.v ∧ f 13 = iV z ∧ f 62 = .bool G6 ∧ St w0 ros (row 81 rH d.v j :: fam 80 (rP rB (rP (rS (rI .u32)) (rP rB (rS (rI .u32))))) j A :: row 3 I1 r.v Z :: row 3 I1 a6.v e7 :: rs) w) (fun p4 => ?_) ?_
     ·rcases iteS W with ⟨t, W⟩ | ⟨t, W⟩
      ·refine gN (nF (dT t)) (gN (nF (dT t)) (gN (nF (dT t)) (gN (nF (dT t)) (gN (nF (dT t)) (gN (nF (dT t)) (yY (pf_ (.bool false) e0 (nF (dT t)) rfl) ?_))))))
       cases W
       exact p4 _ _ ⟨i5, i6, i7, c2, e8, e9, i8, c3, rfl, b⟩
      ·refine yG (nT (dF t)) (m_ r.v (eh c2)) (yG (nT (dF t)) (m_ (iV z) (eh c3)) (bE W fun G7 p5 W => yG (nT (dF t)) (yIa SL_48 e0 e0 b rO2 p5) (yG (nT (dF t)) (yI O_3 e0 b rO2 p5) (yG (nT (dF t)) (m_ (iV c.2) (eh e9)) (yG (nT (dF t)) (yneq e0 e0) (yY (pt_ (.bool (!(decide (G7 = c.2)))) e0 (nT (dF t)) e0) ?_))))))
       cases W
       exact p4 _ _ ⟨i5, i6, i7, c2, e8, e9, i8, c3, rfl, b⟩
     rintro f w ⟨p6, p7, p8, i9, p9, q0, q2, j0, G8, b⟩
     refine wK G4 ?_
     have q3 : ∀ (j1 : LI) (j2 : Hdr) (f : FV) w, f 5 = d.v → f 6 = iV B → f 7 = iV C → f 8 = r.v → f 10 = iV c.1 → f 11 = iV c.2 → f 12 = j2.v → f 13 = iV z → St w0 ros (row 81 rH d.v j :: fam 80 (rP rB (rP (rS (rI .u32)) (rP rB (rS (rI .u32))))) j A :: row 3 I1 r.v Z :: row 3 I1 j2.v j1 :: rs) w → sparseref08_Inertia_j195 z j1 = some E5 → G2 .normal (fr 179 f) w := by
      intro j1 j2 f w G9 H0 H1 H2 H3 H4 H5 H6 b h
      refine G3 _ _ _ (G1 _ _ (wR (Ym (iV z) (eh H6) (yY (yadd e0 rfl) (Ya (iV (wa .i64 z 1)) e0 (wN ?_))))))
      cases h
      exact E7 _ _ _ rfl ⟨_, _, _, _, rfl, rfl, G9, H0, H1, H2, H3, H4, H5, rfl, b⟩
     refine cB (eh G8) o (fun H7 o => ?_) fun H7 o => ?_
     ·exact wR (Ym a6.v (eh q2) (Ym r.v (eh i9) (Ym (iV z) (eh j0) (bE o fun j3 q4 o => yY (yIa SL_48 e0 e0 b rO2 q4) (yY (yI O_3 e0 b rO2 q4) (yH (rLt (n := 1) (l := [j3]) b SL_48 [iV j3] (bp1 e0) rfl rfl (mks1 (cs := [iV j3]) rfl mkI mks0)) fun S7 w b => bE o fun S8 H8 o => yH (rAp (b.k14) SL_48 e0 e0 rO1 H8) fun H9 w b => Ya H9.v e0 (wN (q3 _ _ _ _ p6 p7 p8 i9 p9 q0 rfl j0 (b.k1j) o))))))))
     ·exact wp_skip (q3 _ _ _ _ p6 p7 p8 i9 p9 q0 q2 j0 b o)
    ·refine wp_exit (F8 _ _ _ rfl ?_)
     cases o
     exact E8 _ _ _ _ rfl rfl (v5 _ _ _ _ i5 i6 i7 e8 e9 i8 (b.k2i) (E6 _ rfl))
  ·refine wp_exit (t9 _ _ _ rfl ?_)
   cases k
   exact k9 _ _ _ _ rfl rfl (j9 _ _ _ _ _ _ f3 f4 b0 (b.k2e) (k8 _ rfl))
 replace b := b.rowNh 3 I1
 refine loopQ (fun s a w => ∃ (j4 : LI) (H : Int) (f : FV) (f0 : Hdr), (j4, H) = s ∧ a = fr 179 f ∧ f 0 = a7.v ∧ f 5 = d.v ∧ f 6 = iV 0 ∧ f 7 = iV 0 ∧ f 8 = f0.v ∧ f 9 = iV H ∧ St w0 ros (row 81 rH d.v j :: fam 80 (rP rB (rP (rS (rI .u32)) (rP rB (rS (rI .u32))))) j j8 :: row 3 I1 f0.v j4 :: rs) w) s2 ⟨_, _, _, _, rfl, rfl, rfl, rfl, rfl, rfl, rfl, rfl, (b.k1e)⟩ ?_
 rintro _ _ w S9 ⟨j4, H, f, f0, rfl, rfl, q5, q6, q7, q8, q9, j5, b⟩ X I0 T0 I2 I3
 refine seqQ fun T1 I4 I5 => sR fun _ I6 => Ym (iV H) (eh j5) (Ym a7.v (eh q5) (yY (yLen SL_22 e0 b (rdI j7)) (yY (ylss e0 e0) (wK I6 ?_))))
 refine cIf e0 X (fun I7 X => ?_) fun I7 X => ?_
 ·refine wp_skip (I4 _ _ (sQ fun _ I8 => blockQ fun _ I9 => wR (Ym f0.v (eh q9) (Ym (iV H) (eh j5) (yH (rLt (n := 1) (l := [H]) b SL_48 [iV H] (bp1 e0) rfl rfl (mks1 (cs := [iV H]) rfl mkI mks0)) fun T2 w b => bE X fun T3 J0 X => yH (rAp (b.k13) SL_48 e0 e0 rO1 J0) fun J1 w b => Ya J1.v e0 (wN ?_))))))
  refine I9 _ _ _ (I8 _ _ (wR (Ym (iV H) (eh j5) (yY (yadd e0 rfl) (Ya (iV (wa .i64 H 1)) e0 (wN ?_))))))
  cases X
  exact I2 _ _ _ rfl ⟨_, _, _, _, rfl, rfl, q5, q6, q7, q8, rfl, rfl, (b.k1d)⟩
 ·refine wp_exit (I5 _ _ _ rfl ?_)
  cases X
  exact I3 _ _ _ _ rfl rfl (s3 _ _ _ _ q6 q7 q8 q9 b (I0 _ rfl))
theorem sparselaw08_num_ok {b : Int} {out : Bool × LI} (c : sparselaw08_num b = some out) (a : St w0 ros rs w) :
  Calls Tryz.prog 50 #[iV b] w (fun e w => ∃ (d : Hdr), e = .returned (.agg #[.bool out.1, d.v]) ∧ St w0 ros (row 103 (rI .u32) d.v out.2 :: rs) w) := by
 refine enterQ Tryz.func50 rfl Tryz.ntmps50 rfl fun Q h => sR fun _ i => yBb (rAl a ZT_31) fun l w a => wK i (sR fun _ j => Ym (iV b) e0 (bE c fun f k c => yC (yCall FN_84 (a1 e0)) (sparseref01_FromInt_ok k a) ?_))
 rintro _ w ⟨g, rfl, a⟩
 refine ⟨_, rfl, ?_⟩
 refine yT (r_stbn (vals' := [.bool f.1, g.v]) (us := [.bool f.1, g.v]) (a.k17) ST_31 e0 e0 rfl rfl (one_of rfl) rfl) fun w a => wK j (wp_ret ?_)
 cases c
 exact h _ _ _ (fin1r Tryz.results50 (rcs2 rfl rfl a R0 ST_31 rfl) ⟨_, rfl, (a.k20)⟩)
theorem integer_Sub_ok {d : Bool} {h : LI} {b : Bool} {i : LI} {f c : Hdr} {out : Bool × LI} (g : integer_Sub d h b i = some out) (m : imm (rI .u32) f.v h ∈ ros) (n : imm (rI .u32) c.v i ∈ ros) (a : St w0 ros rs w) :
  Calls Tryz.prog 31 #[.agg #[.bool d, f.v], .agg #[.bool b, c.v]] w (fun e w => ∃ (j : Hdr), e = .returned (.agg #[.bool out.1, j.v]) ∧ St w0 (imm (rI .u32) j.v out.2 :: ros) rs w) := by
 refine enterQ Tryz.func31 rfl Tryz.ntmps31 rfl fun Q o => sR fun _ p => yBb (r_box (vals := [.bool d, f.v]) a e0 rfl) fun t w a => yBb (r_box (vals := [.bool b, c.v]) a e0 rfl) fun u w a => yBb (rAl a ZT_31) fun x w a => wK p (sR fun _ q => yY (yFb FL_31_0 e0) ?_)
 refine yY (lb_ (.bool b) O_4 e0 a R1) (yY (ynot e0) (yY (yFb FL_31_0 e0) (yT (r_stb1 (vals' := [.bool (!b), c.v]) (a.k17) O_4 e0 e0 rfl rfl rfl rfl) fun w a => wK q (sR fun _ r => yY (lbs_ [.bool d, f.v] ST_31 e0 a R2) (yY (lbs_ [.bool (!b), c.v] ST_31 e0 a R0) (bE g fun k s g => yC (yCall FN_75 (a2 e0 e0)) (integer_Add_ok s m n a) ?_))))))
 rintro _ w ⟨l, rfl, a⟩
 refine ⟨_, rfl, ?_⟩
 refine yT (r_stbn (vals' := [.bool k.1, l.v]) (us := [.bool k.1, l.v]) (a.k17) ST_31 e0 e0 rfl rfl (one_of rfl) rfl) fun w a => wK r (wp_ret ?_)
 cases g
 exact o _ _ _ (fin1r Tryz.results31 (rcs2 rfl rfl a R0 ST_31 rfl) ⟨_, rfl, (a.k1g)⟩)
theorem exact_sweep_ok {D l : List (Bool × LI)} {m : Bool} {E : LI} {p : Bool} {F : LI} {h : Bool} {G : LI} {d j n q i : Hdr} {out : (List (Bool × LI))} (y : exact_sweep D l m E p F h G = some out) (T : imm (rI .u32) n.v E ∈ ros) (U : imm (rI .u32) q.v F ∈ ros) (V : imm (rI .u32) i.v G ∈ ros) (b : St w0 ros (row 31 (rP rB (rS (rI .u32))) d.v D :: row 31 (rP rB (rS (rI .u32))) j.v l :: rs) w) :
  Calls Tryz.prog 140 #[d.v, j.v, .agg #[.bool m, n.v], .agg #[.bool p, q.v], .agg #[.bool h, i.v]] w (fun e w => e = .returned (.tuple #[]) ∧ St w0 ros (row 31 (rP rB (rS (rI .u32))) d.v out :: row 31 (rP rB (rS (rI .u32))) j.v l :: rs) w) := by
 refine enterQ Tryz.func140 rfl Tryz.ntmps140 rfl fun Q W => sR fun _ X => yBb (r_box (vals := [.bool m, n.v]) b e0 rfl) fun H w b => yBb (r_box (vals := [.bool p, q.v]) b e0 rfl) fun I w b => yBb (r_box (vals := [.bool h, i.v]) b e0 rfl) fun J w b => wK X (sR fun _ Z => Ym j.v e0 ?_)
 refine yY (yLen SL_32 e0 b rO4) (Ym (iV 0) rfl (wK Z (blockQ fun a0 a1 => bE y fun a3 a4 y => ?_)))
 have a5 : ∀ (z : List (Bool × LI)) (f : FV) w, St w0 ros (row 31 (rP rB (rS (rI .u32))) d.v z :: row 31 (rP rB (rS (rI .u32))) j.v l :: rs) w → z = a3 → a0 (.exit 0) (fr 38 f) w := by
  intro z f w b ho
  subst ho
  refine a1 _ _ _ ?_
  cases y
  exact W _ _ _ (fin0n Tryz.results140 ⟨rfl, b⟩)
 refine loopQ (fun s a w => ∃ (A : List (Bool × LI)) (g : Int) (f : FV), (A, g) = s ∧ a = fr 38 f ∧ f 0 = d.v ∧ f 7 = (pB H) ∧ f 8 = (pB I) ∧ f 9 = (pB J) ∧ f 12 = j.v ∧ f 13 = iV (l.length : Int) ∧ f 14 = iV g ∧ St w0 ros (row 31 (rP rB (rS (rI .u32))) d.v A :: row 31 (rP rB (rS (rI .u32))) j.v l :: box H 31 [.bool m, n.v] :: box I 31 [.bool p, q.v] :: box J 31 [.bool h, i.v] :: rs) w) a4 ⟨_, _, _, rfl, rfl, rfl, rfl, rfl, rfl, rfl, rfl, rfl, (b.k2j)⟩ ?_
 rintro _ _ w c2 ⟨A, g, f, rfl, rfl, k, B, K, r, L, N, x, b⟩ c a6 c3 a7 a8
 refine sR fun _ a9 => yY (ylss (eh x) (eh N)) (wK a9 (seqQ fun c4 b0 b1 => ?_))
 refine cIf e0 c (fun b2 c => ?_) fun b2 c => ?_
 ·refine wp_skip (b0 _ _ (sQ fun _ b3 => blockQ fun _ b4 => sR fun _ b5 => Ym (iV g) (eh x) (bE c fun t O c => yY (yIa SL_32 (eh L) (eh x) b rO1 O) ?_)))
  obtain ⟨c5, c6, cc67, b⟩ := b.ld rO1 O
  replace b := b.eltP
  obtain ⟨c7, c8, rfl, b⟩ := b
  replace b := b.eltB
  obtain ⟨rfl, b⟩ := b
  replace b := b.eltS
  obtain ⟨u, rfl, b⟩ := b
  refine yY (yCn (cs := [.bool t.1, u.v]) ST_31 rfl e0 cc67) (yBb (rAl b ZT_31) fun c9 w b => Ya (iV g) e0 (yT (r_stbn (vals' := [.bool t.1, u.v]) (us := [.bool t.1, u.v]) b ST_31 e0 e0 rfl rfl (one_of rfl) rfl) fun w b => wK b5 (bE c fun b6 R c => bE c fun d0 b7 c => bE c fun d1 b8 c => bE c fun d2 b9 c => bE c fun o c0 c => bE c fun d3 S c => ?_)))
  refine dR [0, 0, 0, 0, 0, 24, 56, 124, 0, 0, 1020, 2044, 0, 8188, 16380, 32764, 32764, 65535, 196607] [7, 10, 11, 13, 18] 5 folM ?_
  replace b := b.drew
  refine Dn [0, 1, 2, 3, 4, 5, 6, 8, 9, 12] [] [7] (yR rfl (m_ d.v (eh k)) (yR rfl (m_ (iV g) e0) (yR rfl (lbs_ [.bool p, q.v] ST_31 (eh K) b R4) (yR rfl (m_ d.v (eh k)) (yR rfl (m_ (iV g) e0) (yR rfl (yIa SL_32 e0 e0 b rO1 R) ?_))))))
  obtain ⟨d4, d5, cc82, b⟩ := b.ld rO1 R
  replace b := b.eltP
  obtain ⟨d6, d7, rfl, b⟩ := b
  replace b := b.eltB
  obtain ⟨rfl, b⟩ := b
  replace b := b.eltS
  obtain ⟨c1, rfl, b⟩ := b
  refine yR rfl (yCn (cs := [.bool b6.1, c1.v]) ST_31 rfl e0 cc82) (yR rfl (lbs_ [.bool m, n.v] ST_31 (eh B) b R3) (yR rfl (lbs_ [.bool t.1, u.v] ST_31 e0 b R0) (yR rfl (lbs_ [.bool h, i.v] ST_31 (eh r) b R5) (Rn QSn ?_))))
  refine Lc1 rfl ?_
  refine Lk wn (yCall FN_32 (a2 e0 e0)) (integer_Mul_ok b7 (F_2 U) F0 b) ?_
  rintro _ w ⟨d8, rfl, b⟩
  refine ⟨_, rfl, ?_⟩
  refine Dn [] [0, 1, 8, 9, 12] [10] (Rn (yS rfl (m_ d.v (eh k)) (yS rfl (m_ (iV g) e0) (yS rfl (lbs_ [.bool m, n.v] ST_31 (eh B) b R3) (yS rfl (lbs_ [.bool t.1, u.v] ST_31 e0 b R0) (yS rfl (lbs_ [.bool h, i.v] ST_31 (eh r) b R5) QSn))))) ?_)
  refine Lc1 rfl ?_
  refine Lk wn (yCall FN_32 (a2 e0 e0)) (integer_Mul_ok b8 (F_3 T) F2 b) ?_
  rintro _ w ⟨d9, rfl, b⟩
  refine ⟨_, rfl, ?_⟩
  refine Dn [] [0, 1, 12] [11] (Rn (yS rfl (m_ d.v (eh k)) (yS rfl (m_ (iV g) e0) (yS rfl (lbs_ [.bool h, i.v] ST_31 (eh r) b R5) QSn))) ?_)
  refine Lc1 rfl ?_
  refine Lk wn (yCall FN_31 (a2 e0 e0)) (integer_Sub_ok b9 F1 F0 b) ?_
  rintro _ w ⟨e1, rfl, b⟩
  refine ⟨_, rfl, ?_⟩
  refine Dn [] [0, 1, 12] [13] (Rn (yS rfl (m_ d.v (eh k)) (yS rfl (m_ (iV g) e0) (yS rfl (lbs_ [.bool h, i.v] ST_31 (eh r) b R5) QSn))) ?_)
  refine Lc1 rfl ?_
  refine Lk wn (yCall FN_81 (a2 e0 e0)) (integer_Quo_ok c0 F0 (F_5 V) b) ?_
  rintro _ w ⟨C, rfl, b⟩
  refine ⟨_, rfl, ?_⟩
  refine Dn [14, 15, 16, 17] [0, 1] [18] (yR rfl (m_ (.tuple #[.agg #[.bool o.1, C.v], iV o.2.2]) e0) (yR rfl (x_ (.agg #[.bool o.1, C.v]) e0) (yR rfl (x_ (iV o.2.2) e0) (yR rfl (yIs SL_32 e0 e0 b rO1 S) (Rn (yS rfl (m_ d.v (eh k)) (yS rfl (m_ (iV g) e0) QSn)) ?_)))))
  refine Lc1 rfl ?_
  replace b := b.k17
  refine LT wn (r_stn (cs := [.bool o.1, C.v]) b ST_31 e0 e0 rfl (mkP mkB (mkS F0)) S) fun w b => Dz [] [16] (Rn (yS rfl (x_ (iV o.2.2) e0) QSn) (b4 _ _ _ (b3 _ _ (wR (yY (yadd (eh x) rfl) (Ym (iV (wa .i64 g 1)) e0 (wN ?_)))))))
  cases c
  exact a7 _ _ _ rfl ⟨_, _, _, rfl, rfl, k, B, K, r, L, N, rfl, ((b.k2k).facts (allT (allT (allT (allT (allT (allT allI)))))))⟩
 ·refine wp_exit (b1 _ _ _ rfl ?_)
  cases c
  exact a8 _ _ _ _ rfl rfl (a5 _ _ _ (b.k2l) (a6 _ rfl))
theorem exact_reduced_step_ok {a9 : List (List (Bool × LI))} {z : LI} {p : Bool} {S : LI} {G k o A : Int} {c : Nat} {g : Hdr} {b0 : List Hdr} {m q : Hdr} {out : (List (List (Bool × LI))) × LI × Bool × LI × Int} (d : exact_reduced_step a9 z p S G k o A = some out) (c7 : imm (rI .u32) q.v S ∈ ros) (b : St w0 ros (box c 86 [g.v, m.v, .bool p, q.v, iV G] :: row 32 rH g.v b0 :: fam 31 (rP rB (rS (rI .u32))) b0 a9 :: row 3 I1 m.v z :: rs) w) :
  Calls Tryz.prog 107 #[(pB c), iV k, iV o, iV A] w (fun e w => ∃ (b2 : List Hdr) (b3 b4 : Hdr), e = .returned (.tuple #[]) ∧ St w0 (imm (rI .u32) b4.v out.2.2.2.1 :: ros) (row 32 rH g.v b2 :: fam 31 (rP rB (rS (rI .u32))) b2 out.1 :: row 3 I1 b3.v out.2.1 :: box c 86 [g.v, b3.v, .bool out.2.2.1, b4.v, iV out.2.2.2.2] :: rs) w) := by
 refine enterQ Tryz.func107 rfl Tryz.ntmps107 rfl fun Q c8 => sQ fun c9 d0 => sR fun _ d1 => Ym (iV A) e0 (Ym (iV o) e0 (yY (ygtr e0 e0) (wK d1 ?_)))
 have b5 : ∀ (D : List (List (Bool × LI))) (y : Int) (r : List Hdr) (f : FV) w, f 0 = (pB c) → f 1 = iV k → f 2 = iV o → St w0 ros (row 32 rH g.v r :: fam 31 (rP rB (rS (rI .u32))) r D :: row 3 I1 m.v z :: box c 86 [g.v, m.v, .bool p, q.v, iV y] :: rs) w → exact_reduced_step_j1 o k p S z D y = some out → c9 .normal (fr 104 f) w := by
  intro D y r f w T b6 b7 b d
  refine d0 _ _ (sR fun _ d2 => Ym (pB c) (eh T) (yY (yn e0) (yY (yFb FL_86_0 e0) (yY (lb_ g.v O_22 e0 b R3) (Ym (iV o) (eh b7) (bE d fun g9 U d => ?_))))))
  obtain ⟨h0, H⟩ := b.famI R1 U
  refine yY (yIa SLH_22 e0 e0 b rO0 H) (yY (yF1 O_32 e0 b rO0 H rfl) (Ym (iV k) (eh b6) (bE d fun i b8 d => yY (yIa SL_32 e0 e0 b (rdF R1 H U) b8) ?_)))
  obtain ⟨h1, h2, cc29, b⟩ := b.ld (rdF R1 H U) b8
  replace b := b.eltP
  obtain ⟨h4, h5, rfl, b⟩ := b
  replace b := b.eltB
  obtain ⟨rfl, b⟩ := b
  replace b := b.eltS
  obtain ⟨j, rfl, b⟩ := b
  refine yY (yCn (cs := [.bool i.1, j.v]) ST_31 rfl e0 cc29) (yBb (rAl b ZT_31) fun B w b => yT (r_stbn (vals' := [.bool i.1, j.v]) (us := [.bool i.1, j.v]) b ST_31 e0 e0 rfl rfl (one_of rfl) rfl) fun w b => wK d2 (sQ fun _ d3 => sR fun _ d4 => Ym (pB c) (eh T) (yY (yn e0) (yY (yFb FL_86_0 e0) (yY (lb_ g.v O_22 e0 b R4) ?_)))))
  refine yY (yLenF SLH_22 e0 b rO1 R2) (Ym (iV 0) rfl (wK d4 (blockQ fun d5 d6 => bE d fun d7 d8 d => ?_)))
  have d9 : ∀ (V : List (List (Bool × LI))) (f : FV) w, f 0 = (pB c) → f 1 = iV k → f 8 = (pB B) → St w0 (imm (rI .u32) j.v i.2 :: ros) (row 32 rH g.v r :: fam 31 (rP rB (rS (rI .u32))) r V :: row 3 I1 m.v z :: box c 86 [g.v, m.v, .bool p, q.v, iV y] :: box B 31 [.bool i.1, j.v] :: rs) w → V = d7 → d5 (.exit 0) (fr 104 f) w := by
   intro V f w t e1 I b ho
   subst ho
   refine d6 _ _ _ (d3 _ _ (bE d fun h7 e2 d => dR [0, 0, 0, 4, 12, 28, 0, 64, 252, 0, 509, 1533, 3581, 8191, 16383, 32767] [7, 8, 12, 15] 4 folM ?_))
   replace b := b.drew
   refine Dn [0, 1, 2, 3, 4, 5, 6, 9] [] [7] (yR rfl (m_ (pB c) (eh t)) (yR rfl (m_ (pB c) (eh t)) (yR rfl (m_ (pB c) (eh t)) (yR rfl (yn e0) (yR rfl (yFb FL_86_1 e0) (yR rfl (lb_ m.v O_48 e0 b R3) (yR rfl (m_ (iV k) (eh e1)) (yR rfl (lbs_ [.bool i.1, j.v] ST_31 (eh I) b R4) (Rn QSn ?_)))))))))
   refine Lc1 rfl ?_
   refine LH wn (rLt (n := 1) (l := [k]) b SL_48 [iV k] (bp1 e0) rfl rfl (mks1 (cs := [iV k]) rfl mkI mks0)) fun h8 w b => Dn [] [0, 1, 2, 3, 4, 5, 9] [8] (Rn (yS rfl (m_ (pB c) (eh t)) (yS rfl (m_ (pB c) (eh t)) (yS rfl (m_ (pB c) (eh t)) (yS rfl (yn e0) (yS rfl (yFb FL_86_1 e0) (yS rfl (lb_ m.v O_48 e0 b R4) (yS rfl (lbs_ [.bool i.1, j.v] ST_31 (eh I) b R5) QSn))))))) ?_)
   refine Lc1 rfl ?_
   replace b := b.k13
   refine LH wn (rAp b SL_48 e0 e0 rO1 e2) fun b9 w b => Dn [10, 11] [0, 1, 9] [12] (yR rfl (yn e0) (yR rfl (yFb FL_86_1 e0) (Rn (yS rfl (m_ (pB c) (eh t)) (yS rfl (m_ (pB c) (eh t)) (yS rfl (lbs_ [.bool i.1, j.v] ST_31 (eh I) b R5) QSn))) ?_)))
   refine Lc1 rfl ?_
   replace b := b.k14
   refine LT wn (r_stb1 (vals' := [g.v, b9.v, .bool p, q.v, iV y]) b O_48 e0 e0 rfl rfl rfl rfl) fun w b => Dn [13, 14] [1, 9] [15] (yR rfl (yn e0) (yR rfl (yFb FL_86_2 e0) (Rn (yS rfl (m_ (pB c) (eh t)) (yS rfl (lbs_ [.bool i.1, j.v] ST_31 (eh I) b R5) QSn)) ?_)))
   refine Lc1 rfl ?_
   refine LT wn (r_stbn (vals' := [g.v, b9.v, .bool i.1, j.v, iV y]) (us := [.bool i.1, j.v]) b ST_31 e0 e0 rfl rfl (one_of rfl) rfl) fun w b => Dz [] [] (Rn QSn ?_)
   cases d
   exact c8 _ _ _ (fin0n Tryz.results107 ⟨_, _, _, rfl, (b.k2m)⟩)
  refine loopQ (fun s a w => ∃ (W : List (List (Bool × LI))) (x : Int) (f : FV), (W, x) = s ∧ a = fr 104 f ∧ f 0 = (pB c) ∧ f 1 = iV k ∧ f 2 = iV o ∧ f 8 = (pB B) ∧ f 61 = g.v ∧ f 62 = iV (D.length : Int) ∧ f 63 = iV x ∧ St w0 (imm (rI .u32) j.v i.2 :: ros) (row 32 rH g.v r :: fam 31 (rP rB (rS (rI .u32))) r W :: row 3 I1 m.v z :: box c 86 [g.v, m.v, .bool p, q.v, iV y] :: box B 31 [.bool i.1, j.v] :: rs) w) d8 ⟨_, _, _, rfl, rfl, T, b6, b7, rfl, rfl, rfl, rfl, (b.k1o)⟩ ?_
  rintro _ _ w e3 ⟨W, x, f, rfl, rfl, E, J, K, L, X, Z, F, b⟩ h e4 i0 e5 e6
  refine sR fun _ e7 => yY (ylss (eh F) (eh Z)) (wK e7 (seqQ fun i1 e8 e9 => ?_))
  refine cIf e0 h (fun f0 h => ?_) fun f0 h => ?_
  ·refine wp_skip (e8 _ _ (sQ fun _ f1 => blockQ fun f2 f3 => sR fun _ f4 => Ym (iV x) (eh F) (bE h fun i2 N h => ?_)))
   obtain ⟨a0, C⟩ := b.famI R1 N
   refine yY (yIa SLH_22 (eh X) (eh F) b rO0 C) (yY (yF1 O_32 e0 b rO0 C rfl) (Ya (iV x) e0 (Ya a0.v e0 (wK f4 (sR fun _ f5 => Ym (iV x) e0 (Ym (iV o) (eh K) (yY (yneq e0 e0) (wK f5 ?_))))))))
   have c0 : ∀ (a1 : List (List (Bool × LI))) (f : FV) w, f 0 = (pB c) → f 1 = iV k → f 2 = iV o → f 8 = (pB B) → f 61 = g.v → f 62 = iV (D.length : Int) → f 63 = iV x → St w0 (imm (rI .u32) j.v i.2 :: ros) (row 32 rH g.v r :: fam 31 (rP rB (rS (rI .u32))) r a1 :: row 3 I1 m.v z :: box c 86 [g.v, m.v, .bool p, q.v, iV y] :: box B 31 [.bool i.1, j.v] :: rs) w → exact_reduced_step_j5 x a1 = some e3 → f2 .normal (fr 104 f) w := by
    intro a1 f w f6 f7 f8 f9 g0 g1 g2 b d
    refine f3 _ _ _ (f1 _ _ (wR (yY (yadd (eh g2) rfl) (Ym (iV (wa .i64 x 1)) e0 (wN ?_)))))
    cases d
    exact e5 _ _ _ rfl ⟨_, _, _, rfl, rfl, f6, f7, f8, f9, g0, g1, rfl, b⟩
   rcases iteS h with ⟨a2, h⟩ | ⟨a2, h⟩
   ·exact condF e0 (nF (dT a2)) (wp_skip (c0 _ _ _ E J K L X Z F b h))
   ·refine condT e0 (nT (dF a2)) (bE h fun i3 a3 h => bE h fun g3 c1 h => bE h fun u110 gu110 h => bE h fun i4 g4 h => bE h fun i5 g5 h => dR [0, 0, 2, 6, 14, 0, 62, 126, 0, 0, 768, 1792, 0, 0, 8192, 24576, 57344, 131071] [17] 1 folM ?_)
    replace b := b.drew
    refine Dn [0, 1, 2, 3, 4, 5, 6, 7, 8, 9, 10, 11, 12, 13, 14, 15, 16] [] [17] (yR rfl (m_ a0.v e0) (yR rfl (m_ (pB c) (eh E)) (yR rfl (yn e0) (yR rfl (yFb FL_86_0 e0) (yR rfl (lb_ g.v O_22 e0 b R3) (yR rfl (m_ (iV o) (eh K)) ?_))))))
    obtain ⟨i6, O⟩ := b.famI R1 a3
    refine yR rfl (yIa SLH_22 e0 e0 b rO0 O) (yR rfl (yF1 O_32 e0 b rO0 O rfl) (yR rfl (m_ a0.v e0) (yR rfl (m_ (iV k) (eh J)) (yR rfl (yIa SL_32 e0 e0 b (rdF R1 C N) c1) ?_))))
    obtain ⟨i7, i8, cc113, b⟩ := b.ld (rdF R1 C N) c1
    replace b := b.eltP
    obtain ⟨i9, j0, rfl, b⟩ := b
    replace b := b.eltB
    obtain ⟨rfl, b⟩ := b
    replace b := b.eltS
    obtain ⟨g6, rfl, b⟩ := b
    refine yR rfl (yCn (cs := [.bool g3.1, g6.v]) ST_31 rfl e0 cc113) (yR rfl (lbs_ [.bool i.1, j.v] ST_31 (eh L) b R4) (yR rfl (m_ (pB c) (eh E)) (yR rfl (yn e0) (yR rfl (yFb FL_86_2 e0) (yR rfl (lbs_ [.bool p, q.v] ST_31 e0 b R3) (Rn QSn ?_))))))
    refine Lc1 rfl ?_
    replace b := (b.k17).foc2 gu110 C N O a3
    refine Lk wn (yCall FN_140 (a5 e0 e0 e0 e0 e0)) (exact_sweep_ok g4 F0 F1 (F_2 c7) b) ?_
    rintro _ w ⟨rfl, b⟩
    refine ⟨_, rfl, ?_⟩
    replace b := b.unfoc2 gu110 C O a3 g5
    exact Dz [] [] (Rn QSn (c0 _ _ _ E J K L X Z F ((b.k2n).facts (allC F1 (allT (allT allI)))) h))
  ·refine wp_exit (e9 _ _ _ rfl ?_)
   cases h
   exact e6 _ _ _ _ rfl rfl (d9 _ _ _ E J L b (e4 _ rfl))
 refine cIf e0 d (fun g7 d => ?_) fun g7 d => ?_
 ·refine sQ fun _ g8 => bE d fun j2 c2 d => bE d fun j3 c3 d => bE d fun j4 a4 d => bE d fun j6 c4 d => dR [0, 1, 3, 7, 0, 0, 32, 96, 224, 0, 0, 1024, 3072, 7168, 0, 31744, 64512, 0, 131072, 393216, 917504, 0, 4063232, 8257536, 16776703, 33553919, 67108863, 134217727] [25, 27] 2 folM ?_
  replace b := b.drew
  refine Dn [0, 1, 2, 3, 4, 5, 6, 7, 8, 9, 10, 11, 12, 13, 14, 15, 16, 17, 18, 19, 20, 21, 22, 23, 24] [] [25] (yR rfl (m_ (pB c) e0) (yR rfl (yn e0) (yR rfl (yFb FL_86_0 e0) (yR rfl (lb_ g.v O_22 e0 b R0) (yR rfl (m_ (iV o) e0) (yR rfl (m_ (pB c) e0) (yR rfl (yn e0) (yR rfl (yFb FL_86_0 e0) (yR rfl (lb_ g.v O_22 e0 b R0) (yR rfl (m_ (iV A) e0) (yR rfl (m_ (pB c) e0) (yR rfl (yn e0) (yR rfl (yFb FL_86_0 e0) ?_)))))))))))))
  refine yR rfl (lb_ g.v O_22 e0 b R0) (yR rfl (m_ (iV A) e0) ?_)
  obtain ⟨c5, a6⟩ := b.famI R2 c2
  refine yR rfl (yIa SLH_22 e0 e0 b rO1 a6) (yR rfl (yF1 O_32 e0 b rO1 a6 rfl) (yR rfl (m_ (pB c) e0) (yR rfl (yn e0) (yR rfl (yFb FL_86_0 e0) (yR rfl (lb_ g.v O_22 e0 b R0) (yR rfl (m_ (iV o) e0) ?_))))))
  obtain ⟨c6, a7⟩ := b.famI R2 c3
  refine yR rfl (yIa SLH_22 e0 e0 b rO1 a7) (yR rfl (yF1 O_32 e0 b rO1 a7 rfl) ?_)
  obtain ⟨j7, R⟩ := setI_len (u := c5) a4 (b.famL (mtR (mtR mhR)))
  refine yR rfl (yIs SLH_22 e0 e0 b rO1 R) (Rn QSn ?_)
  refine Lc1 rfl ?_
  replace b := b.k17
  refine LT wn (r_sti (cs := [c5.v]) b O_32 rfl e0 e0 rfl (mkF rfl) R) fun w b => Dn [26] [9] [27] ?_
  obtain ⟨j8, a8⟩ := setI_len (u := c6) c4 (swap_len a4 R (b.famL (mtR (mtR mhR))))
  refine yR rfl (yIs SLH_22 e0 e0 b rO0 a8) (Rn (yS rfl (m_ (iV A) e0) QSn) ?_)
  refine Lc1 rfl ?_
  refine LT wn (r_sti (cs := [c6.v]) b O_32 rfl e0 e0 rfl (mkF rfl) a8) fun w b => ?_
  replace b := (b.k19).fswap a6 c2 a7 c3 R a4 a8 c4
  refine Dz [] [] (Rn QSn (g8 _ _ (wR (Ym (pB c) e0 (Ym (pB c) e0 (yY (yn e0) (yY (yFb FL_86_3 e0) (yY (lb_ (iV G) O_3 e0 b R2) (yY (yneg e0) (yY (yn e0) (yY (yFb FL_86_3 e0) (yT (r_stb1 (vals' := [g.v, m.v, .bool p, q.v, iV (wneg .i64 G)]) (b.k19) O_3 e0 e0 rfl rfl rfl rfl) fun w b => ?_))))))))))))
  exact wN (b5 _ _ _ _ _ rfl rfl rfl (b.k2o) d)
 ·exact wp_skip (b5 _ _ _ _ _ rfl rfl rfl (b.k1i) d)
theorem exact_eliminate_ok {b7 : List (List (Bool × LI))} {k : Int} {c : Hdr} {b9 : List Hdr} {out : (List (List (Bool × LI))) × LI × Bool × LI × Int} (o : exact_eliminate b7 k = some out) (b : St w0 ros (row 32 rH c.v b9 :: fam 31 (rP rB (rS (rI .u32))) b9 b7 :: rs) w) :
  Calls Tryz.prog 61 #[c.v, iV k] w (fun e w => ∃ (c0 : List Hdr) (c1 c2 : Hdr), e = .returned (.agg #[c.v, c1.v, .bool out.2.2.1, c2.v, iV out.2.2.2.2]) ∧ St w0 (imm (rI .u32) c2.v out.2.2.2.1 :: ros) (row 32 rH c.v c0 :: fam 31 (rP rB (rS (rI .u32))) c0 out.1 :: row 3 I1 c1.v out.2.1 :: rs) w) := by
 refine enterQ Tryz.func61 rfl Tryz.ntmps61 rfl fun Q d6 => sR fun _ d7 => yBb (rAl b ZT_86) fun h w b => wK d7 (scopeQ fun j8 qs2 => sR fun _ d8 => Ym c.v e0 (bE o fun D d9 o => yC (yCall FN_82 (a1 rfl)) (integer_FromInt_ok d9 b) ?_))
 rintro _ w ⟨E, rfl, b⟩
 refine ⟨_, rfl, ?_⟩
 refine yY (ybuild (us := [c.v, hnil.v, .bool D.1, E.v, iV 1]) [(0, c.v), (2, .agg #[.bool D.1, E.v]), (3, iV 1)] SO_86 (bp3 e0 e0 rfl) rfl) (yBb (rAl b ZT_86) fun i w b => yT (r_stbn (vals' := [c.v, hnil.v, .bool D.1, E.v, iV 1]) (us := [c.v, hnil.v, .bool D.1, E.v, iV 1]) b ST_86 e0 e0 rfl rfl (one_of rfl) rfl) fun w b => wK d8 (sQ fun _ e1 => wp_label (e1 _ _ (sQ fun _ e2 => sR fun _ e3 => Ym (iV k) e0 ?_))))
 refine Ym (iV 0) rfl (wK e3 (blockQ fun e4 e5 => bE o fun e6 e7 o => ?_))
 have e8 : ∀ (I : List (List (Bool × LI))) (J : LI) (r : Bool) (K : LI) (t : Int) (L : List Hdr) (u : Hdr) (x : Hdr) (f : FV) w, f 4 = (pB h) → f 5 = (pB i) → St w0 (imm (rI .u32) x.v K :: ros) (row 32 rH c.v L :: fam 31 (rP rB (rS (rI .u32))) L I :: box h 86 [hnil.v, hnil.v, .bool false, hnil.v, iV 0] :: row 3 I1 u.v J :: box i 86 [c.v, u.v, .bool r, x.v, iV t] :: rs) w → (I, J, r, K, t) = e6 → e4 (.exit 0) (fr 41 f) w := by
  intro I J r K t L u x f w c3 e9 b ho
  subst ho
  refine e5 _ _ _ (e2 _ _ (sR fun _ f0 => yY (lbs_ [c.v, u.v, .bool r, x.v, iV t] ST_86 (eh e9) b R4) (yT (r_stbn (vals' := [c.v, u.v, .bool r, x.v, iV t]) (us := [c.v, u.v, .bool r, x.v, iV t]) (b.k19) ST_86 (eh c3) e0 rfl rfl (one_of rfl) rfl) fun w b => wK f0 (wp_ret (qs2 _ _ _ rfl ?_)))))
  cases o
  exact d6 _ _ _ (fin1r Tryz.results61 (rcs2 rfl c3 b R0 ST_86 rfl) ⟨_, _, _, rfl, (b.k2p)⟩)
 replace b := b.rowNh 3 I1
 refine loopQ (fun s a w => ∃ (y : List (List (Bool × LI))) (j : LI) (z : Bool) (A : LI) (B : Int) (g : Int) (f : FV) (p : List Hdr) (l : Hdr) (q : Hdr), (y, j, z, A, B, g) = s ∧ a = fr 41 f ∧ f 0 = c.v ∧ f 4 = (pB h) ∧ f 5 = (pB i) ∧ f 12 = iV k ∧ f 13 = iV g ∧ St w0 (imm (rI .u32) q.v A :: ros) (row 32 rH c.v p :: fam 31 (rP rB (rS (rI .u32))) p y :: box h 86 [hnil.v, hnil.v, .bool false, hnil.v, iV 0] :: row 3 I1 l.v j :: box i 86 [c.v, l.v, .bool z, q.v, iV B] :: rs) w) e7 ⟨_, _, _, _, _, _, _, _, _, _, rfl, rfl, rfl, rfl, rfl, rfl, rfl, (b.k2q)⟩ ?_
 rintro _ _ w f1 ⟨y, j, z, A, B, g, f, p, l, q, rfl, rfl, f2, c4, N, c5, O, b⟩ m f3 j9 f4 f5
 refine sR fun _ f6 => yY (ylss (eh O) (eh c5)) (wK f6 (seqQ fun k0 f7 f8 => ?_))
 refine cIf e0 m (fun f9 m => ?_) fun f9 m => ?_
 ·refine wp_skip (f7 _ _ (sQ fun g0 g1 => ?_))
  have c6 : ∀ (R : List (List (Bool × LI))) (S : LI) (T : Bool) (U : LI) (V : Int) (W : List Hdr) (X : Hdr) (Z : Hdr) (f : FV) w, f 0 = c.v → f 4 = (pB h) → f 5 = (pB i) → f 12 = iV k → f 13 = iV g → St w0 (imm (rI .u32) Z.v U :: ros) (row 32 rH c.v W :: fam 31 (rP rB (rS (rI .u32))) W R :: box h 86 [hnil.v, hnil.v, .bool false, hnil.v, iV 0] :: row 3 I1 X.v S :: box i 86 [c.v, X.v, .bool T, Z.v, iV V] :: rs) w → exact_eliminate_j12 g R S T U V = some f1 → g0 .normal (fr 41 f) w := by
   intro R S T U V W X Z f w g2 g3 g4 g5 g6 b o
   refine g1 _ _ (wR (yY (yadd (eh g6) rfl) (Ym (iV (wa .i64 g 1)) e0 (wN ?_))))
   cases o
   exact f4 _ _ _ rfl ⟨_, _, _, _, _, _, _, _, _, _, rfl, rfl, g2, g3, g4, g5, rfl, b⟩
  refine blockQ fun _ c7 => sR fun _ g7 => Ym (iV g) (eh O) (Ya (iV g) e0 (wK g7 (sR fun _ g8 => yY (yFb FL_86_1 (eh N)) (yY (lb_ l.v O_48 e0 b R4) (yY (yLen SL_48 e0 b rO3) (Ya (iV (j.length : Int)) e0 (wN ?_)))))))
  refine g8 _ _ (sR fun _ g9 => Ym (iV (j.length : Int)) e0 (Ya (iV (j.length : Int)) e0 (wK g9 (blockQ fun c8 c9 => bE m fun d0 h0 m => ?_))))
  have h1 : ∀ (a0 : List (List (Bool × LI))) (a2 : LI) (a3 : Bool) (a5 : LI) (a6 : Int) (a7 : List Hdr) (a8 : Hdr) (a9 : Hdr) (f : FV) w, f 0 = c.v → f 4 = (pB h) → f 5 = (pB i) → f 12 = iV k → f 13 = iV g → St w0 (imm (rI .u32) a9.v a5 :: ros) (row 32 rH c.v a7 :: fam 31 (rP rB (rS (rI .u32))) a7 a0 :: box h 86 [hnil.v, hnil.v, .bool false, hnil.v, iV 0] :: row 3 I1 a8.v a2 :: box i 86 [c.v, a8.v, .bool a3, a9.v, iV a6] :: rs) w → .inl (a0, a2, a3, a5, a6) = d0 → c8 (.exit 1) (fr 41 f) w := by
   intro a0 a2 a3 a5 a6 a7 a8 a9 f w h3 h4 h5 h6 h8 b ho
   subst ho
   exact c9 _ _ _ (c7 _ _ _ (c6 _ _ _ _ _ _ _ _ _ _ h3 h4 h5 h6 h8 b m))
  have h9 : ∀ (f : FV) w, f 0 = c.v → f 4 = (pB h) → f 5 = (pB i) → f 12 = iV k → f 13 = iV g → St w0 (imm (rI .u32) q.v A :: ros) (row 32 rH c.v p :: fam 31 (rP rB (rS (rI .u32))) p y :: box h 86 [hnil.v, hnil.v, .bool false, hnil.v, iV 0] :: row 3 I1 l.v j :: box i 86 [c.v, l.v, .bool z, q.v, iV B] :: rs) w → .inr () = d0 → c8 (.exit 2) (fr 41 f) w := by
   intro f w i0 i1 i2 i3 i4 b ho
   subst ho
   exact c9 _ _ _ (c7 _ _ _ (c6 _ _ _ _ _ _ _ _ _ _ i0 i1 i2 i3 i4 b m))
  refine loopQ (fun s a w => ∃ (n : Int) (f : FV), n = s ∧ a = fr 41 f ∧ f 0 = c.v ∧ f 4 = (pB h) ∧ f 5 = (pB i) ∧ f 6 = iV g ∧ f 7 = iV (j.length : Int) ∧ f 8 = iV n ∧ f 12 = iV k ∧ f 13 = iV g ∧ St w0 (imm (rI .u32) q.v A :: ros) (row 32 rH c.v p :: fam 31 (rP rB (rS (rI .u32))) p y :: box h 86 [hnil.v, hnil.v, .bool false, hnil.v, iV 0] :: row 3 I1 l.v j :: box i 86 [c.v, l.v, .bool z, q.v, iV B] :: rs) w) h0 ⟨_, _, rfl, rfl, f2, c4, N, rfl, rfl, rfl, c5, O, b⟩ ?_
  rintro _ _ w k2 ⟨n, f, rfl, rfl, C, b0, F, b1, d1, G, b2, b3, b⟩ d d2 k7 i5 d3
  refine seqQ fun k8 i6 i7 => sR fun _ i8 => Ym (iV n) (eh G) (Ym c.v (eh C) (yY (yLenF SLH_22 e0 b rO0 R1) (yY (ylss e0 e0) (wK i8 ?_))))
  refine cIf e0 d (fun i9 d => ?_) fun i9 d => ?_
  ·refine wp_skip (i6 _ _ (seqQ fun k9 j0 j1 => blockQ fun _ d4 => sR fun _ j2 => Ym c.v (eh C) (Ym (iV n) (eh G) (bE d fun l0 b4 d => ?_))))
   obtain ⟨l1, H⟩ := b.famI R1 b4
   refine yY (yIa SLH_22 e0 e0 b rO0 H) (yY (yF1 O_32 e0 b rO0 H rfl) (Ym (iV g) (eh b1) (bE d fun j3 d5 d => yY (yIa SL_32 e0 e0 b (rdF R1 H b4) d5) ?_)))
   obtain ⟨l2, l3, cc521, b⟩ := b.ld (rdF R1 H b4) d5
   replace b := b.eltP
   obtain ⟨l4, l5, rfl, b⟩ := b
   replace b := b.eltB
   obtain ⟨rfl, b⟩ := b
   replace b := b.eltS
   obtain ⟨j4, rfl, b⟩ := b
   refine yY (yCn (cs := [.bool j3.1, j4.v]) ST_31 rfl e0 cc521) (bE d fun l6 j5 d => yC (yCall FN_29 (a1 e0)) (integer_Sign_ok j5 F0 b) ?_)
   rintro _ w ⟨rfl, b⟩
   refine ⟨_, rfl, ?_⟩
   refine yY (yneq e0 rfl) (wK j2 ?_)
   rcases iteS d with ⟨b6, d⟩ | ⟨b6, d⟩
   ·refine condF e0 (nF (dT b6)) (wp_skip (d4 _ _ _ (j0 _ _ (wR (Ym (iV n) (eh G) (yY (yadd e0 rfl) (Ya (iV (wa .i64 n 1)) e0 (wN ?_))))))))
    cases d
    exact i5 _ _ _ rfl ⟨_, _, rfl, rfl, C, b0, F, b1, d1, rfl, b2, b3, (b.facts (allC F1 (allT (allT allI))))⟩
   ·refine condT e0 (nT (dF b6)) (sR fun _ j6 => Ym (iV g) (eh b1) (Ym (iV (j.length : Int)) (eh d1) (Ym (iV n) (eh G) (bE d fun l7 j7 d => ?_))))
    replace b := b.k2r
    refine yC (yCall FN_107 (a4 (eh F) e0 e0 e0)) (exact_reduced_step_ok j7 F1 b) ?_
    rintro _ w ⟨l8, l9, m0, rfl, b⟩
    refine ⟨_, rfl, ?_⟩
    refine wK j6 (wp_exit (d4 _ _ _ (j1 _ _ _ rfl ?_)))
    cases d
    exact d3 _ _ _ _ rfl rfl (h1 _ _ _ _ _ _ _ _ _ _ C b0 F b2 b3 ((b.k2s).facts (allC F0 (allT (allT (allT allI))))) (d2 _ rfl))
  ·refine wp_exit (i7 _ _ _ rfl ?_)
   cases d
   exact d3 _ _ _ _ rfl rfl (h9 _ _ C b0 F b2 b3 b (d2 _ rfl))
 ·refine wp_exit (f8 _ _ _ rfl ?_)
  cases m
  exact f5 _ _ _ _ rfl rfl (e8 _ _ _ _ _ _ _ _ _ _ c4 N b (f3 _ rfl))
end Go.Proofs.YtpfmbaidflhamaaGreatDoor
