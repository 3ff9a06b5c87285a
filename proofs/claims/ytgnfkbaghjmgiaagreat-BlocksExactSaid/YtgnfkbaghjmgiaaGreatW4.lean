/- Walks: each function computes its model, printed. -/
import Derived.Test.YtgnfkbaghjmgiaaGreatW3
namespace Go.Proofs.YtgnfkbaghjmgiaaGreat
open Go Sx M
set_option maxRecDepth 100000
set_option maxHeartbeats 40000000
set_option linter.unusedVariables false
attribute [local irreducible] wpList Code.wp Calls DR QR QS LA LS St
variable {w0 : World} {ros : List Fact} {rs : List Res} {w : World}
theorem sparseref06_Finite_ok {m : LI} {g : Hdr} {out : Bool} (h : sparseref06_Finite m = some out) (i : imm (rI .u64) g.v m ∈ ros) (b : St w0 ros rs w) :
  Calls Tryz.prog 50 #[g.v] w (fun e w => e = .returned (.bool out) ∧ St w0 ros rs w) := by
 refine enterQ Tryz.func50 rfl Tryz.ntmps50 rfl fun Q n => sR fun _ y => Ya (.bool false) rfl (wK y (seqQ fun U z A => sR fun _ B => Ya (iV 0) rfl (wK B (blockQ fun o p => bE h fun q C h => ?_))))
 have D : ∀ (f : FV) w, St w0 ros rs w → .inl () = q → o (.exit 0) (fr 16 f) w := by
  intro f w b ho
  subst ho
  refine p _ _ _ (z _ _ (sR fun _ E => Ya (.bool true) rfl (wK E (wp_ret ?_))))
  cases h
  exact n _ _ _ (fin1r Tryz.results50 ⟨rfl, rfl⟩ ⟨rfl, b⟩)
 have F : ∀ (f : FV) w, f 2 = .bool false → St w0 ros rs w → .inr () = q → o .ret (fr 16 f) w := by
  intro f w G b ho
  subst ho
  refine p _ _ _ (A _ _ _ rfl ?_)
  cases h
  exact n _ _ _ (fin1r Tryz.results50 ⟨rfl, G⟩ ⟨rfl, b⟩)
 refine loopQ (fun s a w => ∃ (d : Int) (f : FV), d = s ∧ a = fr 16 f ∧ f 0 = g.v ∧ f 3 = iV d ∧ St w0 ros rs w) C ⟨_, _, rfl, rfl, rfl, rfl, b⟩ ?_
 rintro _ _ w V ⟨d, f, rfl, rfl, j, k, b⟩ c r W H t
 refine seqQ fun X I J => sR fun _ K => Ym (iV d) (eh k) (Ym g.v (eh j) (yY (yLen SL_23 e0 b (rdI i)) (yY (ylss e0 e0) (wK K ?_))))
 refine cIf e0 c (fun L c => ?_) fun L c => ?_
 ·refine wp_skip (I _ _ (seqQ fun Z N O => blockQ fun _ u => sR fun _ R => Ym g.v (eh j) (Ym (iV d) (eh k) (bE c fun a0 x c => yY (yIa SL_23 e0 e0 b (rdI i) x) (yY (yI O_44 e0 b (rdI i) x) (bE c fun a2 S c => yC (yCall FN_69 (a1 e0)) (sparseref03_IsFinite_ok S b) ?_))))))
  rintro _ w ⟨rfl, b⟩
  refine ⟨_, rfl, ?_⟩
  refine yY (ynot e0) (wK R ?_)
  rcases iteS c with ⟨l, c⟩ | ⟨l, c⟩
  ·refine condF e0 (nF l) (wp_skip (u _ _ _ (N _ _ (wR (Ym (iV d) (eh k) (yY (yadd e0 rfl) (Ya (iV (wa .i64 d 1)) e0 (wN ?_))))))))
   cases c
   exact H _ _ _ rfl ⟨_, _, rfl, rfl, j, rfl, b⟩
  ·refine condT e0 (nT (bfalse l)) (sR fun _ T => Ya (.bool false) rfl (wK T (wp_ret (u _ _ _ (O _ _ _ rfl ?_)))))
   cases c
   exact t _ _ _ _ rfl rfl (F _ _ rfl b (r _ rfl))
 ·refine wp_exit (J _ _ _ rfl ?_)
  cases c
  exact t _ _ _ _ rfl rfl (D _ _ b (r _ rfl))
theorem sparseref09_Check_ok {c d : Int} {a2 A W : LI} {l i r : Hdr} {out : Int} (m : sparseref09_Check c d a2 A W = some out) (x : imm I1 l.v a2 ∈ ros) (o : imm I1 i.v A ∈ ros) (b8 : imm (rI .u64) r.v W ∈ ros) (b : St w0 ros rs w) :
  Calls Tryz.prog 23 #[.agg #[iV c, iV d, l.v, i.v, r.v]] w (fun e w => e = .returned (iV out) ∧ St w0 ros rs w) := by
 refine enterQ Tryz.func23 rfl Tryz.ntmps23 rfl fun Q X => sR fun _ g0 => yBb (r_box (vals := [iV c, iV d, l.v, i.v, r.v]) b e0 rfl) fun j w b => Ya (iV 0) rfl (wK g0 (seqQ fun r3 g1 g2 => sR fun _ g3 => yY (yFb FL_25_0 e0) (yY (lb_ (iV c) O_3 e0 b R0) (yY (ylss e0 rfl) ?_))))
 refine Ym (.bool (decide (c < 0))) e0 ?_
 refine joinW 4 (fun f w => f 1 = (pB j) ∧ f 14 = .bool ((decide (c < 0)) || (decide ((200 : Int) < c))) ∧ St w0 ros (box j 25 [iV c, iV d, l.v, i.v, r.v] :: rs) w) (fun c0 => ?_) ?_
 ·rcases Bool.eq_false_or_eq_true (decide (c < 0)) with F | F
  ·exact gN F (gN F (gN F (yY (pt_ (.bool true) e0 F rfl) (c0 _ _ ⟨rfl, (congrArg Value.bool (orT F)), b⟩))))
  ·exact yG F (yFb FL_25_0 e0) (yG F (lb_ (iV c) O_3 e0 b R0) (yG F (ygtr e0 rfl) (yY (pf_ (.bool (decide ((200 : Int) < c))) e0 F e0) (c0 _ _ ⟨rfl, (congrArg Value.bool (orF F)), b⟩))))
 rintro f w ⟨b1, g4, b⟩
 refine Ym (.bool ((decide (c < 0)) || (decide ((200 : Int) < c)))) (eh g4) ?_
 refine joinW 4 (fun f w => f 1 = (pB j) ∧ f 19 = .bool (((decide (c < 0)) || (decide ((200 : Int) < c))) || (decide (d < 0))) ∧ St w0 ros (box j 25 [iV c, iV d, l.v, i.v, r.v] :: rs) w) (fun c1 => ?_) ?_
 ·rcases Bool.eq_false_or_eq_true ((decide (c < 0)) || (decide ((200 : Int) < c))) with G | G
  ·exact gN G (gN G (gN G (yY (pt_ (.bool true) e0 G rfl) (c1 _ _ ⟨b1, (congrArg Value.bool (orT G)), b⟩))))
  ·exact yG G (yFb FL_25_1 (eh b1)) (yG G (lb_ (iV d) O_3 e0 b R0) (yG G (ylss e0 rfl) (yY (pf_ (.bool (decide (d < 0))) e0 G e0) (c1 _ _ ⟨b1, (congrArg Value.bool (orF G)), b⟩))))
 rintro f w ⟨b2, g5, b⟩
 refine Ym (.bool (((decide (c < 0)) || (decide ((200 : Int) < c))) || (decide (d < 0)))) (eh g5) ?_
 refine joinW 4 (fun f w => f 1 = (pB j) ∧ f 24 = .bool ((((decide (c < 0)) || (decide ((200 : Int) < c))) || (decide (d < 0))) || (decide ((200 : Int) < d))) ∧ St w0 ros (box j 25 [iV c, iV d, l.v, i.v, r.v] :: rs) w) (fun c2 => ?_) ?_
 ·rcases Bool.eq_false_or_eq_true (((decide (c < 0)) || (decide ((200 : Int) < c))) || (decide (d < 0))) with H | H
  ·exact gN H (gN H (gN H (yY (pt_ (.bool true) e0 H rfl) (c2 _ _ ⟨b2, (congrArg Value.bool (orT H)), b⟩))))
  ·exact yG H (yFb FL_25_1 (eh b2)) (yG H (lb_ (iV d) O_3 e0 b R0) (yG H (ygtr e0 rfl) (yY (pf_ (.bool (decide ((200 : Int) < d))) e0 H e0) (c2 _ _ ⟨b2, (congrArg Value.bool (orF H)), b⟩))))
 rintro f w ⟨b3, g6, b⟩
 refine Ym (.bool ((((decide (c < 0)) || (decide ((200 : Int) < c))) || (decide (d < 0))) || (decide ((200 : Int) < d)))) (eh g6) ?_
 refine joinW 5 (fun f w => f 1 = (pB j) ∧ f 30 = .bool (((((decide (c < 0)) || (decide ((200 : Int) < c))) || (decide (d < 0))) || (decide ((200 : Int) < d))) || (decide ((10000 : Int) < (A.length : Int)))) ∧ St w0 ros (box j 25 [iV c, iV d, l.v, i.v, r.v] :: rs) w) (fun c3 => ?_) ?_
 ·rcases Bool.eq_false_or_eq_true ((((decide (c < 0)) || (decide ((200 : Int) < c))) || (decide (d < 0))) || (decide ((200 : Int) < d))) with B | B
  ·exact gN B (gN B (gN B (gN B (yY (pt_ (.bool true) e0 B rfl) (c3 _ _ ⟨b3, (congrArg Value.bool (orT B)), b⟩)))))
  ·exact yG B (yFb FL_25_3 (eh b3)) (yG B (lb_ i.v O_22 e0 b R0) (yG B (yLen SL_22 e0 b (rdI o)) (yG B (ygtr e0 rfl) (yY (pf_ (.bool (decide ((10000 : Int) < (A.length : Int)))) e0 B e0) (c3 _ _ ⟨b3, (congrArg Value.bool (orF B)), b⟩)))))
 rintro f w ⟨Z, g7, b⟩
 refine wK g3 (cB (eh g7) m (fun g8 m => ?_) fun g8 m => ?_)
 ·refine sR fun _ g9 => Ya (iV 6) rfl (wK g9 (wp_ret (g2 _ _ _ rfl ?_)))
  cases m
  exact X _ _ _ (fin1r Tryz.results23 ⟨rfl, rfl⟩ ⟨rfl, (b.k10)⟩)
 ·refine wp_skip (g1 _ _ (sR fun _ h0 => yY (yFb FL_25_3 (eh Z)) (yY (lb_ i.v O_22 e0 b R0) (yY (yLen SL_22 e0 b (rdI o)) (Ya (iV (A.length : Int)) e0 (wK h0 (seqQ fun r4 h1 h2 => sR fun _ h3 => yY (yFb FL_25_4 (eh Z)) ?_)))))))
  refine yY (lb_ r.v O_23 e0 b R0) (yY (yLen SL_23 e0 b (rdI b8)) (Ym (iV (A.length : Int)) e0 (yY (yneq e0 e0) (Ym (.bool (!(decide ((W.length : Int) = (A.length : Int))))) e0 ?_))))
  refine joinW 8 (fun f w => f 1 = (pB j) ∧ f 3 = iV (A.length : Int) ∧ f 47 = .bool ((!(decide ((W.length : Int) = (A.length : Int)))) || (!(decide ((a2.length : Int) = (wa .i64 d 1))))) ∧ St w0 ros (box j 25 [iV c, iV d, l.v, i.v, r.v] :: rs) w) (fun c4 => ?_) ?_
  ·rcases Bool.eq_false_or_eq_true (!(decide ((W.length : Int) = (A.length : Int)))) with t | t
   ·exact gN t (gN t (gN t (gN t (gN t (gN t (gN t (yY (pt_ (.bool true) e0 t rfl) (c4 _ _ ⟨Z, rfl, (congrArg Value.bool (orT t)), b⟩))))))))
   ·exact yG t (yFb FL_25_2 (eh Z)) (yG t (lb_ l.v O_22 e0 b R0) (yG t (yLen SL_22 e0 b (rdI x)) (yG t (yFb FL_25_1 (eh Z)) (yG t (lb_ (iV d) O_3 e0 b R0) (yG t (yadd e0 rfl) (yG t (yneq e0 e0) (yY (pf_ (.bool (!(decide ((a2.length : Int) = (wa .i64 d 1))))) e0 t e0) (c4 _ _ ⟨Z, rfl, (congrArg Value.bool (orF t)), b⟩))))))))
  rintro f w ⟨b4, c5, h5, b⟩
  refine Ym (.bool ((!(decide ((W.length : Int) = (A.length : Int)))) || (!(decide ((a2.length : Int) = (wa .i64 d 1)))))) (eh h5) (bE m fun c6 T m => ?_)
  refine joinW 6 (fun f w => f 1 = (pB j) ∧ f 3 = iV (A.length : Int) ∧ f 54 = .bool c6 ∧ St w0 ros (box j 25 [iV c, iV d, l.v, i.v, r.v] :: rs) w) (fun c7 => ?_) ?_
  ·rcases iteS T with ⟨C, T⟩ | ⟨C, T⟩
   ·refine gN C (gN C (gN C (gN C (gN C (yY (pt_ (.bool true) e0 C rfl) ?_)))))
    cases T
    exact c7 _ _ ⟨b4, c5, rfl, b⟩
   ·refine yG (bfalse C) (yFb FL_25_2 (eh b4)) (yG (bfalse C) (lb_ l.v O_22 e0 b R0) (bE T fun h7 c8 T => yG (bfalse C) (yIa SL_22 e0 rfl b (rdI x) c8) (yG (bfalse C) (yI O_3 e0 b (rdI x) c8) (yG (bfalse C) (yneq e0 rfl) (yY (pf_ (.bool (!(decide (h7 = 0)))) e0 (bfalse C) e0) ?_)))))
    cases T
    exact c7 _ _ ⟨b4, c5, rfl, b⟩
  rintro f w ⟨a5, h9, i0, b⟩
  refine Ym (.bool c6) (eh i0) (bE m fun i1 U m => ?_)
  refine joinW 9 (fun f w => f 1 = (pB j) ∧ f 64 = .bool i1 ∧ St w0 ros (box j 25 [iV c, iV d, l.v, i.v, r.v] :: rs) w) (fun c9 => ?_) ?_
  ·rcases iteS U with ⟨u, U⟩ | ⟨u, U⟩
   ·refine gN u (gN u (gN u (gN u (gN u (gN u (gN u (gN u (yY (pt_ (.bool true) e0 u rfl) ?_))))))))
    cases U
    exact c9 _ _ ⟨a5, rfl, b⟩
   ·refine yG (bfalse u) (yFb FL_25_2 (eh a5)) (yG (bfalse u) (lb_ l.v O_22 e0 b R0) (yG (bfalse u) (yFb FL_25_1 (eh a5)) (yG (bfalse u) (lb_ (iV d) O_3 e0 b R0) (bE U fun i2 d0 U => yG (bfalse u) (yIa SL_22 e0 e0 b (rdI x) d0) (yG (bfalse u) (yI O_3 e0 b (rdI x) d0) (yG (bfalse u) (m_ (iV (A.length : Int)) (eh h9)) (yG (bfalse u) (yneq e0 e0) (yY (pf_ (.bool (!(decide (i2 = (A.length : Int))))) e0 (bfalse u) e0) ?_))))))))
    cases U
    exact c9 _ _ ⟨a5, rfl, b⟩
  rintro f w ⟨i3, i4, b⟩
  refine wK h3 (cB (eh i4) m (fun i5 m => ?_) fun i5 m => ?_)
  ·refine sR fun _ i6 => Ya (iV 1) rfl (wK i6 (wp_ret (h2 _ _ _ rfl ?_)))
   cases m
   exact X _ _ _ (fin1r Tryz.results23 ⟨rfl, rfl⟩ ⟨rfl, (b.k10)⟩)
  ·refine wp_skip (h1 _ _ (seqQ fun r5 i7 i8 => sR fun _ i9 => Ya (iV 0) rfl (wK i9 (blockQ fun d1 d2 => bE m fun d3 j0 m => ?_))))
   have j8 : ∀ (f : FV) w, f 1 = (pB j) → St w0 ros (box j 25 [iV c, iV d, l.v, i.v, r.v] :: rs) w → .inl () = d3 → d1 (.exit 0) (fr 147 f) w := by
    intro f w j9 b ho
    subst ho
    refine d2 _ _ _ (i7 _ _ (seqQ fun r6 k0 l0 => sR fun _ l1 => Ya (iV 0) rfl (wK l1 (blockQ fun d4 d5 => bE m fun d6 l2 m => ?_))))
    have l3 : ∀ (f : FV) w, f 1 = (pB j) → St w0 ros (box j 25 [iV c, iV d, l.v, i.v, r.v] :: rs) w → .inl () = d6 → d4 (.exit 2) (fr 147 f) w := by
     intro f w l4 b ho
     subst ho
     refine d5 _ _ _ (k0 _ _ (seqQ fun r7 l5 l6 => sR fun _ l7 => yY (yFb FL_25_4 (eh l4)) (yY (lb_ r.v O_23 e0 b R0) (bE m fun r8 l8 m => yC (yCall FN_50 (a1 e0)) (sparseref06_Finite_ok l8 b8 b) ?_))))
     rintro _ w ⟨rfl, b⟩
     refine ⟨_, rfl, ?_⟩
     refine yY (ynot e0) (wK l7 ?_)
     rcases iteS m with ⟨b5, m⟩ | ⟨b5, m⟩
     ·refine condF e0 (nF b5) (wp_skip (l5 _ _ (sR fun _ l9 => Ya (iV 0) rfl (wK l9 (wp_ret ?_)))))
      cases m
      exact X _ _ _ (fin1r Tryz.results23 ⟨rfl, rfl⟩ ⟨rfl, (b.k10)⟩)
     ·refine condT e0 (nT (bfalse b5)) (sR fun _ m0 => Ya (iV 4) rfl (wK m0 (wp_ret (l6 _ _ _ rfl ?_))))
      cases m
      exact X _ _ _ (fin1r Tryz.results23 ⟨rfl, rfl⟩ ⟨rfl, (b.k10)⟩)
    have m1 : ∀ (f : FV) w, f 2 = iV 1 → St w0 ros rs w → .inr () = d6 → d4 .ret (fr 147 f) w := by
     intro f w m2 b ho
     subst ho
     refine d5 _ _ _ (l0 _ _ _ rfl ?_)
     cases m
     exact X _ _ _ (fin1r Tryz.results23 ⟨rfl, m2⟩ ⟨rfl, b⟩)
    refine loopQ (fun s a w => ∃ (D : Int) (f : FV), D = s ∧ a = fr 147 f ∧ f 1 = (pB j) ∧ f 5 = iV D ∧ St w0 ros (box j 25 [iV c, iV d, l.v, i.v, r.v] :: rs) w) l2 ⟨_, _, rfl, rfl, j9, rfl, b⟩ ?_
    rintro _ _ w r9 ⟨D, f, rfl, rfl, a6, b6, b⟩ K d7 s0 m3 d8
    refine seqQ fun s1 m4 m5 => sR fun _ m6 => Ym (iV D) (eh b6) (yY (yFb FL_25_1 (eh a6)) (yY (lb_ (iV d) O_3 e0 b R0) (yY (ylss e0 e0) (wK m6 ?_))))
    refine cIf e0 K (fun m7 K => ?_) fun m7 K => ?_
    ·refine wp_skip (m4 _ _ (seqQ fun s2 m8 m9 => blockQ fun _ d9 => sR fun _ n0 => yY (yFb FL_25_2 (eh a6)) (yY (lb_ l.v O_22 e0 b R0) (Ym (iV D) (eh b6) (bE K fun n1 e1 K => yY (yIa SL_22 e0 e0 b (rdI x) e1) (yY (yI O_3 e0 b (rdI x) e1) (Ya (iV n1) e0 (wN ?_))))))))
     refine n0 _ _ (blockQ fun e2 e3 => bE K fun e4 n2 K => ?_)
     have n3 : ∀ (f : FV) w, f 1 = (pB j) → f 5 = iV D → St w0 ros (box j 25 [iV c, iV d, l.v, i.v, r.v] :: rs) w → .inl () = e4 → e2 (.exit 4) (fr 147 f) w := by
      intro f w n4 n5 b ho
      subst ho
      refine e3 _ _ _ (d9 _ _ _ (m8 _ _ (wR (Ym (iV D) (eh n5) (yY (yadd e0 rfl) (Ya (iV (wa .i64 D 1)) e0 (wN ?_)))))))
      cases K
      exact m3 _ _ _ rfl ⟨_, _, rfl, rfl, n4, rfl, b⟩
     have n6 : ∀ (f : FV) w, f 2 = iV 1 → St w0 ros rs w → .inr () = e4 → e2 .ret (fr 147 f) w := by
      intro f w n7 b ho
      subst ho
      refine e3 _ _ _ (d9 _ _ _ (m9 _ _ _ rfl ?_))
      cases K
      exact d8 _ _ _ _ rfl rfl (m1 _ _ n7 b (d7 _ rfl))
     refine loopQ (fun s a w => ∃ (p : Int) (f : FV), p = s ∧ a = fr 147 f ∧ f 1 = (pB j) ∧ f 5 = iV D ∧ f 6 = iV p ∧ St w0 ros (box j 25 [iV c, iV d, l.v, i.v, r.v] :: rs) w) n2 ⟨_, _, rfl, rfl, a6, b6, rfl, b⟩ ?_
     rintro _ _ w s3 ⟨p, f, rfl, rfl, q, O, z, b⟩ y e5 s4 n9 e6
     refine seqQ fun s5 o0 o1 => sR fun _ o2 => Ym (iV p) (eh z) (yY (yFb FL_25_2 (eh q)) (yY (lb_ l.v O_22 e0 b R0) (Ym (iV D) (eh O) (yY (yadd e0 rfl) (bE y fun s6 e7 y => yY (yIa SL_22 e0 e0 b (rdI x) e7) (yY (yI O_3 e0 b (rdI x) e7) (yY (ylss e0 e0) (wK o2 ?_))))))))
     refine cIf e0 y (fun o3 y => ?_) fun o3 y => ?_
     ·refine wp_skip (o0 _ _ (seqQ fun s7 o4 o5 => blockQ fun _ e8 => sQ fun _ o6 => bE y fun a7 R y => bE y fun L V y => bE y fun a3 I y => ?_))
      refine joinN (n := 147) (fun f w => f 1 = (pB j) ∧ f 5 = iV D ∧ f 6 = iV p ∧ f 142 = .bool a3 ∧ St w0 ros (box j 25 [iV c, iV d, l.v, i.v, r.v] :: rs) w) (fun a8 => ?_) ?_
      ·rcases iteS V with ⟨g, V⟩ | ⟨g, V⟩
       ·have e9 := someI V
        have J : L = true := e9.symm
        rw [if_pos J] at I
        have o7 := someI I
        refine dR [0, 1, 0, 7, 15, 31, 63, 127, 255, 127, 1023, 2047, 127, 4223, 16383, 32767, 65535, 131071, 131071, 393215, 131071, 1966079, 4063231, 8388607, 16777215, 33554431, 67108863, 33554431, 268435455, 536870911, 33554431, 1107296255, 33554431, 4328521727, 16139681791, 33319550975, 68719476735, 137438953471, 274877906943] [] 0 folM ?_
        replace b := b.drew
        refine Dz [0, 1, 2, 3, 4, 5, 6, 7, 8, 9, 10, 11, 12, 13, 14, 15, 16, 17, 18, 19, 20, 21, 22, 23, 24, 25, 26, 27, 28, 29, 30, 31, 32, 33, 34, 35, 36, 37, 38] [] (yR rfl (yFb FL_25_3 (eh q)) (yR rfl (lb_ i.v O_22 e0 b R0) (yR rfl (m_ (iV p) (eh z)) (yR rfl (yIa SL_22 e0 e0 b (rdI o) R) (yR rfl (yI O_3 e0 b (rdI o) R) (yR rfl (ylss e0 rfl) (yR rfl (m_ (.bool (decide (a7 < 0))) e0) (Rx rfl rfl (wX (dT g)) (Rx rfl rfl (wX (dT g)) (Rx rfl rfl (wX (dT g)) (Rx rfl rfl (wX (dT g)) (Rx rfl rfl (wX (dT g)) (Rx rfl rfl (wX (dT g)) ?_)))))))))))))
        refine Rx rfl rfl (wX (dT g)) (Rx rfl rfl (wX (dT g)) (yR rfl (pt_ (.bool L) e0 (dT g) (eqv e9 rfl)) (yR rfl (m_ (.bool L) e0) (Rx rfl rfl (wX J) (Rx rfl rfl (wX J) (Rx rfl rfl (wX J) (Rx rfl rfl (wX J) (Rx rfl rfl (wX J) (Rx rfl rfl (wX J) (Rx rfl rfl (wX J) (Rx rfl rfl (wX J) (Rx rfl rfl (wxu rfl rfl rfl) (Rx rfl rfl (wxu rfl rfl rfl) ?_)))))))))))))
        exact Rx rfl rfl (wxu rfl rfl rfl) (Rx rfl rfl (wxu rfl rfl rfl) (Rx rfl rfl (wxu rfl rfl rfl) (Rx rfl rfl (wxu rfl rfl rfl) (Rx rfl rfl (wxu rfl rfl rfl) (Rx rfl rfl (wxu rfl rfl rfl) (Rx rfl rfl (wxu rfl rfl rfl) (Rx rfl rfl (wxu rfl rfl rfl) (Rx rfl rfl (wxu rfl rfl rfl) (Rx rfl rfl (wxu rfl rfl rfl) (Rx rfl rfl (wX J) (yR rfl (pt_ (.bool a3) e0 J (eqv o7 rfl)) (Rn QSn (a8 _ _ ⟨q, O, z, rfl, b⟩)))))))))))))
       ·refine bE V fun s8 a0 V => ?_
        have b7 := someI V
        rcases iteS I with ⟨h, I⟩ | ⟨h, I⟩
        ·have o9 := someI I
         refine dR [0, 1, 0, 7, 15, 31, 63, 127, 255, 127, 1023, 2047, 127, 4223, 16383, 32767, 65535, 131071, 131071, 393215, 131071, 1966079, 4063231, 8388607, 16777215, 33554431, 67108863, 33554431, 268435455, 536870911, 33554431, 1107296255, 33554431, 4328521727, 16139681791, 33319550975, 68719476735, 137438953471, 274877906943] [] 0 folM ?_
         replace b := b.drew
         refine Dz [0, 1, 2, 3, 4, 5, 6, 7, 8, 9, 10, 11, 12, 13, 14, 15, 16, 17, 18, 19, 20, 21, 22, 23, 24, 25, 26, 27, 28, 29, 30, 31, 32, 33, 34, 35, 36, 37, 38] [] (yR rfl (yFb FL_25_3 (eh q)) (yR rfl (lb_ i.v O_22 e0 b R0) (yR rfl (m_ (iV p) (eh z)) (yR rfl (yIa SL_22 e0 e0 b (rdI o) R) (yR rfl (yI O_3 e0 b (rdI o) R) (yR rfl (ylss e0 rfl) (yR rfl (m_ (.bool (decide (a7 < 0))) e0) (Ry rfl rfl (wG (dF g)) (yFb FL_25_3 (eh q)) (Ry rfl rfl (wG (dF g)) (lb_ i.v O_22 e0 b R0) (Ry rfl rfl (wG (dF g)) (m_ (iV p) (eh z)) (Ry rfl rfl (wG (dF g)) (yIa SL_22 e0 e0 b (rdI o) a0) (Ry rfl rfl (wG (dF g)) (yI O_3 e0 b (rdI o) a0) (Ry rfl rfl (wG (dF g)) (yFb FL_25_0 (eh q)) ?_)))))))))))))
         refine Ry rfl rfl (wG (dF g)) (lb_ (iV c) O_3 e0 b R0) (Ry rfl rfl (wG (dF g)) (ygeq e0 e0) (yR rfl (pf_ (.bool L) e0 (dF g) (eqv b7 e0)) (yR rfl (m_ (.bool L) e0) (Rx rfl rfl (wX h) (Rx rfl rfl (wX h) (Rx rfl rfl (wX h) (Rx rfl rfl (wX h) (Rx rfl rfl (wX h) (Rx rfl rfl (wX h) (Rx rfl rfl (wX h) (Rx rfl rfl (wX h) (Rx rfl rfl (wxu rfl rfl rfl) (Rx rfl rfl (wxu rfl rfl rfl) ?_)))))))))))))
         exact Rx rfl rfl (wxu rfl rfl rfl) (Rx rfl rfl (wxu rfl rfl rfl) (Rx rfl rfl (wxu rfl rfl rfl) (Rx rfl rfl (wxu rfl rfl rfl) (Rx rfl rfl (wxu rfl rfl rfl) (Rx rfl rfl (wxu rfl rfl rfl) (Rx rfl rfl (wxu rfl rfl rfl) (Rx rfl rfl (wxu rfl rfl rfl) (Rx rfl rfl (wxu rfl rfl rfl) (Rx rfl rfl (wxu rfl rfl rfl) (Rx rfl rfl (wX h) (yR rfl (pt_ (.bool a3) e0 h (eqv o9 rfl)) (Rn QSn (a8 _ _ ⟨q, O, z, rfl, b⟩)))))))))))))
        ·refine bE I fun f0 a9 I => bE I fun f1 N I => ?_
         have f2 := someI I
         rcases iteS N with ⟨k, N⟩ | ⟨k, N⟩
         ·refine bE N fun s9 f3 N => bE N fun t0 f4 N => ?_
          have p0 := someI N
          refine dR [0, 1, 0, 7, 15, 31, 63, 127, 255, 127, 1023, 2047, 127, 4223, 16383, 32767, 65535, 131071, 131071, 393215, 131071, 1966079, 4063231, 8388607, 16777215, 33554431, 67108863, 33554431, 268435455, 536870911, 33554431, 1107296255, 33554431, 4328521727, 16139681791, 33319550975, 68719476735, 137438953471, 274877906943] [] 0 folM ?_
          replace b := b.drew
          refine Dz [0, 1, 2, 3, 4, 5, 6, 7, 8, 9, 10, 11, 12, 13, 14, 15, 16, 17, 18, 19, 20, 21, 22, 23, 24, 25, 26, 27, 28, 29, 30, 31, 32, 33, 34, 35, 36, 37, 38] [] (yR rfl (yFb FL_25_3 (eh q)) (yR rfl (lb_ i.v O_22 e0 b R0) (yR rfl (m_ (iV p) (eh z)) (yR rfl (yIa SL_22 e0 e0 b (rdI o) R) (yR rfl (yI O_3 e0 b (rdI o) R) (yR rfl (ylss e0 rfl) (yR rfl (m_ (.bool (decide (a7 < 0))) e0) (Ry rfl rfl (wG (dF g)) (yFb FL_25_3 (eh q)) (Ry rfl rfl (wG (dF g)) (lb_ i.v O_22 e0 b R0) (Ry rfl rfl (wG (dF g)) (m_ (iV p) (eh z)) (Ry rfl rfl (wG (dF g)) (yIa SL_22 e0 e0 b (rdI o) a0) (Ry rfl rfl (wG (dF g)) (yI O_3 e0 b (rdI o) a0) (Ry rfl rfl (wG (dF g)) (yFb FL_25_0 (eh q)) ?_)))))))))))))
          refine Ry rfl rfl (wG (dF g)) (lb_ (iV c) O_3 e0 b R0) (Ry rfl rfl (wG (dF g)) (ygeq e0 e0) (yR rfl (pf_ (.bool L) e0 (dF g) (eqv b7 e0)) (yR rfl (m_ (.bool L) e0) (Ry rfl rfl (wG (bfalse h)) (m_ (iV p) (eh z)) (Ry rfl rfl (wG (bfalse h)) (yFb FL_25_2 (eh q)) (Ry rfl rfl (wG (bfalse h)) (lb_ l.v O_22 e0 b R0) (Ry rfl rfl (wG (bfalse h)) (m_ (iV D) (eh O)) (Ry rfl rfl (wG (bfalse h)) (yIa SL_22 e0 e0 b (rdI x) a9) (Ry rfl rfl (wG (bfalse h)) (yI O_3 e0 b (rdI x) a9) (Ry rfl rfl (wG (bfalse h)) (ygtr e0 e0) (Ry rfl rfl (wG (bfalse h)) (m_ (.bool (decide (f0 < p))) e0) (Ry rfl rfl (wG (dT k)) (yFb FL_25_3 (eh q)) (Ry rfl rfl (wG (dT k)) (lb_ i.v O_22 e0 b R0) ?_)))))))))))))
          exact Ry rfl rfl (wG (dT k)) (m_ (iV p) (eh z)) (Ry rfl rfl (wG (dT k)) (yIa SL_22 e0 e0 b (rdI o) f3) (Ry rfl rfl (wG (dT k)) (yI O_3 e0 b (rdI o) f3) (Ry rfl rfl (wG (dT k)) (yFb FL_25_3 (eh q)) (Ry rfl rfl (wG (dT k)) (lb_ i.v O_22 e0 b R0) (Ry rfl rfl (wG (dT k)) (m_ (iV p) (eh z)) (Ry rfl rfl (wG (dT k)) (ysub e0 rfl) (Ry rfl rfl (wG (dT k)) (yIa SL_22 e0 e0 b (rdI o) f4) (Ry rfl rfl (wG (dT k)) (yI O_3 e0 b (rdI o) f4) (Ry rfl rfl (wG (dT k)) (yleq e0 e0) (Ry rfl rfl (wG (bfalse h)) (pt_ (.bool f1) e0 (dT k) (eqv p0 e0)) (yR rfl (pf_ (.bool a3) e0 (bfalse h) (eqv f2 e0)) (Rn QSn (a8 _ _ ⟨q, O, z, rfl, b⟩)))))))))))))
         ·have p1 := someI N
          refine dR [0, 1, 0, 7, 15, 31, 63, 127, 255, 127, 1023, 2047, 127, 4223, 16383, 32767, 65535, 131071, 131071, 393215, 131071, 1966079, 4063231, 8388607, 16777215, 33554431, 67108863, 33554431, 268435455, 536870911, 33554431, 1107296255, 33554431, 4328521727, 16139681791, 33319550975, 68719476735, 137438953471, 274877906943] [] 0 folM ?_
          replace b := b.drew
          refine Dz [0, 1, 2, 3, 4, 5, 6, 7, 8, 9, 10, 11, 12, 13, 14, 15, 16, 17, 18, 19, 20, 21, 22, 23, 24, 25, 26, 27, 28, 29, 30, 31, 32, 33, 34, 35, 36, 37, 38] [] (yR rfl (yFb FL_25_3 (eh q)) (yR rfl (lb_ i.v O_22 e0 b R0) (yR rfl (m_ (iV p) (eh z)) (yR rfl (yIa SL_22 e0 e0 b (rdI o) R) (yR rfl (yI O_3 e0 b (rdI o) R) (yR rfl (ylss e0 rfl) (yR rfl (m_ (.bool (decide (a7 < 0))) e0) (Ry rfl rfl (wG (dF g)) (yFb FL_25_3 (eh q)) (Ry rfl rfl (wG (dF g)) (lb_ i.v O_22 e0 b R0) (Ry rfl rfl (wG (dF g)) (m_ (iV p) (eh z)) (Ry rfl rfl (wG (dF g)) (yIa SL_22 e0 e0 b (rdI o) a0) (Ry rfl rfl (wG (dF g)) (yI O_3 e0 b (rdI o) a0) (Ry rfl rfl (wG (dF g)) (yFb FL_25_0 (eh q)) ?_)))))))))))))
          refine Ry rfl rfl (wG (dF g)) (lb_ (iV c) O_3 e0 b R0) (Ry rfl rfl (wG (dF g)) (ygeq e0 e0) (yR rfl (pf_ (.bool L) e0 (dF g) (eqv b7 e0)) (yR rfl (m_ (.bool L) e0) (Ry rfl rfl (wG (bfalse h)) (m_ (iV p) (eh z)) (Ry rfl rfl (wG (bfalse h)) (yFb FL_25_2 (eh q)) (Ry rfl rfl (wG (bfalse h)) (lb_ l.v O_22 e0 b R0) (Ry rfl rfl (wG (bfalse h)) (m_ (iV D) (eh O)) (Ry rfl rfl (wG (bfalse h)) (yIa SL_22 e0 e0 b (rdI x) a9) (Ry rfl rfl (wG (bfalse h)) (yI O_3 e0 b (rdI x) a9) (Ry rfl rfl (wG (bfalse h)) (ygtr e0 e0) (Ry rfl rfl (wG (bfalse h)) (m_ (.bool (decide (f0 < p))) e0) (Rx rfl rfl (wX (dF k)) (Rx rfl rfl (wX (dF k)) ?_)))))))))))))
          exact Rx rfl rfl (wX (dF k)) (Rx rfl rfl (wX (dF k)) (Rx rfl rfl (wX (dF k)) (Rx rfl rfl (wX (dF k)) (Rx rfl rfl (wX (dF k)) (Rx rfl rfl (wX (dF k)) (Rx rfl rfl (wX (dF k)) (Rx rfl rfl (wX (dF k)) (Rx rfl rfl (wX (dF k)) (Rx rfl rfl (wX (dF k)) (Ry rfl rfl (wG (bfalse h)) (pf_ (.bool f1) e0 (dF k) (eqv p1 rfl)) (yR rfl (pf_ (.bool a3) e0 (bfalse h) (eqv f2 e0)) (Rn QSn (a8 _ _ ⟨q, O, z, rfl, b⟩)))))))))))))
      rintro f w ⟨p2, p3, p4, p5, b⟩
      refine o6 _ _ (cB (eh p5) y (fun p6 y => ?_) fun p6 y => ?_)
      ·refine sR fun _ p7 => Ya (iV 1) rfl (wK p7 (wp_ret (e8 _ _ _ (o5 _ _ _ rfl ?_))))
       cases y
       exact e6 _ _ _ _ rfl rfl (n6 _ _ rfl (b.k10) (e5 _ rfl))
      ·refine wp_skip (e8 _ _ _ (o4 _ _ (wR (Ym (iV p) (eh p4) (yY (yadd e0 rfl) (Ya (iV (wa .i64 p 1)) e0 (wN ?_)))))))
       cases y
       exact n9 _ _ _ rfl ⟨_, _, rfl, rfl, p2, p3, rfl, b⟩
     ·refine wp_exit (o1 _ _ _ rfl ?_)
      cases y
      exact e6 _ _ _ _ rfl rfl (n3 _ _ q O b (e5 _ rfl))
    ·refine wp_exit (m5 _ _ _ rfl ?_)
     cases K
     exact d8 _ _ _ _ rfl rfl (l3 _ _ a6 b (d7 _ rfl))
   have p8 : ∀ (f : FV) w, f 2 = iV 1 → St w0 ros rs w → .inr () = d3 → d1 .ret (fr 147 f) w := by
    intro f w p9 b ho
    subst ho
    refine d2 _ _ _ (i8 _ _ _ rfl ?_)
    cases m
    exact X _ _ _ (fin1r Tryz.results23 ⟨rfl, p9⟩ ⟨rfl, b⟩)
   refine loopQ (fun s a w => ∃ (S : Int) (f : FV), S = s ∧ a = fr 147 f ∧ f 1 = (pB j) ∧ f 4 = iV S ∧ St w0 ros (box j 25 [iV c, iV d, l.v, i.v, r.v] :: rs) w) j0 ⟨_, _, rfl, rfl, i3, rfl, b⟩ ?_
   rintro _ _ w t1 ⟨S, f, rfl, rfl, a4, b0, b⟩ E f5 t2 q0 f6
   refine seqQ fun t3 q4 q5 => sR fun _ q6 => Ym (iV S) (eh b0) (yY (yFb FL_25_1 (eh a4)) (yY (lb_ (iV d) O_3 e0 b R0) (yY (ylss e0 e0) (wK q6 ?_))))
   refine cIf e0 E (fun q7 E => ?_) fun q7 E => ?_
   ·refine wp_skip (q4 _ _ (seqQ fun t4 q8 q9 => blockQ fun _ f7 => sQ fun _ r0 => bE E fun t5 f8 E => bE E fun t6 f9 E => dR [0, 1, 0, 7, 15, 0, 32, 0, 128, 480, 992, 2047] [] 0 folM ?_))
    replace b := b.drew
    refine Dz [0, 1, 2, 3, 4, 5, 6, 7, 8, 9, 10, 11] [] (yR rfl (yFb FL_25_2 (eh a4)) (yR rfl (lb_ l.v O_22 e0 b R0) (yR rfl (m_ (iV S) (eh b0)) (yR rfl (yIa SL_22 e0 e0 b (rdI x) f8) (yR rfl (yI O_3 e0 b (rdI x) f8) (yR rfl (yFb FL_25_2 (eh a4)) (yR rfl (lb_ l.v O_22 e0 b R0) (yR rfl (m_ (iV S) (eh b0)) (yR rfl (yadd e0 rfl) (yR rfl (yIa SL_22 e0 e0 b (rdI x) f9) (yR rfl (yI O_3 e0 b (rdI x) f9) (yR rfl (ygtr e0 e0) (Rn QSn ?_)))))))))))))
    refine r0 _ _ ?_
    refine cIf e0 E (fun r1 E => ?_) fun r1 E => ?_
    ·refine sR fun _ r2 => Ya (iV 1) rfl (wK r2 (wp_ret (f7 _ _ _ (q9 _ _ _ rfl ?_))))
     cases E
     exact f6 _ _ _ _ rfl rfl (p8 _ _ rfl (b.k10) (f5 _ rfl))
    ·refine wp_skip (f7 _ _ _ (q8 _ _ (wR (Ym (iV S) (eh b0) (yY (yadd e0 rfl) (Ya (iV (wa .i64 S 1)) e0 (wN ?_)))))))
     cases E
     exact q0 _ _ _ rfl ⟨_, _, rfl, rfl, a4, rfl, b⟩
   ·refine wp_exit (q5 _ _ _ rfl ?_)
    cases E
    exact f6 _ _ _ _ rfl rfl (j8 _ _ a4 b (f5 _ rfl))
theorem sparseref09_Entries_ok {p j : Int} {R S T : LI} {g k m : Hdr} {out : (List (Int × Int × Int))} (h : sparseref09_Entries p j R S T = some out) (r : imm I1 g.v R ∈ ros) (C : imm I1 k.v S ∈ ros) (D : imm (rI .u64) m.v T ∈ ros) (b : St w0 ros rs w) :
  Calls Tryz.prog 43 #[.agg #[iV p, iV j, g.v, k.v, m.v]] w (fun e w => ∃ (U : Hdr), e = .returned (U.v) ∧ St w0 ros (row 76 rTi64i64u64 U.v out :: rs) w) := by
 refine enterQ Tryz.func43 rfl Tryz.ntmps43 rfl fun Q V => sR fun _ a3 => yBb (r_box (vals := [iV p, iV j, g.v, k.v, m.v]) b e0 rfl) fun q w b => Ya hnil.v rfl (wK a3 (seqQ fun f1 a4 a5 => sR fun _ a6 => yY (lbs_ [iV p, iV j, g.v, k.v, m.v] ST_25 e0 b R0) (bE h fun f2 a7 h => yC (yCall FN_23 (a1 e0)) (sparseref09_Check_ok a7 r C D b) ?_)))
 rintro _ w ⟨rfl, b⟩
 refine ⟨_, rfl, ?_⟩
 refine yY (yneq e0 rfl) (wK a6 ?_)
 rcases iteS h with ⟨E, h⟩ | ⟨E, h⟩
 ·refine condF e0 (nF (dT E)) (wp_skip (a4 _ _ (sR fun _ a8 => Ya hnil.v rfl (wK a8 (sQ fun _ a9 => sR fun _ b0 => Ya (iV 0) rfl (wK b0 ?_))))))
  refine blockQ fun b1 b2 => bE h fun b3 b4 h => ?_
  have b5 : ∀ (F : List (Int × Int × Int)) (t : Hdr) (f : FV) w, f 3 = t.v → St w0 ros (row 76 rTi64i64u64 t.v F :: rs) w → F = b3 → b1 (.exit 0) (fr 46 f) w := by
   intro F t f w b6 b ho
   subst ho
   refine b2 _ _ _ (a9 _ _ (sR fun _ b7 => Ym t.v (eh b6) (Ya t.v e0 (wK b7 (wp_ret ?_)))))
   cases h
   exact V _ _ _ (fin1r Tryz.results43 ⟨rfl, rfl⟩ ⟨_, rfl, b⟩)
  replace b := b.rowNh 76 rTi64i64u64
  refine loopQ (fun s a w => ∃ (G : List (Int × Int × Int)) (c : Int) (f : FV) (H : Hdr), (G, c) = s ∧ a = fr 46 f ∧ f 1 = (pB q) ∧ f 3 = H.v ∧ f 4 = iV c ∧ St w0 ros (box q 25 [iV p, iV j, g.v, k.v, m.v] :: row 76 rTi64i64u64 H.v G :: rs) w) b4 ⟨_, _, _, _, rfl, rfl, rfl, rfl, rfl, (b.k11)⟩ ?_
  rintro _ _ w f3 ⟨G, c, f, H, rfl, rfl, I, W, J, b⟩ i b8 f4 c0 c1
  refine seqQ fun f5 c2 c3 => sR fun _ c4 => Ym (iV c) (eh J) (yY (yFb FL_25_1 (eh I)) (yY (lb_ (iV j) O_3 e0 b R0) (yY (ylss e0 e0) (wK c4 ?_))))
  refine cIf e0 i (fun c5 i => ?_) fun c5 i => ?_
  ·refine wp_skip (c2 _ _ (sQ fun _ c6 => blockQ fun _ c7 => sR fun _ c8 => yY (yFb FL_25_2 (eh I)) (yY (lb_ g.v O_22 e0 b R0) (Ym (iV c) (eh J) (bE i fun c9 X i => yY (yIa SL_22 e0 e0 b (rdI r) X) (yY (yI O_3 e0 b (rdI r) X) (Ya (iV c9) e0 (wN ?_))))))))
   refine c8 _ _ (blockQ fun d0 d1 => bE i fun d2 d3 i => ?_)
   have d4 : ∀ (K : List (Int × Int × Int)) (L : Hdr) (f : FV) w, f 1 = (pB q) → f 3 = L.v → f 4 = iV c → St w0 ros (box q 25 [iV p, iV j, g.v, k.v, m.v] :: row 76 rTi64i64u64 L.v K :: rs) w → K = d2 → d0 (.exit 2) (fr 46 f) w := by
    intro K L f w d5 d6 d7 b ho
    subst ho
    refine d1 _ _ _ (c7 _ _ _ (c6 _ _ (wR (Ym (iV c) (eh d7) (yY (yadd e0 rfl) (Ya (iV (wa .i64 c 1)) e0 (wN ?_)))))))
    cases i
    exact c0 _ _ _ rfl ⟨_, _, _, _, rfl, rfl, d5, d6, rfl, b⟩
   refine loopQ (fun s a w => ∃ (N : List (Int × Int × Int)) (o : Int) (f : FV) (u : Hdr), (N, o) = s ∧ a = fr 46 f ∧ f 1 = (pB q) ∧ f 3 = u.v ∧ f 4 = iV c ∧ f 5 = iV o ∧ St w0 ros (box q 25 [iV p, iV j, g.v, k.v, m.v] :: row 76 rTi64i64u64 u.v N :: rs) w) d3 ⟨_, _, _, _, rfl, rfl, I, W, J, rfl, b⟩ ?_
   rintro _ _ w f6 ⟨N, o, f, u, rfl, rfl, x, O, A, B, b⟩ d d8 f7 d9 e1
   refine seqQ fun f8 e2 e3 => sR fun _ e4 => Ym (iV o) (eh B) (yY (yFb FL_25_2 (eh x)) (yY (lb_ g.v O_22 e0 b R0) (Ym (iV c) (eh A) (yY (yadd e0 rfl) (bE d fun f9 Z d => yY (yIa SL_22 e0 e0 b (rdI r) Z) (yY (yI O_3 e0 b (rdI r) Z) (yY (ylss e0 e0) (wK e4 ?_))))))))
   refine cIf e0 d (fun e5 d => ?_) fun e5 d => ?_
   ·refine wp_skip (e2 _ _ (sQ fun _ e6 => blockQ fun _ e7 => bE d fun y a0 d => bE d fun z a2 d => bE d fun g0 e8 d => dR [0, 0, 2, 0, 14, 30, 0, 0, 128, 0, 896, 1920, 4094, 8190, 16383, 32767] [13, 14, 15] 3 folM ?_))
    replace b := b.drew
    refine Dn [0, 1, 2, 3, 4, 5, 6, 7, 8, 9, 10, 11, 12] [] [13] (yR rfl (m_ u.v (eh O)) (yR rfl (yFb FL_25_3 (eh x)) (yR rfl (lb_ k.v O_22 e0 b R0) (yR rfl (m_ (iV o) (eh B)) (yR rfl (yIa SL_22 e0 e0 b (rdI C) a0) (yR rfl (yI O_3 e0 b (rdI C) a0) (yR rfl (m_ (iV c) (eh A)) (yR rfl (yFb FL_25_4 (eh x)) (yR rfl (lb_ m.v O_23 e0 b R0) (yR rfl (m_ (iV o) (eh B)) (yR rfl (yIa SL_23 e0 e0 b (rdI D) a2) (yR rfl (yI O_44 e0 b (rdI D) a2) (yR rfl (ybuild (us := [iV y, iV c, .int .u64 z]) [(0, iV y), (1, iV c), (2, .int .u64 z)] SO_76 (bp3 e0 e0 e0) rfl) ?_)))))))))))))
    refine Rn QSn ?_
    refine Lc1 rfl ?_
    refine LH wn (rLt (n := 1) (l := [(y, c, z)]) b SL_73 [.agg #[iV y, iV c, .int .u64 z]] (bp1 e0) rfl rfl (mks1 (cs := [iV y, iV c, .int .u64 z]) rfl (mkF rfl) mks0)) fun g1 w b => Dn [] [0] [14] (Rn (yS rfl (m_ u.v (eh O)) QSn) ?_)
    refine Lc1 rfl ?_
    replace b := b.k17
    refine LH wn (rAp b SL_73 e0 e0 rO1 e8) fun e9 w b => Dn [] [] [15] (Rn QSn ?_)
    refine Lc1 rfl ?_
    refine Ly wn (a_ e9.v e0) (Dz [] [] (Rn QSn (e7 _ _ _ (e6 _ _ (wR (Ym (iV o) (eh B) (yY (yadd e0 rfl) (Ya (iV (wa .i64 o 1)) e0 (wN ?_)))))))))
    cases d
    exact d9 _ _ _ rfl ⟨_, _, _, _, rfl, rfl, x, rfl, A, rfl, (b.k1g)⟩
   ·refine wp_exit (e3 _ _ _ rfl ?_)
    cases d
    exact e1 _ _ _ _ rfl rfl (d4 _ _ _ _ x O A b (d8 _ rfl))
  ·refine wp_exit (c3 _ _ _ rfl ?_)
   cases i
   exact c1 _ _ _ _ rfl rfl (b5 _ _ _ _ W (b.k12) (b8 _ rfl))
 ·refine condT e0 (nT (dF E)) (sR fun _ f0 => Ya hnil.v rfl (wK f0 (wp_ret (a5 _ _ _ rfl ?_))))
  cases h
  replace b := b.rowNh 76 rTi64i64u64
  exact V _ _ _ (fin1r Tryz.results43 ⟨rfl, rfl⟩ ⟨_, rfl, (b.k1f)⟩)
theorem sparseref09_Pack_ok {c d : Int} {c0 : List (Int × Int × Int)} {m : Hdr} {out : Int × Int × LI × LI × LI} (t : sparseref09_Pack c d c0 = some out) (A : imm rTi64i64u64 m.v c0 ∈ ros) (b : St w0 ros rs w) :
  Calls Tryz.prog 51 #[iV c, iV d, m.v] w (fun e w => ∃ (c1 c2 c3 : Hdr), e = .returned (.agg #[iV out.1, iV out.2.1, c1.v, c2.v, c3.v]) ∧ St w0 ros (row 3 I1 c1.v out.2.2.1 :: row 3 I1 c2.v out.2.2.2.1 :: row 44 (rI .u64) c3.v out.2.2.2.2 :: rs) w) := by
 refine enterQ Tryz.func51 rfl Tryz.ntmps51 rfl fun Q d9 => sR fun _ e1 => yBb (rAl b ZT_25) fun i w b => wK e1 (sR fun _ e2 => Ym (iV c) e0 (Ym (iV d) e0 (yH (rLt (n := 1) (l := [0]) b SL_22 [iV 0] (bp1 rfl) rfl rfl (mks1 (cs := [iV 0]) rfl mkI mks0)) fun y w b => yY (ybuild (us := [iV c, iV d, y.v, hnil.v, hnil.v]) [(0, iV c), (1, iV d), (2, y.v)] SO_25 (bp3 e0 e0 e0) rfl) ?_)))
 refine yBb (rAl b ZT_25) fun j w b => yT (r_stbn (vals' := [iV c, iV d, y.v, hnil.v, hnil.v]) (us := [iV c, iV d, y.v, hnil.v, hnil.v]) b ST_25 e0 e0 rfl rfl (one_of rfl) rfl) fun w b => wK e2 (sR fun _ e3 => Ym (iV c) e0 (Ym (iV d) e0 (yY (ymul e0 e0) (bE t fun o0 e4 t => yH (rMk b SL_22 e0 e4) fun h w b => ?_))))
 refine Ya h.v e0 (wK e3 (sQ fun _ e5 => sR fun _ e6 => Ya (iV 0) rfl (wK e6 (blockQ fun e7 e8 => bE t fun e9 f0 t => ?_))))
 have f1 : ∀ (B : LI) (f : FV) w, f 0 = iV c → f 1 = iV d → f 2 = m.v → f 6 = (pB i) → f 7 = (pB j) → f 8 = h.v → St w0 ros (box i 25 [iV 0, iV 0, hnil.v, hnil.v, hnil.v] :: row 3 I1 y.v [0] :: box j 25 [iV c, iV d, y.v, hnil.v, hnil.v] :: row 3 I1 h.v B :: rs) w → B = e9 → e7 (.exit 0) (fr 90 f) w := by
  intro B f w f2 f3 f4 f5 f6 f7 b ho
  subst ho
  refine e8 _ _ _ (e5 _ _ (sQ fun _ f8 => sR fun _ f9 => Ya (iV 0) rfl (wK f9 (blockQ fun g0 g1 => bE t fun g2 g3 t => ?_))))
  have g4 : ∀ (X Z a0 : LI) (C D E : Hdr) (f : FV) w, f 6 = (pB i) → f 7 = (pB j) → St w0 ros (box i 25 [iV 0, iV 0, hnil.v, hnil.v, hnil.v] :: row 3 I1 C.v X :: row 3 I1 D.v Z :: row 44 (rI .u64) E.v a0 :: box j 25 [iV c, iV d, C.v, D.v, E.v] :: rs) w → (X, Z, a0) = g2 → g0 (.exit 2) (fr 90 f) w := by
   intro X Z a0 C D E f w c4 g5 b ho
   subst ho
   refine g1 _ _ _ (f8 _ _ (sR fun _ g6 => yY (lbs_ [iV c, iV d, C.v, D.v, E.v] ST_25 (eh g5) b R4) (yT (r_stbn (vals' := [iV c, iV d, C.v, D.v, E.v]) (us := [iV c, iV d, C.v, D.v, E.v]) b ST_25 (eh c4) e0 rfl rfl (one_of rfl) rfl) fun w b => wK g6 (wp_ret ?_))))
   cases t
   exact d9 _ _ _ (fin1r Tryz.results51 (rcs2 rfl c4 b R0 ST_25 rfl) ⟨_, _, _, rfl, (b.k1t)⟩)
  replace b := (b.rowNh 3 I1).rowNh 44 (rI .u64)
  refine loopQ (fun s a w => ∃ (F a1 a2 : LI) (q : Int) (f : FV) (o a3 a4 : Hdr), (F, a1, a2, q) = s ∧ a = fr 90 f ∧ f 0 = iV c ∧ f 1 = iV d ∧ f 2 = m.v ∧ f 6 = (pB i) ∧ f 7 = (pB j) ∧ f 8 = h.v ∧ f 10 = iV q ∧ St w0 ros (box i 25 [iV 0, iV 0, hnil.v, hnil.v, hnil.v] :: row 3 I1 o.v F :: row 3 I1 a3.v a1 :: row 44 (rI .u64) a4.v a2 :: box j 25 [iV c, iV d, o.v, a3.v, a4.v] :: row 3 I1 h.v B :: rs) w) g3 ⟨_, _, _, _, _, _, _, _, rfl, rfl, f2, f3, f4, f5, f6, f7, rfl, (b.k2q)⟩ ?_
  rintro _ _ w o2 ⟨F, a1, a2, q, f, o, a3, a4, rfl, rfl, g7, c5, g8, c6, c7, g9, c8, b⟩ x h0 o3 h1 h2
  refine seqQ fun o4 h3 h5 => sR fun _ h7 => Ym (iV q) (eh c8) (Ym (iV d) (eh c5) (yY (ylss e0 e0) (wK h7 ?_)))
  refine cIf e0 x (fun h9 x => ?_) fun h9 x => ?_
  ·refine wp_skip (h3 _ _ (sQ fun _ i0 => blockQ fun _ i1 => sQ fun _ i2 => sR fun _ i3 => Ya (iV 0) rfl (wK i3 (blockQ fun i4 i5 => bE x fun i6 i7 x => ?_))))
   have i8 : ∀ (G a5 : LI) (I O : Hdr) (f : FV) w, f 0 = iV c → f 1 = iV d → f 2 = m.v → f 6 = (pB i) → f 7 = (pB j) → f 8 = h.v → f 10 = iV q → St w0 ros (box i 25 [iV 0, iV 0, hnil.v, hnil.v, hnil.v] :: row 3 I1 o.v F :: row 3 I1 I.v G :: row 44 (rI .u64) O.v a5 :: box j 25 [iV c, iV d, o.v, I.v, O.v] :: row 3 I1 h.v B :: rs) w → (G, a5) = i6 → i4 (.exit 4) (fr 90 f) w := by
    intro G a5 I O f w i9 j0 j1 j2 R j3 j4 b ho
    subst ho
    refine i5 _ _ _ (i2 _ _ (wR (yY (yFb FL_25_2 (eh R)) (yY (lb_ o.v O_22 e0 b R4) (yY (yFb FL_25_3 (eh R)) (yY (lb_ I.v O_22 e0 b R4) (yY (yLen SL_22 e0 b rO2) (yH (rLt (n := 1) (l := [(G.length : Int)]) b SL_22 [iV (G.length : Int)] (bp1 e0) rfl rfl (mks1 (cs := [iV (G.length : Int)]) rfl mkI mks0)) fun o5 w b => bE x fun o6 j5 x => yH (rAp (b.k17) SL_22 e0 e0 rO1 j5) fun j6 w b => yY (yFb FL_25_2 (eh R)) ?_))))))))
    refine yT (r_stb1 (vals' := [iV c, iV d, j6.v, I.v, O.v]) (b.k1k) O_22 e0 e0 rfl rfl rfl rfl) fun w b => wN (i1 _ _ _ (i0 _ _ (wR (Ym (iV q) (eh j4) (yY (yadd e0 rfl) (Ya (iV (wa .i64 q 1)) e0 (wN ?_)))))))
    cases x
    exact h1 _ _ _ rfl ⟨_, _, _, _, _, _, _, _, rfl, rfl, i9, j0, j1, j2, R, j3, rfl, (b.k2r)⟩
   refine loopQ (fun s a w => ∃ (a6 a7 : LI) (k : Int) (f : FV) (S H : Hdr), (a6, a7, k) = s ∧ a = fr 90 f ∧ f 0 = iV c ∧ f 1 = iV d ∧ f 2 = m.v ∧ f 6 = (pB i) ∧ f 7 = (pB j) ∧ f 8 = h.v ∧ f 10 = iV q ∧ f 11 = iV k ∧ St w0 ros (box i 25 [iV 0, iV 0, hnil.v, hnil.v, hnil.v] :: row 3 I1 o.v F :: row 3 I1 S.v a6 :: row 44 (rI .u64) H.v a7 :: box j 25 [iV c, iV d, o.v, S.v, H.v] :: row 3 I1 h.v B :: rs) w) i7 ⟨_, _, _, _, _, _, rfl, rfl, g7, c5, g8, c6, c7, g9, c8, rfl, b⟩ ?_
   rintro _ _ w j7 ⟨a6, a7, k, f, S, H, rfl, rfl, J, a8, T, a9, z, U, V, K, b⟩ g j8 o7 j9 k0
   refine seqQ fun o8 k6 k7 => sR fun _ k8 => Ym (iV k) (eh K) (Ym (iV c) (eh J) (yY (ylss e0 e0) (wK k8 ?_)))
   refine cIf e0 g (fun k9 g => ?_) fun k9 g => ?_
   ·refine wp_skip (k6 _ _ (sQ fun _ l0 => blockQ fun l1 l2 => sR fun _ l3 => Ym h.v (eh U) (Ym (iV q) (eh V) (Ym (iV c) (eh J) (yY (ymul e0 e0) (Ym (iV k) (eh K) (yY (yadd e0 e0) (bE g fun b0 c9 g => yY (yIa SL_22 e0 e0 b rO5 c9) ?_))))))))
    refine yY (yI O_3 e0 b rO5 c9) (Ya (iV b0) e0 (wK l3 (sR fun _ l4 => Ym (iV b0) e0 (yY (ygtr e0 rfl) (wK l4 ?_)))))
    have d0 : ∀ (b1 b2 : LI) (b3 b4 : Hdr) (f : FV) w, f 0 = iV c → f 1 = iV d → f 2 = m.v → f 6 = (pB i) → f 7 = (pB j) → f 8 = h.v → f 10 = iV q → f 11 = iV k → St w0 ros (box i 25 [iV 0, iV 0, hnil.v, hnil.v, hnil.v] :: row 3 I1 o.v F :: row 3 I1 b3.v b1 :: row 44 (rI .u64) b4.v b2 :: box j 25 [iV c, iV d, o.v, b3.v, b4.v] :: row 3 I1 h.v B :: rs) w → sparseref09_Pack_j14 k b1 b2 = some j7 → l1 .normal (fr 90 f) w := by
     intro b1 b2 b3 b4 f w l5 l6 l7 l8 l9 m0 m1 m2 b t
     refine l2 _ _ _ (l0 _ _ (wR (Ym (iV k) (eh m2) (yY (yadd e0 rfl) (Ya (iV (wa .i64 k 1)) e0 (wN ?_))))))
     cases t
     exact j9 _ _ _ rfl ⟨_, _, _, _, _, _, rfl, rfl, l5, l6, l7, l8, l9, m0, m1, rfl, b⟩
    refine cIf e0 g (fun m3 g => ?_) fun m3 g => ?_
    ·refine sR fun _ m4 => yY (yFb FL_25_3 (eh z)) (yY (lb_ S.v O_22 e0 b R4) (Ym (iV k) (eh K) (yH (rLt (n := 1) (l := [k]) b SL_22 [iV k] (bp1 e0) rfl rfl (mks1 (cs := [iV k]) rfl mkI mks0)) fun o9 w b => bE g fun p0 m5 g => yH (rAp (b.k14) SL_22 e0 e0 rO1 m5) fun d1 w b => yY (yFb FL_25_3 (eh z)) (yT (r_stb1 (vals' := [iV c, iV d, o.v, d1.v, H.v]) (b.k1k) O_22 e0 e0 rfl rfl rfl rfl) fun w b => wN ?_))))
     refine m4 _ _ (bE g fun W d2 g => bE g fun p1 m6 g => dR [0, 1, 0, 0, 8, 28, 60, 124, 252, 511, 1023, 2047] [8, 9, 11] 3 folM ?_)
     replace b := b.drew
     refine Dn [0, 1, 2, 3, 4, 5, 6, 7] [] [8] (yR rfl (yFb FL_25_4 (eh z)) (yR rfl (lb_ H.v O_23 e0 b R0) (yR rfl (m_ m.v (eh T)) (yR rfl (m_ (iV b0) e0) (yR rfl (ysub e0 rfl) (yR rfl (yIa SL_73 e0 e0 b (rdI A) d2) (yR rfl (yFe FL_76_2 e0) (yR rfl (yFf (u := .int .u64 W.2.2) O_44 e0 b (rdI A) d2 rfl) (Rn QSn ?_)))))))))
     refine Lc1 rfl ?_
     refine LH wn (rLt (n := 1) (l := [W.2.2]) b SL_23 [.int .u64 W.2.2] (bp1 e0) rfl rfl (mks1 (cs := [.int .u64 W.2.2]) rfl mkI mks0)) fun p2 w b => Dn [] [0, 1] [9] (Rn (yS rfl (yFb FL_25_4 (eh z)) (yS rfl (lb_ H.v O_23 e0 b R1) QSn)) ?_)
     refine Lc1 rfl ?_
     replace b := b.k1a
     refine LH wn (rAp b SL_23 e0 e0 rO1 m6) fun m7 w b => Dn [10] [] [11] (yR rfl (yFb FL_25_4 (eh z)) (Rn QSn ?_))
     refine Lc1 rfl ?_
     replace b := b.k17
     exact LT wn (r_stb1 (vals' := [iV c, iV d, o.v, d1.v, m7.v]) b O_23 e0 e0 rfl rfl rfl rfl) fun w b => Dz [] [] (Rn QSn (d0 _ _ _ _ _ _ J a8 T a9 z U V K (b.k2s) g))
    ·exact wp_skip (d0 _ _ _ _ _ _ J a8 T a9 z U V K b g)
   ·refine wp_exit (k7 _ _ _ rfl ?_)
    cases g
    exact k0 _ _ _ _ rfl rfl (i8 _ _ _ _ _ _ J a8 T a9 z U V b (j8 _ rfl))
  ·refine wp_exit (h5 _ _ _ rfl ?_)
   cases x
   exact h2 _ _ _ _ rfl rfl (g4 _ _ _ _ _ _ _ _ c6 c7 (b.k1y) (h0 _ rfl))
 refine loopQ (fun s a w => ∃ (b6 : LI) (r : Int) (f : FV), (b6, r) = s ∧ a = fr 90 f ∧ f 0 = iV c ∧ f 1 = iV d ∧ f 2 = m.v ∧ f 6 = (pB i) ∧ f 7 = (pB j) ∧ f 8 = h.v ∧ f 9 = iV r ∧ St w0 ros (box i 25 [iV 0, iV 0, hnil.v, hnil.v, hnil.v] :: row 3 I1 y.v [0] :: box j 25 [iV c, iV d, y.v, hnil.v, hnil.v] :: row 3 I1 h.v b6 :: rs) w) f0 ⟨_, _, _, rfl, rfl, rfl, rfl, rfl, rfl, rfl, rfl, rfl, (b.k2g)⟩ ?_
 rintro _ _ w p3 ⟨b6, r, f, rfl, rfl, b8, d3, L, d4, d5, b9, N, b⟩ p m8 p4 m9 n0
 refine seqQ fun p5 n2 n3 => sR fun _ n4 => Ym (iV r) (eh N) (Ym m.v (eh L) (yY (yLen SL_73 e0 b (rdI A)) (yY (ylss e0 e0) (wK n4 ?_))))
 refine cIf e0 p (fun n5 p => ?_) fun n5 p => ?_
 ·refine wp_skip (n2 _ _ (sQ fun _ n6 => blockQ fun _ n7 => bE p fun n8 d6 p => bE p fun n9 d7 p => bE p fun p6 d8 p => dR [0, 0, 0, 6, 14, 30, 0, 126, 0, 0, 768, 1792, 3840, 8190, 0, 16384, 65535, 131071] [17] 1 folM ?_))
  replace b := b.drew
  refine Dn [0, 1, 2, 3, 4, 5, 6, 7, 8, 9, 10, 11, 12, 13, 14, 15, 16] [] [17] (yR rfl (m_ h.v (eh b9)) (yR rfl (m_ m.v (eh L)) (yR rfl (m_ (iV r) (eh N)) (yR rfl (yIa SL_73 e0 e0 b (rdI A) d6) (yR rfl (yFe FL_76_1 e0) (yR rfl (yFf (u := iV n8.2.1) O_3 e0 b (rdI A) d6 rfl) (yR rfl (m_ (iV c) (eh b8)) (yR rfl (ymul e0 e0) (yR rfl (m_ m.v (eh L)) (yR rfl (m_ (iV r) (eh N)) (yR rfl (yIa SL_73 e0 e0 b (rdI A) d7) (yR rfl (yFe FL_76_0 e0) (yR rfl (yFf (u := iV n9.1) O_3 e0 b (rdI A) d7 rfl) ?_)))))))))))))
  refine yR rfl (yadd e0 e0) (yR rfl (m_ (iV r) (eh N)) (yR rfl (yadd e0 rfl) (yR rfl (yIs SL_22 e0 e0 b rO3 d8) (Rn QSn ?_))))
  refine Lc1 rfl ?_
  replace b := b.k14
  refine LT wn (r_sti (cs := [iV (wa .i64 r 1)]) b O_3 rfl e0 e0 rfl mkI d8) fun w b => Dz [] [] (Rn QSn (n7 _ _ _ (n6 _ _ (wR (Ym (iV r) (eh N) (yY (yadd e0 rfl) (Ya (iV (wa .i64 r 1)) e0 (wN ?_))))))))
  cases p
  exact m9 _ _ _ rfl ⟨_, _, _, rfl, rfl, b8, d3, L, d4, d5, b9, rfl, (b.k2t)⟩
 ·refine wp_exit (n3 _ _ _ rfl ?_)
  cases p
  exact n0 _ _ _ _ rfl rfl (f1 _ _ _ b8 d3 L d4 d5 b9 b (m8 _ rfl))
theorem sparseref09_Transpose_ok {i j : Int} {B C D : LI} {l m n : Hdr} {out : Int × Int × LI × LI × LI × Int} (d : sparseref09_Transpose i j B C D = some out) (E : imm I1 l.v B ∈ ros) (F : imm I1 m.v C ∈ ros) (G : imm (rI .u64) n.v D ∈ ros) (b : St w0 ros rs w) :
  Calls Tryz.prog 24 #[.agg #[iV i, iV j, l.v, m.v, n.v]] w (fun e w => ∃ (H I J : Hdr), e = .returned (.tuple #[.agg #[iV out.1, iV out.2.1, H.v, I.v, J.v], iV out.2.2.2.2.2]) ∧ St w0 ros (row 3 I1 H.v out.2.2.1 :: row 3 I1 I.v out.2.2.2.1 :: row 44 (rI .u64) J.v out.2.2.2.2.1 :: rs) w) := by
 refine enterQ Tryz.func24 rfl Tryz.ntmps24 rfl fun Q K => sR fun _ X => yBb (r_box (vals := [iV i, iV j, l.v, m.v, n.v]) b e0 rfl) fun q w b => yBb (rAl b ZT_25) fun r w b => Ya (iV 0) rfl (wK X (seqQ fun d7 Z a0 => sR fun _ a2 => yY (lbs_ [iV i, iV j, l.v, m.v, n.v] ST_25 e0 b R1) ?_))
 refine bE d fun t a4 d => yC (yCall FN_23 (a1 e0)) (sparseref09_Check_ok a4 E F G b) ?_
 rintro _ w ⟨rfl, b⟩
 refine ⟨_, rfl, ?_⟩
 refine Ya (iV t) e0 (wK a2 (sR fun _ a5 => Ym (iV t) e0 (yY (yneq e0 rfl) (wK a5 ?_))))
 rcases iteS d with ⟨y, d⟩ | ⟨y, d⟩
 ·refine condF e0 (nF (dT y)) (wp_skip (Z _ _ (sR fun _ a6 => yY (lbs_ [iV i, iV j, l.v, m.v, n.v] ST_25 e0 b R1) (bE d fun d8 a7 d => yC (yCall FN_43 (a1 e0)) (sparseref09_Entries_ok a7 E F G b) ?_))))
  rintro _ w ⟨g, rfl, b⟩
  refine ⟨_, rfl, ?_⟩
  refine Ya g.v e0 (wK a6 (sQ fun _ a8 => sR fun _ a9 => Ya (iV 0) rfl (wK a9 (blockQ fun b0 b1 => bE d fun b2 b3 d => ?_))))
  have b4 : ∀ (z : List (Int × Int × Int)) (f : FV) w, f 1 = (pB q) → f 2 = (pB r) → f 5 = g.v → St w0 ros (box q 25 [iV i, iV j, l.v, m.v, n.v] :: box r 25 [iV 0, iV 0, hnil.v, hnil.v, hnil.v] :: row 76 rTi64i64u64 g.v z :: rs) w → z = b2 → b0 (.exit 0) (fr 45 f) w := by
   intro z f w L N b5 b ho
   subst ho
   refine b1 _ _ _ (a8 _ _ (sR fun _ b6 => yY (yFb FL_25_1 (eh L)) (yY (lb_ (iV j) O_3 e0 b R0) (yY (yFb FL_25_0 (eh L)) (yY (lb_ (iV i) O_3 e0 b R0) (Ym g.v (eh b5) (bE d fun x b7 d => ?_)))))))
   replace b := (b.k17).fz
   refine yC (yCall FN_51 (a3 e0 e0 e0)) (sparseref09_Pack_ok b7 F0 b) ?_
   rintro _ w ⟨O, R, S, rfl, b⟩
   refine ⟨_, rfl, ?_⟩
   refine yT (r_stbn (vals' := [iV x.1, iV x.2.1, O.v, R.v, S.v]) (us := [iV x.1, iV x.2.1, O.v, R.v, S.v]) (b.k1j) ST_25 (eh N) e0 rfl rfl (one_of rfl) rfl) fun w b => Ya (iV 0) rfl (wK b6 (wp_ret ?_))
   cases d
   exact K _ _ _ (fin2r Tryz.results24 (rcs2 rfl N b R0 ST_25 rfl) ⟨rfl, rfl⟩ ⟨_, _, _, rfl, ((b.k1t).facts (allT allI))⟩)
  refine loopQ (fun s a w => ∃ (A : List (Int × Int × Int)) (h : Int) (f : FV), (A, h) = s ∧ a = fr 45 f ∧ f 1 = (pB q) ∧ f 2 = (pB r) ∧ f 5 = g.v ∧ f 6 = iV h ∧ St w0 ros (box q 25 [iV i, iV j, l.v, m.v, n.v] :: box r 25 [iV 0, iV 0, hnil.v, hnil.v, hnil.v] :: row 76 rTi64i64u64 g.v A :: rs) w) b3 ⟨_, _, _, rfl, rfl, rfl, rfl, rfl, rfl, (b.k26)⟩ ?_
  rintro _ _ w d9 ⟨A, h, f, rfl, rfl, T, U, k, p, b⟩ c b8 e1 c0 c1
  refine seqQ fun e2 c2 c3 => sR fun _ c4 => Ym (iV h) (eh p) (Ym g.v (eh k) (yY (yLen SL_73 e0 b rO2) (yY (ylss e0 e0) (wK c4 ?_))))
  refine cIf e0 c (fun c5 c => ?_) fun c5 c => ?_
  ·refine wp_skip (c2 _ _ (sQ fun _ c6 => blockQ fun _ c7 => bE c fun c8 V c => bE c fun c9 W c => bE c fun e3 d0 c => bE c fun e4 d1 c => bE c fun e5 d2 c => bE c fun e6 d3 c => bE c fun e7 d4 c => bE c fun e8 d5 c => dR [0, 0, 0, 0, 0, 0, 48, 112, 240, 0, 0, 1536, 3584, 7680, 16371, 32755, 65523, 131071, 262143, 524287] [16, 19] 2 folM ?_))
   replace b := b.drew
   refine Dn [0, 1, 2, 3, 4, 5, 6, 7, 8, 9, 10, 11, 12, 13, 14, 15] [] [16] (yR rfl (m_ g.v (eh k)) (yR rfl (m_ (iV h) (eh p)) (yR rfl (m_ g.v (eh k)) (yR rfl (m_ (iV h) (eh p)) (yR rfl (m_ g.v (eh k)) (yR rfl (m_ (iV h) (eh p)) (yR rfl (yIa SL_73 e0 e0 b rO2 V) (yR rfl (yFe FL_76_1 e0) (yR rfl (yFf (u := iV c8.2.1) O_3 e0 b rO2 V rfl) (yR rfl (m_ g.v (eh k)) (yR rfl (m_ (iV h) (eh p)) (yR rfl (yIa SL_73 e0 e0 b rO2 W) (yR rfl (yFe FL_76_0 e0) ?_)))))))))))))
   refine yR rfl (yFf (u := iV c9.1) O_3 e0 b rO2 W rfl) (yR rfl (yIa SL_73 e0 e0 b rO2 d0) (yR rfl (yFe FL_76_0 e0) (Rn QSn ?_)))
   refine Lc1 rfl ?_
   replace b := b.k17
   refine LT wn (r_stf (o := 0) b O_3 e0 e0 rfl rfl rfl rfl d1 d2) fun w b => Dn [17, 18] [2, 3] [19] (yR rfl (yIa SL_73 e0 e0 b rO0 d3) (yR rfl (yFe FL_76_1 e0) (Rn (yS rfl (m_ g.v (eh k)) (yS rfl (m_ (iV h) (eh p)) QSn)) ?_)))
   refine Lc1 rfl ?_
   refine LT wn (r_stf (o := 1) b O_3 e0 e0 rfl rfl rfl rfl d4 d5) fun w b => Dz [] [] (Rn QSn (c7 _ _ _ (c6 _ _ (wR (Ym (iV h) (eh p) (yY (yadd e0 rfl) (Ya (iV (wa .i64 h 1)) e0 (wN ?_))))))))
   cases c
   exact c0 _ _ _ rfl ⟨_, _, _, rfl, rfl, T, U, k, rfl, (b.k1l)⟩
  ·refine wp_exit (c3 _ _ _ rfl ?_)
   cases c
   exact c1 _ _ _ _ rfl rfl (b4 _ _ _ T U k b (b8 _ rfl))
 ·refine condT e0 (nT (dF y)) (sR fun _ d6 => yY (ybuild (us := [iV 0, iV 0, hnil.v, hnil.v, hnil.v]) [] SO_25 bp0 rfl) (Ym (iV t) e0 (yT (r_stbn (vals' := [iV 0, iV 0, hnil.v, hnil.v, hnil.v]) (us := [iV 0, iV 0, hnil.v, hnil.v, hnil.v]) b ST_25 e0 e0 rfl rfl (one_of rfl) rfl) fun w b => Ya (iV t) e0 (wK d6 (wp_ret (a0 _ _ _ rfl ?_))))))
  cases d
  replace b := ((b.rowNh 3 I1).rowNh 3 I1).rowNh 44 (rI .u64)
  exact K _ _ _ (fin2r Tryz.results24 (rcs2 rfl rfl b R3 ST_25 rfl) ⟨rfl, rfl⟩ ⟨_, _, _, rfl, (b.k1s)⟩)
theorem sparseref13_none_ok {h : Int} {out : LI} (j : sparseref13_none h = some out) (b : St w0 ros rs w) :
  Calls Tryz.prog 52 #[iV h] w (fun e w => ∃ (o : Hdr), e = .returned (o.v) ∧ St w0 ros (row 3 I1 o.v out :: rs) w) := by
 refine enterQ Tryz.func52 rfl Tryz.ntmps52 rfl fun Q t => sR fun _ u => Ya hnil.v rfl (wK u (sR fun _ x => Ya hnil.v rfl (wK x (sQ fun _ y => sR fun _ z => ?_))))
 refine Ya (iV 0) rfl (wK z (blockQ fun A B => bE j fun C D j => ?_))
 have E : ∀ (k : LI) (g : Hdr) (f : FV) w, f 3 = g.v → St w0 ros (row 3 I1 g.v k :: rs) w → k = C → A (.exit 0) (fr 14 f) w := by
  intro k g f w F b ho
  subst ho
  refine B _ _ _ (y _ _ (sR fun _ G => Ym g.v (eh F) (Ya g.v e0 (wK G (wp_ret ?_)))))
  cases j
  exact t _ _ _ (fin1r Tryz.results52 ⟨rfl, rfl⟩ ⟨_, rfl, b⟩)
 replace b := b.rowNh 3 I1
 refine loopQ (fun s a w => ∃ (m : LI) (d : Int) (f : FV) (i : Hdr), (m, d) = s ∧ a = fr 14 f ∧ f 0 = iV h ∧ f 3 = i.v ∧ f 4 = iV d ∧ St w0 ros (row 3 I1 i.v m :: rs) w) D ⟨_, _, _, _, rfl, rfl, rfl, rfl, rfl, b⟩ ?_
 rintro _ _ w V ⟨m, d, f, i, rfl, rfl, p, q, r, b⟩ c H W I J
 refine seqQ fun X K L => sR fun _ N => Ym (iV d) (eh r) (Ym (iV h) (eh p) (yY (ylss e0 e0) (wK N ?_)))
 refine cIf e0 c (fun O c => ?_) fun O c => ?_
 ·refine wp_skip (K _ _ (sQ fun _ R => blockQ fun _ S => wR (Ym i.v (eh q) (yH (rLt (n := 1) (l := [(-1)]) b SL_22 [iV (-1)] (bp1 rfl) rfl rfl (mks1 (cs := [iV (-1)]) rfl mkI mks0)) fun Z w b => bE c fun a0 T c => yH (rAp (b.k11) SL_22 e0 e0 rO1 T) fun U w b => Ya U.v e0 (wN (S _ _ _ ?_))))))
  refine R _ _ (wR (Ym (iV d) (eh r) (yY (yadd e0 rfl) (Ya (iV (wa .i64 d 1)) e0 (wN ?_)))))
  cases c
  exact I _ _ _ rfl ⟨_, _, _, _, rfl, rfl, p, rfl, rfl, (b.k1f)⟩
 ·refine wp_exit (L _ _ _ rfl ?_)
  cases c
  exact J _ _ _ _ rfl rfl (E _ _ _ _ q b (H _ rfl))
theorem sparseref13_Search_Try_step {rec : Int → Int → LI → LI → LI → LI → LI → (List Bool) → Int → Option (LI × LI × (List Bool) × Bool)} (c3 : ∀ {w0 : World} {ros : List Fact} {rs : List Res} {w : World} {n o : Int} {z A B C D : LI} {E : List Bool} {k : Int} {d : Nat} {l m p g j h : Hdr} {out : LI × LI × (List Bool) × Bool} (u : rec n o z A B C D E k = some out) (y : imm I1 l.v z ∈ ros) (G : imm I1 m.v A ∈ ros) (a4 : imm (rI .u64) p.v B ∈ ros) (b : St w0 ros (box d 87 [iV n, iV o, l.v, m.v, p.v, g.v, j.v, h.v] :: row 3 I1 g.v C :: row 3 I1 j.v D :: row 4 rB h.v E :: rs) w), Calls Tryz.prog 53 #[(pB d), iV k] w (fun e w => e = .returned (.bool out.2.2.2) ∧ St w0 ros (row 3 I1 g.v out.1 :: row 3 I1 j.v out.2.1 :: row 4 rB h.v out.2.2.1 :: box d 87 [iV n, iV o, l.v, m.v, p.v, g.v, j.v, h.v] :: rs) w)) {w0 : World} {ros : List Fact} {rs : List Res} {w : World} {n o : Int} {z A B C D : LI} {E : List Bool} {k : Int} {d : Nat} {l m p g j h : Hdr} {out : LI × LI × (List Bool) × Bool} (u : sparseref13_Search_Try_body rec n o z A B C D E k = some out) (y : imm I1 l.v z ∈ ros) (G : imm I1 m.v A ∈ ros) (a4 : imm (rI .u64) p.v B ∈ ros) (b : St w0 ros (box d 87 [iV n, iV o, l.v, m.v, p.v, g.v, j.v, h.v] :: row 3 I1 g.v C :: row 3 I1 j.v D :: row 4 rB h.v E :: rs) w) :
  Calls Tryz.prog 53 #[(pB d), iV k] w (fun e w => e = .returned (.bool out.2.2.2) ∧ St w0 ros (row 3 I1 g.v out.1 :: row 3 I1 j.v out.2.1 :: row 4 rB h.v out.2.2.1 :: box d 87 [iV n, iV o, l.v, m.v, p.v, g.v, j.v, h.v] :: rs) w) := by
 refine enterQ Tryz.func53 rfl Tryz.ntmps53 rfl fun Q a5 => sR fun _ c4 => Ya (.bool false) rfl (wK c4 (seqQ fun g2 c5 c6 => sR fun _ c7 => Ym (pB d) e0 (yY (yn e0) (yY (yFb FL_87_0 e0) (yY (yFb FL_25_2 e0) (yY (lb_ l.v O_22 e0 b R0) ?_))))))
 refine Ym (iV k) e0 (bE u fun c8 a6 u => yY (yIa SL_22 e0 e0 b (rdI y) a6) (yY (yI O_3 e0 b (rdI y) a6) (Ya (iV c8) e0 (wK c7 (blockQ fun a7 a8 => bE u fun a9 c9 u => ?_)))))
 have d0 : ∀ (K L : LI) (N : List Bool) (f : FV) w, St w0 ros (row 3 I1 g.v K :: row 3 I1 j.v L :: row 4 rB h.v N :: box d 87 [iV n, iV o, l.v, m.v, p.v, g.v, j.v, h.v] :: rs) w → .inl (K, L, N) = a9 → a7 (.exit 0) (fr 82 f) w := by
  intro K L N f w b ho
  subst ho
  refine a8 _ _ _ (c5 _ _ (sR fun _ d1 => Ya (.bool false) rfl (wK d1 (wp_ret ?_))))
  cases u
  exact a5 _ _ _ (fin1r Tryz.results53 ⟨rfl, rfl⟩ ⟨rfl, b⟩)
 have d2 : ∀ (O R : LI) (S : List Bool) (f : FV) w, f 4 = .bool true → St w0 ros (row 3 I1 g.v O :: row 3 I1 j.v R :: row 4 rB h.v S :: box d 87 [iV n, iV o, l.v, m.v, p.v, g.v, j.v, h.v] :: rs) w → .inr (O, R, S) = a9 → a7 .ret (fr 82 f) w := by
  intro O R S f w d3 b ho
  subst ho
  refine a8 _ _ _ (c6 _ _ _ rfl ?_)
  cases u
  exact a5 _ _ _ (fin1r Tryz.results53 ⟨rfl, d3⟩ ⟨rfl, b⟩)
 refine loopQ (fun s a w => ∃ (T U : LI) (V : List Bool) (q : Int) (f : FV), (T, U, V, q) = s ∧ a = fr 82 f ∧ f 0 = (pB d) ∧ f 1 = iV k ∧ f 5 = iV q ∧ St w0 ros (row 3 I1 g.v T :: row 3 I1 j.v U :: row 4 rB h.v V :: box d 87 [iV n, iV o, l.v, m.v, p.v, g.v, j.v, h.v] :: rs) w) c9 ⟨_, _, _, _, _, rfl, rfl, rfl, rfl, rfl, (b.k2t)⟩ ?_
 rintro _ _ w d4 ⟨T, U, V, q, f, rfl, rfl, r, H, F, b⟩ c b0 g3 d5 b2
 refine seqQ fun g4 d6 d7 => sR fun _ d8 => Ym (iV q) (eh F) (Ym (pB d) (eh r) (yY (yn e0) (yY (yFb FL_87_0 e0) (yY (yFb FL_25_2 e0) (yY (lb_ l.v O_22 e0 b R3) (Ym (iV k) (eh H) (yY (yadd e0 rfl) (bE c fun g5 b3 c => yY (yIa SL_22 e0 e0 b (rdI y) b3) (yY (yI O_3 e0 b (rdI y) b3) ?_)))))))))
 refine yY (ylss e0 e0) (wK d8 ?_)
 refine cIf e0 c (fun d9 c => ?_) fun d9 c => ?_
 ·refine wp_skip (d6 _ _ (seqQ fun e1 e2 e3 => ?_))
  have b4 : ∀ (W X : LI) (Z : List Bool) (f : FV) w, f 0 = (pB d) → f 1 = iV k → f 5 = iV q → St w0 ros (row 3 I1 g.v W :: row 3 I1 j.v X :: row 4 rB h.v Z :: box d 87 [iV n, iV o, l.v, m.v, p.v, g.v, j.v, h.v] :: rs) w → sparseref13_Search_Try_j12 q W X Z = some d4 → e1 .normal (fr 82 f) w := by
   intro W X Z f w e4 e5 e6 b u
   refine e2 _ _ (wR (Ym (iV q) (eh e6) (yY (yadd e0 rfl) (Ya (iV (wa .i64 q 1)) e0 (wN ?_)))))
   cases u
   exact d5 _ _ _ rfl ⟨_, _, _, _, _, rfl, rfl, e4, e5, rfl, b⟩
  refine blockQ fun _ a0 => sR fun _ e7 => Ym (pB d) (eh r) (yY (yn e0) (yY (yFb FL_87_0 e0) (yY (yFb FL_25_3 e0) (yY (lb_ m.v O_22 e0 b R3) (Ym (iV q) (eh F) (bE c fun t b5 c => yY (yIa SL_22 e0 e0 b (rdI G) b5) (yY (yI O_3 e0 b (rdI G) b5) (Ya (iV t) e0 (wN ?_)))))))))
  refine e7 _ _ (seqQ fun g6 e8 e9 => sR fun _ f0 => Ym (pB d) (eh r) (yY (yn e0) (yY (yFb FL_87_3 e0) (yY (lb_ h.v O_50 e0 b R3) (Ym (iV t) e0 (bE c fun g7 b6 c => yY (yIa SL_50 e0 e0 b rO2 b6) (yY (yB O_4 e0 b rO2 b6) (wK f0 (cB e0 c (fun f1 c => ?_) fun f1 c => ?_)))))))))
  ·exact wp_exit (e9 _ _ _ rfl (a0 _ _ _ (b4 _ _ _ _ _ r H F b c)))
  ·refine wp_skip (e8 _ _ (sR fun _ f2 => Ym (pB d) (eh r) (yY (yn e0) (yY (yFb FL_87_3 e0) (yY (lb_ h.v O_50 e0 b R3) (Ym (iV t) e0 (bE c fun g8 b7 c => yY (yIs SL_50 e0 e0 b rO2 b7) (yT (r_sti (cs := [.bool true]) (b.k17) O_4 rfl e0 rfl rfl mkB b7) fun w b => wN ?_))))))))
   refine f2 _ _ (sR fun _ f3 => Ym (pB d) (eh r) (yY (yn e0) (yY (yFb FL_87_1 e0) (yY (lb_ g.v O_22 e0 b R3) (Ym (iV t) e0 (bE c fun f4 b8 c => yY (yIa SL_22 e0 e0 b rO1 b8) (yY (yI O_3 e0 b rO1 b8) (yY (ylss e0 rfl) (Ym (.bool (decide (f4 < 0))) e0 (bE c fun I x c => ?_))))))))))
   refine joinW 10 (fun f w => f 0 = (pB d) ∧ f 1 = iV k ∧ f 5 = iV q ∧ f 6 = iV t ∧ f 67 = .bool I.1 ∧ St w0 ros (row 3 I1 g.v I.2.1 :: row 3 I1 j.v I.2.2.1 :: row 4 rB h.v I.2.2.2 :: box d 87 [iV n, iV o, l.v, m.v, p.v, g.v, j.v, h.v] :: rs) w) (fun b9 => ?_) ?_
   ·rcases iteS x with ⟨i, x⟩ | ⟨i, x⟩
    ·refine gN (dT i) (gN (dT i) (gN (dT i) (gN (dT i) (gN (dT i) (gN (dT i) (gN (dT i) (gN (dT i) (gN (dT i) (yY (pt_ (.bool true) e0 (dT i) rfl) ?_)))))))))
     cases x
     exact b9 _ _ ⟨r, H, F, rfl, rfl, (b.k2u)⟩
    ·refine yG (dF i) (m_ (pB d) (eh r)) (yG (dF i) (m_ (pB d) (eh r)) (yG (dF i) (yn e0) (yG (dF i) (yFb FL_87_1 e0) (yG (dF i) (lb_ g.v O_22 e0 b R3) (yG (dF i) (m_ (iV t) e0) (bE x fun g9 c0 x => yG (dF i) (yIa SL_22 e0 e0 b rO1 c0) (yG (dF i) (yI O_3 e0 b rO1 c0) (bE x fun f5 f6 x => ?_))))))))
     replace b := b.k1i
     refine Yc (wG (dF i)) rfl (yCall FN_53 (a2 e0 e0)) (c3 f6 y G a4 b) ?_
     rintro _ w ⟨rfl, b⟩
     refine ⟨_, rfl, ?_⟩
     refine yY (pf_ (.bool f5.2.2.2) e0 (dF i) e0) ?_
     cases x
     exact b9 _ _ ⟨r, H, F, rfl, rfl, b⟩
   rintro f w ⟨a1, J, f7, a3, f8, b⟩
   refine wK f3 (cB (eh f8) c (fun f9 c => ?_) fun f9 c => ?_)
   ·refine sQ fun _ g0 => bE c fun h0 c1 c => bE c fun h1 c2 c => dR [0, 1, 3, 7, 0, 0, 32, 96, 224, 0, 0, 0, 1535, 5631, 16383, 32767] [13, 15] 2 folM ?_
    replace b := b.drew
    refine Dn [0, 1, 2, 3, 4, 5, 6, 7, 8, 9, 10, 11, 12] [] [13] (yR rfl (m_ (pB d) (eh a1)) (yR rfl (yn e0) (yR rfl (yFb FL_87_1 e0) (yR rfl (lb_ g.v O_22 e0 b R3) (yR rfl (m_ (iV t) (eh a3)) (yR rfl (m_ (pB d) (eh a1)) (yR rfl (yn e0) (yR rfl (yFb FL_87_2 e0) (yR rfl (lb_ j.v O_22 e0 b R3) (yR rfl (m_ (iV k) (eh J)) (yR rfl (m_ (iV k) (eh J)) (yR rfl (m_ (iV t) (eh a3)) (yR rfl (yIs SL_22 e0 e0 b rO0 c1) ?_)))))))))))))
    refine Rn QSn ?_
    refine Lc1 rfl ?_
    refine LT wn (r_sti (cs := [iV k]) b O_3 rfl e0 e0 rfl mkI c1) fun w b => Dn [14] [9, 11] [15] (yR rfl (yIs SL_22 e0 e0 b rO1 c2) (Rn (yS rfl (m_ (iV k) (eh J)) (yS rfl (m_ (iV t) (eh a3)) QSn)) ?_))
    refine Lc1 rfl ?_
    replace b := b.k11
    refine LT wn (r_sti (cs := [iV t]) b O_3 rfl e0 e0 rfl mkI c2) fun w b => Dz [] [] (Rn QSn (g0 _ _ (sR fun _ g1 => Ya (.bool true) rfl (wK g1 (wp_ret (a0 _ _ _ (e3 _ _ _ rfl ?_)))))))
    cases c
    exact b2 _ _ _ _ rfl rfl (d2 _ _ _ _ _ rfl (b.k2v) (b0 _ rfl))
   ·exact wp_skip (a0 _ _ _ (b4 _ _ _ _ _ a1 J f7 b c))
 ·refine wp_exit (d7 _ _ _ rfl ?_)
  cases c
  exact b2 _ _ _ _ rfl rfl (d0 _ _ _ _ _ b (b0 _ rfl))
theorem sparseref13_Search_Try_ok_n (n : Nat) : ∀ {w0 : World} {ros : List Fact} {rs : List Res} {w : World} {f g : Int} {l m o p q : LI} {r : List Bool} {s : Int} {h : Nat} {i j k a b c : Hdr} {out : LI × LI × (List Bool) × Bool} (d : sparseref13_Search_Try n f g l m o p q r s = some out) (t : imm I1 i.v l ∈ ros) (u : imm I1 j.v m ∈ ros) (x : imm (rI .u64) k.v o ∈ ros) (y : St w0 ros (box h 87 [iV f, iV g, i.v, j.v, k.v, a.v, b.v, c.v] :: row 3 I1 a.v p :: row 3 I1 b.v q :: row 4 rB c.v r :: rs) w),
  Calls Tryz.prog 53 #[(pB h), iV s] w (fun e w => e = .returned (.bool out.2.2.2) ∧ St w0 ros (row 3 I1 a.v out.1 :: row 3 I1 b.v out.2.1 :: row 4 rB c.v out.2.2.1 :: box h 87 [iV f, iV g, i.v, j.v, k.v, a.v, b.v, c.v] :: rs) w) := by
 induction n with
 | zero => intro _ _ _ _ _ _ _ _ _ _ _ _ _ _ _ _ _ _ _ _ out d; cases d
 | succ n ih => exact fun d t u x y => sparseref13_Search_Try_step (rec := sparseref13_Search_Try n) ih d t u x y
theorem sparseref13_Search_Try_ok {d f : Int} {k l m n o : LI} {p : List Bool} {q : Int} {g : Nat} {h i j a b c : Hdr} {out : LI × LI × (List Bool) × Bool} (r : sparseref13_Search_Try FUEL d f k l m n o p q = some out) (s : imm I1 h.v k ∈ ros) (t : imm I1 i.v l ∈ ros) (u : imm (rI .u64) j.v m ∈ ros) (x : St w0 ros (box g 87 [iV d, iV f, h.v, i.v, j.v, a.v, b.v, c.v] :: row 3 I1 a.v n :: row 3 I1 b.v o :: row 4 rB c.v p :: rs) w) :
  Calls Tryz.prog 53 #[(pB g), iV q] w (fun e w => e = .returned (.bool out.2.2.2) ∧ St w0 ros (row 3 I1 a.v out.1 :: row 3 I1 b.v out.2.1 :: row 4 rB c.v out.2.2.1 :: box g 87 [iV d, iV f, h.v, i.v, j.v, a.v, b.v, c.v] :: rs) w) := sparseref13_Search_Try_ok_n FUEL r s t u x
theorem sparseref13_Find_ok {d c : Int} {D E F : LI} {g h i : Hdr} {out : LI × LI × (List Bool)} (n : sparseref13_Find d c D E F = some out) (L : imm I1 g.v D ∈ ros) (N : imm I1 h.v E ∈ ros) (O : imm (rI .u64) i.v F ∈ ros) (b : St w0 ros rs w) :
  Calls Tryz.prog 26 #[.agg #[iV d, iV c, g.v, h.v, i.v]] w (fun e w => ∃ (G : Nat) (H I J : Hdr), e = .returned (pB G) ∧ St w0 ros (row 3 I1 H.v out.1 :: row 3 I1 I.v out.2.1 :: row 4 rB J.v out.2.2 :: box G 87 [iV d, iV c, g.v, h.v, i.v, H.v, I.v, J.v] :: rs) w) := by
 refine enterQ Tryz.func26 rfl Tryz.ntmps26 rfl fun Q R => sR fun _ S => yBb (r_box (vals := [iV d, iV c, g.v, h.v, i.v]) b e0 rfl) fun K w b => Ya (.pointer none) rfl (wK S (sQ fun _ T => bE n fun c2 U n => bE n fun c3 V n => dR [0, 0, 2, 6, 0, 16, 62, 127, 255, 511] [3, 6, 8, 9] 4 folM ?_))
 replace b := b.drew
 refine Dn [0, 1, 2, 4, 5] [] [3] (yR rfl (lbs_ [iV d, iV c, g.v, h.v, i.v] ST_25 e0 b R0) (yR rfl (yFb FL_25_0 e0) (yR rfl (lb_ (iV d) O_3 e0 b R0) (yR rfl (yFb FL_25_1 e0) (yR rfl (lb_ (iV c) O_3 e0 b R0) (Rn QSn ?_))))))
 refine Lc1 rfl ?_
 refine Lk wn (yCall FN_52 (a1 e0)) (sparseref13_none_ok U b) ?_
 rintro _ w ⟨l, rfl, b⟩
 refine ⟨_, rfl, ?_⟩
 refine Dn [] [0, 4, 5] [6] (Rn (yS rfl (lbs_ [iV d, iV c, g.v, h.v, i.v] ST_25 e0 b R1) (yS rfl (yFb FL_25_1 e0) (yS rfl (lb_ (iV c) O_3 e0 b R1) QSn))) ?_)
 refine Lc1 rfl ?_
 refine Lk wn (yCall FN_52 (a1 e0)) (sparseref13_none_ok V b) ?_
 rintro _ w ⟨m, rfl, b⟩
 refine ⟨_, rfl, ?_⟩
 refine Dn [7] [0] [8] (yR rfl (ybuild (us := [iV d, iV c, g.v, h.v, i.v, l.v, m.v, hnil.v]) [(0, .agg #[iV d, iV c, g.v, h.v, i.v]), (1, l.v), (2, m.v)] SO_87 (bp3 e0 e0 e0) rfl) (Rn (yS rfl (lbs_ [iV d, iV c, g.v, h.v, i.v] ST_25 e0 b R2) QSn) ?_))
 refine Lc1 rfl ?_
 refine LB wn (r_box (vals := [iV d, iV c, g.v, h.v, i.v, l.v, m.v, hnil.v]) b e0 rfl) fun j w b => Dn [] [] [9] (Rn QSn ?_)
 refine Lc1 rfl ?_
 refine Ly wn (a_ (pB j) e0) (Dz [] [] (Rn QSn (T _ _ (sQ fun _ W => sR fun _ X => Ya (iV 0) rfl (wK X (blockQ fun Z a0 => bE n fun a3 a4 n => ?_))))))
 have a5 : ∀ (q r : LI) (t : List Bool) (u : Hdr) (f : FV) w, f 3 = (pB j) → St w0 ros (row 3 I1 l.v q :: row 3 I1 m.v r :: row 4 rB u.v t :: box j 87 [iV d, iV c, g.v, h.v, i.v, l.v, m.v, u.v] :: rs) w → (q, r, t) = a3 → Z (.exit 0) (fr 30 f) w := by
  intro q r t u f w a6 b ho
  subst ho
  refine a0 _ _ _ (W _ _ (sR fun _ a7 => Ym (pB j) (eh a6) (Ya (pB j) e0 (wK a7 (wp_ret ?_)))))
  cases n
  exact R _ _ _ (fin1r Tryz.results26 ⟨rfl, rfl⟩ ⟨_, _, _, _, rfl, b⟩)
 replace b := b.rowNh 4 rB
 refine loopQ (fun s a w => ∃ (x y : LI) (z : List Bool) (o : Int) (f : FV) (A : Hdr), (x, y, z, o) = s ∧ a = fr 30 f ∧ f 1 = (pB K) ∧ f 3 = (pB j) ∧ f 4 = iV o ∧ St w0 ros (box K 25 [iV d, iV c, g.v, h.v, i.v] :: row 3 I1 l.v x :: row 3 I1 m.v y :: row 4 rB A.v z :: box j 87 [iV d, iV c, g.v, h.v, i.v, l.v, m.v, A.v] :: rs) w) a4 ⟨_, _, _, _, _, _, rfl, rfl, rfl, rfl, rfl, (b.k2w)⟩ ?_
 rintro _ _ w c4 ⟨x, y, z, o, f, A, rfl, rfl, B, p, C, b⟩ k a8 c5 a9 b0
 refine seqQ fun c6 b1 b2 => sR fun _ b3 => Ym (iV o) (eh C) (yY (yFb FL_25_1 (eh B)) (yY (lb_ (iV c) O_3 e0 b R0) (yY (ylss e0 e0) (wK b3 ?_))))
 refine cIf e0 k (fun b4 k => ?_) fun b4 k => ?_
 ·refine wp_skip (b1 _ _ (sQ fun _ b5 => blockQ fun _ b6 => sR fun _ b7 => Ym (pB j) (eh p) (yY (yFb FL_25_0 (eh B)) (yY (lb_ (iV d) O_3 e0 b R0) (bE k fun c7 b8 k => yH (rMk b SL_50 e0 b8) fun c0 w b => yY (yn e0) (yY (yFb FL_87_3 e0) ?_))))))
  refine yT (r_stb1 (vals' := [iV d, iV c, g.v, h.v, i.v, l.v, m.v, c0.v]) (b.k1k) O_50 e0 e0 rfl rfl rfl rfl) fun w b => wK b7 (wR (Ym (pB j) (eh p) (Ym (iV o) (eh C) (bE k fun c8 c1 k => ?_))))
  replace b := b.k2x
  refine yC (yCall FN_53 (a2 e0 e0)) (sparseref13_Search_Try_ok c1 L N O b) ?_
  rintro _ w ⟨rfl, b⟩
  refine ⟨_, rfl, ?_⟩
  refine wN (b6 _ _ _ (b5 _ _ (wR (Ym (iV o) (eh C) (yY (yadd e0 rfl) (Ya (iV (wa .i64 o 1)) e0 (wN ?_)))))))
  cases k
  exact a9 _ _ _ rfl ⟨_, _, _, _, _, _, rfl, rfl, B, p, rfl, (b.k2y)⟩
 ·refine wp_exit (b2 _ _ _ rfl ?_)
  cases k
  exact b0 _ _ _ _ rfl rfl (a5 _ _ _ _ _ _ p (b.k2k) (a8 _ rfl))
theorem sparseref13_Reach_ok {o m : Int} {d3 d4 d5 u x : LI} {y : List Bool} {c : Nat} {p r z g h i : Hdr} {out : (List Bool) × (List Bool)} (A : sparseref13_Reach o m d3 d4 d5 u x y = some out) (T : imm I1 p.v d3 ∈ ros) (d6 : imm I1 r.v d4 ∈ ros) (r3 : imm (rI .u64) z.v d5 ∈ ros) (b : St w0 ros (box c 87 [iV o, iV m, p.v, r.v, z.v, g.v, h.v, i.v] :: row 3 I1 g.v u :: row 3 I1 h.v x :: row 4 rB i.v y :: rs) w) :
  Calls Tryz.prog 25 #[(pB c)] w (fun e w => ∃ (d7 d8 : Hdr), e = .returned (.tuple #[d7.v, d8.v]) ∧ St w0 ros (row 3 I1 g.v u :: row 3 I1 h.v x :: row 4 rB i.v y :: box c 87 [iV o, iV m, p.v, r.v, z.v, g.v, h.v, i.v] :: row 4 rB d7.v out.1 :: row 4 rB d8.v out.2 :: rs) w) := by
 refine enterQ Tryz.func25 rfl Tryz.ntmps25 rfl fun Q g4 => sR fun _ k1 => Ya hnil.v rfl (Ya hnil.v rfl (wK k1 (sQ fun _ g5 => bE A fun U d9 A => bE A fun g6 a3 A => ?_)))
 refine joinN (n := 119) (fun f w => ∃ (j d : Hdr), f 0 = (pB c) ∧ f 4 = j.v ∧ f 5 = d.v ∧ St w0 ros (row 3 I1 g.v u :: row 3 I1 h.v x :: row 4 rB i.v y :: box c 87 [iV o, iV m, p.v, r.v, z.v, g.v, h.v, i.v] :: row 4 rB j.v U :: row 4 rB d.v g6 :: rs) w) (fun a4 => ?_) ?_
 ·refine dR [0, 1, 3, 7, 15, 31, 0, 64, 192, 448, 960, 1984, 63, 8191] [5, 11, 12, 13] 4 folM ?_
  replace b := b.drew
  refine Dn [0, 1, 2, 3, 4, 6, 7, 8, 9, 10] [] [5, 11] (yR rfl (m_ (pB c) e0) (yR rfl (yn e0) (yR rfl (yFb FL_87_0 e0) (yR rfl (yFb FL_25_0 e0) (yR rfl (lb_ (iV o) O_3 e0 b R0) (yR rfl (m_ (pB c) e0) (yR rfl (yn e0) (yR rfl (yFb FL_87_0 e0) (yR rfl (yFb FL_25_1 e0) (yR rfl (lb_ (iV m) O_3 e0 b R0) (Rn QSn ?_)))))))))))
  refine Lc rfl ?_ (Lc1 rfl ?_)
  ·refine LH wn (rMk b SL_50 e0 d9) fun V w b => Dn [] [6, 7, 8, 9, 10] [11, 12] (Rn (yS rfl (m_ (pB c) e0) (yS rfl (yn e0) (yS rfl (yFb FL_87_0 e0) (yS rfl (yFb FL_25_1 e0) (yS rfl (lb_ (iV m) O_3 e0 b R1) QSn))))) ?_)
   refine Lc rfl ?_ (Lc1 rfl ?_)
   ·refine LH wn (rMk b SL_50 e0 a3) fun O w b => Dn [] [] [12] (Rn QSn ?_)
    refine Lc1 rfl ?_
    refine Ly wn (a_ V.v e0) (Dn [] [] [13] (Rn QSn ?_))
    refine Lc1 rfl ?_
    exact Ly wn (a_ O.v e0) (Dz [] [] (Rn QSn (a4 _ _ ⟨_, _, rfl, rfl, rfl, (b.k2z)⟩)))
   ·refine Ly wn (a_ V.v e0) (Dn [] [6, 7, 8, 9, 10] [11] (Rn (yS rfl (m_ (pB c) e0) (yS rfl (yn e0) (yS rfl (yFb FL_87_0 e0) (yS rfl (yFb FL_25_1 e0) (yS rfl (lb_ (iV m) O_3 e0 b R1) QSn))))) ?_))
    refine Lc1 rfl ?_
    refine LH wn (rMk b SL_50 e0 a3) fun O w b => Dn [] [] [13] (Rn QSn ?_)
    refine Lc1 rfl ?_
    exact Ly wn (a_ O.v e0) (Dz [] [] (Rn QSn (a4 _ _ ⟨_, _, rfl, rfl, rfl, (b.k2z)⟩)))
  ·refine LH wn (rMk b SL_50 e0 a3) fun O w b => Dn [] [0, 1, 2, 3, 4] [5] (Rn (yS rfl (m_ (pB c) e0) (yS rfl (yn e0) (yS rfl (yFb FL_87_0 e0) (yS rfl (yFb FL_25_0 e0) (yS rfl (lb_ (iV o) O_3 e0 b R1) QSn))))) ?_)
   refine Lc1 rfl ?_
   refine LH wn (rMk b SL_50 e0 d9) fun V w b => Dn [] [] [12] (Rn QSn ?_)
   refine Lc1 rfl ?_
   refine Ly wn (a_ V.v e0) (Dn [] [] [13] (Rn QSn ?_))
   refine Lc1 rfl ?_
   exact Ly wn (a_ O.v e0) (Dz [] [] (Rn QSn (a4 _ _ ⟨_, _, rfl, rfl, rfl, (b.k30)⟩)))
 rintro f w ⟨j, d, F, I, J, b⟩
 refine g5 _ _ (sR fun _ g7 => Ya hnil.v rfl (wK g7 (sQ fun _ g8 => sR fun _ g9 => Ya (iV 0) rfl (wK g9 (blockQ fun h0 h1 => bE A fun h2 h3 A => ?_)))))
 have h4 : ∀ (a5 : List Bool) (a6 : LI) (a7 : Hdr) (f : FV) w, f 0 = (pB c) → f 4 = j.v → f 5 = d.v → f 6 = a7.v → St w0 ros (row 3 I1 g.v u :: row 3 I1 h.v x :: row 4 rB i.v y :: box c 87 [iV o, iV m, p.v, r.v, z.v, g.v, h.v, i.v] :: row 4 rB j.v U :: row 4 rB d.v a5 :: row 3 I1 a7.v a6 :: rs) w → (a5, a6) = h2 → h0 (.exit 0) (fr 119 f) w := by
  intro a5 a6 a7 f w h6 h8 i0 i1 b ho
  subst ho
  refine h1 _ _ _ (g8 _ _ (sQ fun _ i2 => blockQ fun i3 i4 => bE A fun i5 i6 A => ?_))
  have i7 : ∀ (a8 a9 : List Bool) (f : FV) w, f 4 = j.v → f 5 = d.v → St w0 ros (row 3 I1 g.v u :: row 3 I1 h.v x :: row 4 rB i.v y :: box c 87 [iV o, iV m, p.v, r.v, z.v, g.v, h.v, i.v] :: row 4 rB j.v a8 :: row 4 rB d.v a9 :: rs) w → (a8, a9) = i5 → i3 (.exit 2) (fr 119 f) w := by
   intro a8 a9 f w i8 i9 b ho
   subst ho
   refine i4 _ _ _ (i2 _ _ (sR fun _ j0 => Ym j.v (eh i8) (Ym d.v (eh i9) (Ya j.v e0 (Ya d.v e0 (wK j0 (wp_ret ?_)))))))
   cases A
   exact g4 _ _ _ (fin2r Tryz.results25 ⟨rfl, rfl⟩ ⟨rfl, rfl⟩ ⟨_, _, rfl, b⟩)
  refine loopQ (fun s a w => ∃ (b0 b2 : List Bool) (W : LI) (f : FV) (G : Hdr), (b0, b2, W) = s ∧ a = fr 119 f ∧ f 0 = (pB c) ∧ f 4 = j.v ∧ f 5 = d.v ∧ f 6 = G.v ∧ St w0 ros (row 3 I1 g.v u :: row 3 I1 h.v x :: row 4 rB i.v y :: box c 87 [iV o, iV m, p.v, r.v, z.v, g.v, h.v, i.v] :: row 4 rB j.v b0 :: row 4 rB d.v b2 :: row 3 I1 G.v W :: rs) w) i6 ⟨_, _, _, _, _, rfl, rfl, h6, h8, i0, i1, b⟩ ?_
  rintro _ _ w r4 ⟨b0, b2, W, f, G, rfl, rfl, e1, e2, e3, R, b⟩ B j2 r5 j3 j4
  refine seqQ fun r6 j5 j6 => sR fun _ j7 => Ym G.v (eh R) (yY (yLen SL_22 e0 b rO6) (yY (ygtr e0 rfl) (wK j7 ?_)))
  refine cIf e0 B (fun j8 B => ?_) fun j8 B => ?_
  ·refine wp_skip (j5 _ _ (blockQ fun _ j9 => sR fun _ k0 => Ym G.v (eh R) (Ym G.v (eh R) (yY (yLen SL_22 e0 b rO6) (yY (ysub e0 rfl) (bE B fun K e4 B => yY (yIa SL_22 e0 e0 b rO6 e4) (yY (yI O_3 e0 b rO6 e4) (Ya (iV K) e0 (wN ?_)))))))))
   refine k0 _ _ (sR fun _ k6 => Ym G.v (eh R) (Ym G.v (eh R) (yY (yLen SL_22 e0 b rO6) (yY (ysub e0 rfl) (bE B fun r7 e5 B => ?_)))))
   replace b := b.k1a
   refine yY (ySl (k1 := .i64) (hi := (ws .i64 (W.length : Int) 1 : Int)) SL_22 e0 b rO0 (.inr ⟨rfl, rfl⟩) (.inl (congrArg some e0)) e5) ?_
   obtain ⟨k7, eh247, b⟩ := b.resl e5
   rw [← eh247]
   refine Ya k7.v e0 (wK k6 (sR fun _ k8 => Ym (pB c) (eh e1) (yY (yn e0) (yY (yFb FL_87_0 e0) (yY (yFb FL_25_2 e0) (yY (lb_ p.v O_22 e0 b R4) (Ym (iV K) e0 (bE B fun k9 e6 B => yY (yIa SL_22 e0 e0 b (rdI T) e6) (yY (yI O_3 e0 b (rdI T) e6) ?_)))))))))
   refine Ya (iV k9) e0 (wK k8 (blockQ fun l0 l1 => bE B fun l2 l3 B => ?_))
   have l4 : ∀ (b3 b4 : List Bool) (b5 : LI) (b6 : Hdr) (f : FV) w, f 0 = (pB c) → f 4 = j.v → f 5 = d.v → f 6 = b6.v → St w0 ros (row 3 I1 g.v u :: row 3 I1 h.v x :: row 4 rB i.v y :: box c 87 [iV o, iV m, p.v, r.v, z.v, g.v, h.v, i.v] :: row 4 rB j.v b3 :: row 4 rB d.v b4 :: row 3 I1 b6.v b5 :: rs) w → (b3, b4, b5) = l2 → l0 (.exit 4) (fr 119 f) w := by
    intro b3 b4 b5 b6 f w l5 l6 l7 l8 b ho
    subst ho
    refine l1 _ _ _ (j9 _ _ _ ?_)
    cases B
    exact j3 _ _ _ rfl ⟨_, _, _, _, _, rfl, rfl, l5, l6, l7, l8, b⟩
   refine loopQ (fun s a w => ∃ (b7 X : List Bool) (Z : LI) (D : Int) (f : FV) (L : Hdr), (b7, X, Z, D) = s ∧ a = fr 119 f ∧ f 0 = (pB c) ∧ f 4 = j.v ∧ f 5 = d.v ∧ f 6 = L.v ∧ f 8 = iV K ∧ f 9 = iV D ∧ St w0 ros (row 3 I1 g.v u :: row 3 I1 h.v x :: row 4 rB i.v y :: box c 87 [iV o, iV m, p.v, r.v, z.v, g.v, h.v, i.v] :: row 4 rB j.v b7 :: row 4 rB d.v X :: row 3 I1 L.v Z :: rs) w) l3 ⟨_, _, _, _, _, _, rfl, rfl, e1, e2, e3, rfl, rfl, rfl, (b.k31)⟩ ?_
   rintro _ _ w l9 ⟨b7, X, Z, D, f, L, rfl, rfl, F, I, J, b8, b9, a0, b⟩ k m0 r8 m1 m2
   refine seqQ fun r9 m3 m4 => sR fun _ m5 => Ym (iV D) (eh a0) (Ym (pB c) (eh F) (yY (yn e0) (yY (yFb FL_87_0 e0) (yY (yFb FL_25_2 e0) (yY (lb_ p.v O_22 e0 b R3) (Ym (iV K) (eh b9) (yY (yadd e0 rfl) (bE k fun s0 e7 k => yY (yIa SL_22 e0 e0 b (rdI T) e7) (yY (yI O_3 e0 b (rdI T) e7) ?_)))))))))
   refine yY (ylss e0 e0) (wK m5 ?_)
   refine cIf e0 k (fun m6 k => ?_) fun m6 k => ?_
   ·refine wp_skip (m3 _ _ (sQ fun _ m7 => blockQ fun m8 m9 => sR fun _ n0 => Ym (pB c) (eh F) (yY (yn e0) (yY (yFb FL_87_0 e0) (yY (yFb FL_25_3 e0) (yY (lb_ r.v O_22 e0 b R3) (Ym (iV D) (eh a0) (bE k fun c0 e8 k => yY (yIa SL_22 e0 e0 b (rdI d6) e8) ?_))))))))
    refine yY (yI O_3 e0 b (rdI d6) e8) (Ya (iV c0) e0 (wK n0 (sR fun _ n1 => Ym j.v (eh I) (Ym (iV c0) e0 (bE k fun c1 e9 k => yY (yIs SL_50 e0 e0 b rO4 e9) (yT (r_sti (cs := [.bool true]) (b.k1j) O_4 rfl e0 rfl rfl mkB e9) fun w b => wK n1 ?_))))))
    refine sR fun _ n2 => Ym (pB c) (eh F) (yY (yn e0) (yY (yFb FL_87_1 e0) (yY (lb_ g.v O_22 e0 b R4) (Ym (iV c0) e0 (bE k fun E f0 k => yY (yIa SL_22 e0 e0 b rO1 f0) (yY (yI O_3 e0 b rO1 f0) (Ya (iV E) e0 (wK n2 (sQ fun _ n3 => ?_)))))))))
    refine wR (Ym (iV E) e0 (yY (ygeq e0 rfl) (Ym (.bool (decide ((0 : Int) ≤ E))) e0 (bE k fun n5 H k => ?_))))
    refine joinW 6 (fun f w => f 0 = (pB c) ∧ f 4 = j.v ∧ f 5 = d.v ∧ f 6 = L.v ∧ f 8 = iV K ∧ f 9 = iV D ∧ f 11 = iV E ∧ f 109 = .bool n5 ∧ St w0 ros (row 3 I1 g.v u :: row 3 I1 h.v x :: row 4 rB i.v y :: box c 87 [iV o, iV m, p.v, r.v, z.v, g.v, h.v, i.v] :: row 4 rB j.v c1 :: row 4 rB d.v X :: row 3 I1 L.v Z :: rs) w) (fun f1 => ?_) ?_
    ·rcases iteS H with ⟨C, H⟩ | ⟨C, H⟩
     ·refine yG (dT C) (m_ d.v (eh J)) (yG (dT C) (m_ (iV E) e0) (bE H fun n6 f2 H => yG (dT C) (yIa SL_50 e0 e0 b rO5 f2) (yG (dT C) (yB O_4 e0 b rO5 f2) (yG (dT C) (ynot e0) (yY (pt_ (.bool (!n6)) e0 (dT C) e0) ?_)))))
      cases H
      exact f1 _ _ ⟨F, I, J, b8, b9, a0, rfl, rfl, (b.k32)⟩
     ·refine gN (dF C) (gN (dF C) (gN (dF C) (gN (dF C) (gN (dF C) (yY (pf_ (.bool false) e0 (dF C) rfl) ?_)))))
      cases H
      exact f1 _ _ ⟨F, I, J, b8, b9, a0, rfl, rfl, (b.k32)⟩
    rintro f w ⟨f3, f4, c2, f5, f6, f7, f8, n7, b⟩
    refine wK n3 ?_
    have f9 : ∀ (c3 : List Bool) (c4 : LI) (c5 : Hdr) (f : FV) w, f 0 = (pB c) → f 4 = j.v → f 5 = d.v → f 6 = c5.v → f 8 = iV K → f 9 = iV D → St w0 ros (row 3 I1 g.v u :: row 3 I1 h.v x :: row 4 rB i.v y :: box c 87 [iV o, iV m, p.v, r.v, z.v, g.v, h.v, i.v] :: row 4 rB j.v c1 :: row 4 rB d.v c3 :: row 3 I1 c5.v c4 :: rs) w → sparseref13_Reach_j26 c1 D c3 c4 = some l9 → m8 .normal (fr 119 f) w := by
     intro c3 c4 c5 f w n8 n9 o0 o1 o2 o3 b A
     refine m9 _ _ _ (m7 _ _ (wR (Ym (iV D) (eh o3) (yY (yadd e0 rfl) (Ya (iV (wa .i64 D 1)) e0 (wN ?_))))))
     cases A
     exact m1 _ _ _ rfl ⟨_, _, _, _, _, _, rfl, rfl, n8, n9, o0, o1, o2, rfl, b⟩
    refine cB (eh n7) k (fun o5 k => ?_) fun o5 k => ?_
    ·refine sR fun _ o6 => Ym d.v (eh c2) (Ym (iV E) (eh f8) (bE k fun s1 g0 k => yY (yIs SL_50 e0 e0 b rO5 g0) (yT (r_sti (cs := [.bool true]) (b.k1k) O_4 rfl e0 rfl rfl mkB g0) fun w b => wK o6 (wR (Ym L.v (eh f5) (Ym (iV E) (eh f8) (yH (rLt (n := 1) (l := [E]) b SL_22 [iV E] (bp1 e0) rfl rfl (mks1 (cs := [iV E]) rfl mkI mks0)) ?_)))))))
     exact fun s2 w b => bE k fun s3 o7 k => yH (rAp (b.k22) SL_22 e0 e0 rO1 o7) fun o8 w b => Ya o8.v e0 (wN (f9 _ _ _ _ _ f3 f4 c2 rfl f6 f7 (b.k33) k))
    ·exact wp_skip (f9 _ _ _ _ _ f3 f4 c2 f5 f6 f7 b k)
   ·refine wp_exit (m4 _ _ _ rfl ?_)
    cases k
    exact m2 _ _ _ _ rfl rfl (l4 _ _ _ _ _ _ F I J b8 b (m0 _ rfl))
  ·refine wp_exit (j6 _ _ _ rfl ?_)
   cases B
   exact j4 _ _ _ _ rfl rfl (i7 _ _ _ _ e2 e3 (b.k34) (j2 _ rfl))
 replace b := b.rowNh 3 I1
 refine loopQ (fun s a w => ∃ (c6 : List Bool) (c7 : LI) (t : Int) (f : FV) (a1 : Hdr), (c6, c7, t) = s ∧ a = fr 119 f ∧ f 0 = (pB c) ∧ f 4 = j.v ∧ f 5 = d.v ∧ f 6 = a1.v ∧ f 7 = iV t ∧ St w0 ros (row 3 I1 g.v u :: row 3 I1 h.v x :: row 4 rB i.v y :: box c 87 [iV o, iV m, p.v, r.v, z.v, g.v, h.v, i.v] :: row 4 rB j.v U :: row 4 rB d.v c6 :: row 3 I1 a1.v c7 :: rs) w) h3 ⟨_, _, _, _, _, rfl, rfl, F, I, J, rfl, rfl, (b.k31)⟩ ?_
 rintro _ _ w o9 ⟨c6, c7, t, f, a1, rfl, rfl, S, c8, a2, c9, N, b⟩ q p0 s4 p1 p2
 refine seqQ fun s5 p3 p4 => sR fun _ p5 => Ym (iV t) (eh N) (Ym (pB c) (eh S) (yY (yn e0) (yY (yFb FL_87_0 e0) (yY (yFb FL_25_1 e0) (yY (lb_ (iV m) O_3 e0 b R3) (yY (ylss e0 e0) (wK p5 ?_)))))))
 refine cIf e0 q (fun p6 q => ?_) fun p6 q => ?_
 ·refine wp_skip (p3 _ _ (sQ fun _ p7 => blockQ fun p8 p9 => sR fun _ q0 => Ym (pB c) (eh S) (yY (yn e0) (yY (yFb FL_87_2 e0) (yY (lb_ h.v O_22 e0 b R3) (Ym (iV t) (eh N) (bE q fun s6 g1 q => yY (yIa SL_22 e0 e0 b rO1 g1) (yY (yI O_3 e0 b rO1 g1) ?_))))))))
  refine yY (ylss e0 rfl) (wK q0 ?_)
  have g2 : ∀ (d0 : List Bool) (d1 : LI) (d2 : Hdr) (f : FV) w, f 0 = (pB c) → f 4 = j.v → f 5 = d.v → f 6 = d2.v → f 7 = iV t → St w0 ros (row 3 I1 g.v u :: row 3 I1 h.v x :: row 4 rB i.v y :: box c 87 [iV o, iV m, p.v, r.v, z.v, g.v, h.v, i.v] :: row 4 rB j.v U :: row 4 rB d.v d0 :: row 3 I1 d2.v d1 :: rs) w → sparseref13_Reach_j27 t d0 d1 = some o9 → p8 .normal (fr 119 f) w := by
   intro d0 d1 d2 f w q4 q5 q6 q7 q8 b A
   refine p9 _ _ _ (p7 _ _ (wR (Ym (iV t) (eh q8) (yY (yadd e0 rfl) (Ya (iV (wa .i64 t 1)) e0 (wN ?_))))))
   cases A
   exact p1 _ _ _ rfl ⟨_, _, _, _, _, rfl, rfl, q4, q5, q6, q7, rfl, b⟩
  refine cIf e0 q (fun q9 q => ?_) fun q9 q => ?_
  ·refine sR fun _ r0 => Ym d.v (eh a2) (Ym (iV t) (eh N) (bE q fun s7 g3 q => yY (yIs SL_50 e0 e0 b rO5 g3) (yT (r_sti (cs := [.bool true]) (b.k1k) O_4 rfl e0 rfl rfl mkB g3) fun w b => wK r0 (wR (Ym a1.v (eh c9) (Ym (iV t) (eh N) (yH (rLt (n := 1) (l := [t]) b SL_22 [iV t] (bp1 e0) rfl rfl (mks1 (cs := [iV t]) rfl mkI mks0)) ?_)))))))
   exact fun s8 w b => bE q fun s9 r1 q => yH (rAp (b.k22) SL_22 e0 e0 rO1 r1) fun r2 w b => Ya r2.v e0 (wN (g2 _ _ _ _ _ S c8 a2 rfl N (b.k33) q))
  ·exact wp_skip (g2 _ _ _ _ _ S c8 a2 c9 N b q)
 ·refine wp_exit (p4 _ _ _ rfl ?_)
  cases q
  exact p2 _ _ _ _ rfl rfl (h4 _ _ _ _ _ S c8 a2 c9 b (p0 _ rfl))
theorem sparseref13_Chosen_ok {z : List Bool} {h : Bool} {g : Hdr} {out : LI} (i : sparseref13_Chosen z h = some out) (p : imm rB g.v z ∈ ros) (b : St w0 ros rs w) :
  Calls Tryz.prog 27 #[g.v, .bool h] w (fun e w => ∃ (A : Hdr), e = .returned (A.v) ∧ St w0 ros (row 3 I1 A.v out :: rs) w) := by
 refine enterQ Tryz.func27 rfl Tryz.ntmps27 rfl fun Q D => sR fun _ E => Ya hnil.v rfl (wK E (sR fun _ F => Ya hnil.v rfl (wK F (sQ fun _ G => sR fun _ H => ?_))))
 refine Ya (iV 0) rfl (wK H (blockQ fun I J => bE i fun K L i => ?_))
 have N : ∀ (q : LI) (j : Hdr) (f : FV) w, f 5 = j.v → St w0 ros (row 3 I1 j.v q :: rs) w → q = K → I (.exit 0) (fr 24 f) w := by
  intro q j f w O b ho
  subst ho
  refine J _ _ _ (G _ _ (sR fun _ R => Ym j.v (eh O) (Ya j.v e0 (wK R (wp_ret ?_)))))
  cases i
  exact D _ _ _ (fin1r Tryz.results27 ⟨rfl, rfl⟩ ⟨_, rfl, b⟩)
 replace b := b.rowNh 3 I1
 refine loopQ (fun s a w => ∃ (r : LI) (c : Int) (f : FV) (m : Hdr), (r, c) = s ∧ a = fr 24 f ∧ f 0 = g.v ∧ f 1 = .bool h ∧ f 5 = m.v ∧ f 6 = iV c ∧ St w0 ros (row 3 I1 m.v r :: rs) w) L ⟨_, _, _, _, rfl, rfl, rfl, rfl, rfl, rfl, b⟩ ?_
 rintro _ _ w S ⟨r, c, f, m, rfl, rfl, o, t, u, k, b⟩ d T b2 U V
 refine seqQ fun b3 W X => sR fun _ Z => Ym (iV c) (eh k) (Ym g.v (eh o) (yY (yLen SL_50 e0 b (rdI p)) (yY (ylss e0 e0) (wK Z ?_))))
 refine cIf e0 d (fun a0 d => ?_) fun a0 d => ?_
 ·refine wp_skip (W _ _ (sQ fun _ a1 => blockQ fun a2 a3 => sR fun _ a4 => Ym g.v (eh o) (Ym (iV c) (eh k) (bE d fun b4 B d => yY (yIa SL_50 e0 e0 b (rdI p) B) (yY (yB O_4 e0 b (rdI p) B) (Ym (.bool h) (eh t) (yY (yeqb (by kernel_rfl) e0 e0) (wN ?_))))))))
  refine a4 _ _ ?_
  have C : ∀ (x : LI) (y : Hdr) (f : FV) w, f 0 = g.v → f 1 = .bool h → f 5 = y.v → f 6 = iV c → St w0 ros (row 3 I1 y.v x :: rs) w → sparseref13_Chosen_j4 c x = some S → a2 .normal (fr 24 f) w := by
   intro x y f w a5 a6 a7 a8 b i
   refine a3 _ _ _ (a1 _ _ (wR (Ym (iV c) (eh a8) (yY (yadd e0 rfl) (Ya (iV (wa .i64 c 1)) e0 (wN ?_))))))
   cases i
   exact U _ _ _ rfl ⟨_, _, _, _, rfl, rfl, a5, a6, a7, rfl, b⟩
  refine cB e0 d (fun a9 d => ?_) fun a9 d => ?_
  ·exact wR (Ym m.v (eh u) (Ym (iV c) (eh k) (yH (rLt (n := 1) (l := [c]) b SL_22 [iV c] (bp1 e0) rfl rfl (mks1 (cs := [iV c]) rfl mkI mks0)) fun b5 w b => bE d fun b6 b0 d => yH (rAp (b.k11) SL_22 e0 e0 rO1 b0) fun b1 w b => Ya b1.v e0 (wN (C _ _ _ _ o t rfl k (b.k1f) d)))))
  ·exact wp_skip (C _ _ _ _ o t u k b d)
 ·refine wp_exit (X _ _ _ rfl ?_)
  cases d
  exact V _ _ _ _ rfl rfl (N _ _ _ _ u b (T _ rfl))
theorem sparseref15_Coarse_ok {x y : Int} {d4 d5 d6 : LI} {A B C : Hdr} {out : LI × LI × LI × LI × LI × LI × Int} (c : sparseref15_Coarse x y d4 d5 d6 = some out) (a5 : imm I1 A.v d4 ∈ ros) (a6 : imm I1 B.v d5 ∈ ros) (a7 : imm (rI .u64) C.v d6 ∈ ros) (b : St w0 ros rs w) :
  Calls Tryz.prog 8 #[.agg #[iV x, iV y, A.v, B.v, C.v]] w (fun e w => ∃ (d7 d8 d9 e1 e2 e3 : Hdr), e = .returned (.tuple #[.agg #[d7.v, d8.v, d9.v, e1.v, e2.v, e3.v], iV out.2.2.2.2.2.2]) ∧ St w0 ros (row 3 I1 d7.v out.1 :: row 3 I1 d8.v out.2.1 :: row 3 I1 d9.v out.2.2.1 :: row 3 I1 e1.v out.2.2.2.1 :: row 3 I1 e2.v out.2.2.2.2.1 :: row 3 I1 e3.v out.2.2.2.2.2.1 :: rs) w) := by
 refine enterQ Tryz.func8 rfl Tryz.ntmps8 rfl fun Q e4 => sR fun _ g4 => yBb (r_box (vals := [iV x, iV y, A.v, B.v, C.v]) b e0 rfl) fun z w b => yBb (rAl b ZT_32) fun m w b => Ya (iV 0) rfl (wK g4 (seqQ fun r4 g5 g6 => sR fun _ g7 => yY (lbs_ [iV x, iV y, A.v, B.v, C.v] ST_25 e0 b R1) ?_))
 refine bE c fun a8 g8 c => yC (yCall FN_23 (a1 e0)) (sparseref09_Check_ok g8 a5 a6 a7 b) ?_
 rintro _ w ⟨rfl, b⟩
 refine ⟨_, rfl, ?_⟩
 refine Ya (iV a8) e0 (wK g7 (sR fun _ g9 => Ym (iV a8) e0 (yY (yneq e0 rfl) (wK g9 ?_))))
 rcases iteS c with ⟨b4, c⟩ | ⟨b4, c⟩
 ·refine condF e0 (nF (dT b4)) (wp_skip (g5 _ _ (sR fun _ h0 => yY (lbs_ [iV x, iV y, A.v, B.v, C.v] ST_25 e0 b R1) (bE c fun D h1 c => yC (yCall FN_24 (a1 e0)) (sparseref09_Transpose_ok h1 a5 a6 a7 b) ?_))))
  rintro _ w ⟨X, Z, a0, rfl, b⟩
  refine ⟨_, rfl, ?_⟩
  refine Ym (.tuple #[.agg #[iV D.1, iV D.2.1, X.v, Z.v, a0.v], iV D.2.2.2.2.2]) e0 (yY (x_ (.agg #[iV D.1, iV D.2.1, X.v, Z.v, a0.v]) e0) (yY (x_ (iV D.2.2.2.2.2) e0) (yBb (rAl b ZT_25) fun r5 w b => yT (r_stbn (vals' := [iV D.1, iV D.2.1, X.v, Z.v, a0.v]) (us := [iV D.1, iV D.2.1, X.v, Z.v, a0.v]) b ST_25 e0 e0 rfl rfl (one_of rfl) rfl) fun w b => Ya (iV D.2.2.2.2.2) e0 (wK h0 (sR fun _ h2 => yY (lbs_ [iV x, iV y, A.v, B.v, C.v] ST_25 e0 b R5) (bE c fun r6 h3 c => ?_))))))
  refine yC (yCall FN_26 (a1 e0)) (sparseref13_Find_ok h3 a5 a6 a7 b) ?_
  rintro _ w ⟨r7, r8, r9, s0, rfl, b⟩
  refine ⟨_, rfl, ?_⟩
  refine bE c fun I h5 c => ?_
  replace b := b.k14
  refine yC (yCall FN_25 (a1 e0)) (sparseref13_Reach_ok h5 a5 a6 a7 b) ?_
  rintro _ w ⟨G, j, rfl, b⟩
  refine ⟨_, rfl, ?_⟩
  refine Ym (.tuple #[G.v, j.v]) e0 (yY (x_ G.v e0) (yY (x_ j.v e0) (Ya G.v e0 (Ya j.v e0 (wK h2 (sR fun _ h7 => yY (lbs_ [iV D.1, iV D.2.1, X.v, Z.v, a0.v] ST_25 e0 b R6) (bE c fun s1 h9 c => ?_)))))))
  replace b := (((((b.k22).fz).k22).fz).k22).fz
  refine yC (yCall FN_26 (a1 e0)) (sparseref13_Find_ok h9 F2 F1 F0 b) ?_
  rintro _ w ⟨s2, s3, s4, s5, rfl, b⟩
  refine ⟨_, rfl, ?_⟩
  refine bE c fun J i0 c => ?_
  replace b := b.k14
  refine yC (yCall FN_25 (a1 e0)) (sparseref13_Reach_ok i0 F2 F1 F0 b) ?_
  rintro _ w ⟨k, H, rfl, b⟩
  refine ⟨_, rfl, ?_⟩
  refine Ym (.tuple #[k.v, H.v]) e0 (yY (x_ k.v e0) (yY (x_ H.v e0) (Ya k.v e0 (Ya H.v e0 (wK h7 (sR fun _ i1 => Ym G.v e0 (bE c fun K i2 c => ?_)))))))
  replace b := (b.k35).fz
  refine yC (yCall FN_27 (a2 e0 rfl)) (sparseref13_Chosen_ok i2 F0 b) ?_
  rintro _ w ⟨d, rfl, b⟩
  refine ⟨_, rfl, ?_⟩
  refine Ym j.v e0 (bE c fun L i3 c => ?_)
  replace b := (b.k36).fz
  refine yC (yCall FN_27 (a2 e0 rfl)) (sparseref13_Chosen_ok i3 F0 b) ?_
  rintro _ w ⟨g, rfl, b⟩
  refine ⟨_, rfl, ?_⟩
  refine Ym H.v e0 (bE c fun N i4 c => ?_)
  replace b := (b.k22).fz
  refine yC (yCall FN_27 (a2 e0 rfl)) (sparseref13_Chosen_ok i4 F0 b) ?_
  rintro _ w ⟨h, rfl, b⟩
  refine ⟨_, rfl, ?_⟩
  refine Ym k.v e0 (bE c fun O i5 c => ?_)
  replace b := (b.k22).fz
  refine yC (yCall FN_27 (a2 e0 rfl)) (sparseref13_Chosen_ok i5 F0 b) ?_
  rintro _ w ⟨i, rfl, b⟩
  refine ⟨_, rfl, ?_⟩
  refine yY (ybuild (us := [d.v, g.v, hnil.v, hnil.v, h.v, i.v]) [(0, d.v), (1, g.v), (4, h.v), (5, i.v)] SO_32 (bp4 e0 e0 e0 e0) rfl) (yBb (rAl b ZT_32) fun o w b => yT (r_stbn (vals' := [d.v, g.v, hnil.v, hnil.v, h.v, i.v]) (us := [d.v, g.v, hnil.v, hnil.v, h.v, i.v]) b ST_32 e0 e0 rfl rfl (one_of rfl) rfl) fun w b => wK i1 (sQ fun _ i6 => sR fun _ i7 => Ya (iV 0) rfl (wK i7 (blockQ fun i8 i9 => ?_))))
  refine bE c fun j0 j1 c => ?_
  have j2 : ∀ (R : LI) (p : Hdr) (f : FV) w, f 1 = (pB z) → f 2 = (pB m) → f 8 = j.v → f 9 = k.v → f 11 = (pB o) → St w0 (imm rB j.v I.2 :: imm rB k.v J.1 :: ros) (box z 25 [iV x, iV y, A.v, B.v, C.v] :: box m 32 [hnil.v, hnil.v, hnil.v, hnil.v, hnil.v, hnil.v] :: row 3 I1 d.v K :: row 3 I1 g.v L :: row 3 I1 p.v R :: row 3 I1 h.v N :: row 3 I1 i.v O :: box o 32 [d.v, g.v, p.v, hnil.v, h.v, i.v] :: rs) w → R = j0 → i8 (.exit 0) (fr 95 f) w := by
   intro R p f w j3 j4 j5 j6 j7 b ho
   subst ho
   refine i9 _ _ _ (i6 _ _ (sQ fun _ j8 => sR fun _ j9 => Ya (iV 0) rfl (wK j9 (blockQ fun k0 l0 => bE c fun l1 l2 c => ?_))))
   have l3 : ∀ (b5 : LI) (U : Hdr) (f : FV) w, f 2 = (pB m) → f 11 = (pB o) → St w0 ros (box m 32 [hnil.v, hnil.v, hnil.v, hnil.v, hnil.v, hnil.v] :: row 3 I1 d.v K :: row 3 I1 g.v L :: row 3 I1 p.v R :: row 3 I1 U.v b5 :: row 3 I1 h.v N :: row 3 I1 i.v O :: box o 32 [d.v, g.v, p.v, U.v, h.v, i.v] :: rs) w → b5 = l1 → k0 (.exit 2) (fr 95 f) w := by
    intro b5 U f w e5 l4 b ho
    subst ho
    refine l0 _ _ _ (j8 _ _ (sR fun _ l5 => yY (lbs_ [d.v, g.v, p.v, U.v, h.v, i.v] ST_32 (eh l4) b R7) (yT (r_stbn (vals' := [d.v, g.v, p.v, U.v, h.v, i.v]) (us := [d.v, g.v, p.v, U.v, h.v, i.v]) b ST_32 (eh e5) e0 rfl rfl (one_of rfl) rfl) fun w b => Ya (iV 0) rfl (wK l5 (wp_ret ?_)))))
    cases c
    exact e4 _ _ _ (fin2r Tryz.results8 (rcs2 rfl e5 b R0 ST_32 rfl) ⟨rfl, rfl⟩ ⟨_, _, _, _, _, _, rfl, (b.k37)⟩)
   replace b := b.rowNh 3 I1
   refine loopQ (fun s a w => ∃ (a9 : LI) (q : Int) (f : FV) (V : Hdr), (a9, q) = s ∧ a = fr 95 f ∧ f 1 = (pB z) ∧ f 2 = (pB m) ∧ f 8 = j.v ∧ f 9 = k.v ∧ f 11 = (pB o) ∧ f 13 = iV q ∧ St w0 (imm rB j.v I.2 :: imm rB k.v J.1 :: ros) (box z 25 [iV x, iV y, A.v, B.v, C.v] :: box m 32 [hnil.v, hnil.v, hnil.v, hnil.v, hnil.v, hnil.v] :: row 3 I1 d.v K :: row 3 I1 g.v L :: row 3 I1 p.v R :: row 3 I1 V.v a9 :: row 3 I1 h.v N :: row 3 I1 i.v O :: box o 32 [d.v, g.v, p.v, V.v, h.v, i.v] :: rs) w) l2 ⟨_, _, _, _, rfl, rfl, j3, j4, j5, j6, j7, rfl, (b.k38)⟩ ?_
   rintro _ _ w l6 ⟨a9, q, f, V, rfl, rfl, b6, b7, b8, c0, c1, a3, b⟩ r l7 s6 l8 l9
   refine seqQ fun s7 m0 m1 => sR fun _ m2 => Ym (iV q) (eh a3) (yY (yFb FL_25_1 (eh b6)) (yY (lb_ (iV y) O_3 e0 b R0) (yY (ylss e0 e0) (wK m2 ?_))))
   refine cIf e0 r (fun m3 r => ?_) fun m3 r => ?_
   ·refine wp_skip (m0 _ _ (sQ fun _ m4 => blockQ fun m5 m6 => sR fun _ m7 => Ym j.v (eh b8) (Ym (iV q) (eh a3) (bE r fun m8 e6 r => yY (yIa SL_50 e0 e0 b (rdI F0) e6) (yY (yB O_4 e0 b (rdI F0) e6) (yY (ynot e0) (Ym (.bool (!m8)) e0 (bE r fun m9 S r => ?_))))))))
    refine joinW 6 (fun f w => f 1 = (pB z) ∧ f 2 = (pB m) ∧ f 8 = j.v ∧ f 9 = k.v ∧ f 11 = (pB o) ∧ f 13 = iV q ∧ f 87 = .bool m9 ∧ St w0 (imm rB j.v I.2 :: imm rB k.v J.1 :: ros) (box z 25 [iV x, iV y, A.v, B.v, C.v] :: box m 32 [hnil.v, hnil.v, hnil.v, hnil.v, hnil.v, hnil.v] :: row 3 I1 d.v K :: row 3 I1 g.v L :: row 3 I1 p.v R :: row 3 I1 V.v a9 :: row 3 I1 h.v N :: row 3 I1 i.v O :: box o 32 [d.v, g.v, p.v, V.v, h.v, i.v] :: rs) w) (fun e7 => ?_) ?_
    ·rcases iteS S with ⟨E, S⟩ | ⟨E, S⟩
     ·refine gN (nF E) (gN (nF E) (gN (nF E) (gN (nF E) (gN (nF E) (yY (pf_ (.bool false) e0 (nF E) rfl) ?_)))))
      cases S
      exact e7 _ _ ⟨b6, b7, b8, c0, c1, a3, rfl, b⟩
     ·refine yG (nT (bfalse E)) (m_ k.v (eh c0)) (yG (nT (bfalse E)) (m_ (iV q) (eh a3)) (bE S fun n0 e8 S => yG (nT (bfalse E)) (yIa SL_50 e0 e0 b (rdI F1) e8) (yG (nT (bfalse E)) (yB O_4 e0 b (rdI F1) e8) (yG (nT (bfalse E)) (ynot e0) (yY (pt_ (.bool (!n0)) e0 (nT (bfalse E)) e0) ?_)))))
      cases S
      exact e7 _ _ ⟨b6, b7, b8, c0, c1, a3, rfl, b⟩
    rintro f w ⟨e9, f0, f1, f2, b0, c2, n1, b⟩
    refine wK m7 ?_
    have f3 : ∀ (c3 : LI) (c4 : Hdr) (f : FV) w, f 1 = (pB z) → f 2 = (pB m) → f 8 = j.v → f 9 = k.v → f 11 = (pB o) → f 13 = iV q → St w0 (imm rB j.v I.2 :: imm rB k.v J.1 :: ros) (box z 25 [iV x, iV y, A.v, B.v, C.v] :: box m 32 [hnil.v, hnil.v, hnil.v, hnil.v, hnil.v, hnil.v] :: row 3 I1 d.v K :: row 3 I1 g.v L :: row 3 I1 p.v R :: row 3 I1 c4.v c3 :: row 3 I1 h.v N :: row 3 I1 i.v O :: box o 32 [d.v, g.v, p.v, c4.v, h.v, i.v] :: rs) w → sparseref15_Coarse_j12 q c3 = some l6 → m5 .normal (fr 95 f) w := by
     intro c3 c4 f w n2 n3 n4 n6 n7 n8 b c
     refine m6 _ _ _ (m4 _ _ (wR (Ym (iV q) (eh n8) (yY (yadd e0 rfl) (Ya (iV (wa .i64 q 1)) e0 (wN ?_))))))
     cases c
     exact l8 _ _ _ rfl ⟨_, _, _, _, rfl, rfl, n2, n3, n4, n6, n7, rfl, b⟩
    refine cB (eh n1) r (fun n9 r => ?_) fun n9 r => ?_
    ·exact wR (yY (yFb FL_32_3 (eh b0)) (yY (lb_ V.v O_22 e0 b R8) (Ym (iV q) (eh c2) (yH (rLt (n := 1) (l := [q]) b SL_22 [iV q] (bp1 e0) rfl rfl (mks1 (cs := [iV q]) rfl mkI mks0)) fun s8 w b => bE r fun s9 o0 r => yH (rAp (b.k1a) SL_22 e0 e0 rO1 o0) fun o1 w b => yY (yFb FL_32_3 (eh b0)) (yT (r_stb1 (vals' := [d.v, g.v, p.v, o1.v, h.v, i.v]) (b.k39) O_22 e0 e0 rfl rfl rfl rfl) fun w b => wN (f3 _ _ _ _ e9 f0 f1 f2 b0 c2 (b.k3a) r))))))
    ·exact wp_skip (f3 _ _ _ _ e9 f0 f1 f2 b0 c2 b r)
   ·refine wp_exit (m1 _ _ _ rfl ?_)
    cases r
    exact l9 _ _ _ _ rfl rfl (l3 _ _ _ _ b7 c1 ((b.k3b).facts (allT (allT allI))) (l7 _ rfl))
  replace b := b.rowNh 3 I1
  refine loopQ (fun s a w => ∃ (b1 : LI) (t : Int) (f : FV) (W : Hdr), (b1, t) = s ∧ a = fr 95 f ∧ f 1 = (pB z) ∧ f 2 = (pB m) ∧ f 7 = G.v ∧ f 8 = j.v ∧ f 9 = k.v ∧ f 10 = H.v ∧ f 11 = (pB o) ∧ f 12 = iV t ∧ St w0 (imm rB G.v I.1 :: imm rB j.v I.2 :: imm rB k.v J.1 :: imm rB H.v J.2 :: ros) (box z 25 [iV x, iV y, A.v, B.v, C.v] :: box m 32 [hnil.v, hnil.v, hnil.v, hnil.v, hnil.v, hnil.v] :: row 3 I1 d.v K :: row 3 I1 g.v L :: row 3 I1 W.v b1 :: row 3 I1 h.v N :: row 3 I1 i.v O :: box o 32 [d.v, g.v, W.v, hnil.v, h.v, i.v] :: rs) w) j1 ⟨_, _, _, _, rfl, rfl, rfl, rfl, rfl, rfl, rfl, rfl, rfl, rfl, ((b.k3c).facts (allC F3 (allC F2 (allC F0 (allC F1 (allT (allT (allT (allT (allT (allT (allT allI))))))))))))⟩ ?_
  rintro _ _ w o2 ⟨b1, t, f, W, rfl, rfl, b2, c5, c6, c7, c8, c9, d0, a4, b⟩ u o3 t0 o4 o6
  refine seqQ fun t1 o7 o8 => sR fun _ o9 => Ym (iV t) (eh a4) (yY (yFb FL_25_0 (eh b2)) (yY (lb_ (iV x) O_3 e0 b R0) (yY (ylss e0 e0) (wK o9 ?_))))
  refine cIf e0 u (fun p0 u => ?_) fun p0 u => ?_
  ·refine wp_skip (o7 _ _ (sQ fun _ p1 => blockQ fun p2 p3 => sR fun _ p4 => Ym G.v (eh c6) (Ym (iV t) (eh a4) (bE u fun p5 f4 u => yY (yIa SL_50 e0 e0 b (rdI F0) f4) (yY (yB O_4 e0 b (rdI F0) f4) (yY (ynot e0) (Ym (.bool (!p5)) e0 (bE u fun p6 T u => ?_))))))))
   refine joinW 6 (fun f w => f 1 = (pB z) ∧ f 2 = (pB m) ∧ f 7 = G.v ∧ f 8 = j.v ∧ f 9 = k.v ∧ f 10 = H.v ∧ f 11 = (pB o) ∧ f 12 = iV t ∧ f 63 = .bool p6 ∧ St w0 (imm rB G.v I.1 :: imm rB j.v I.2 :: imm rB k.v J.1 :: imm rB H.v J.2 :: ros) (box z 25 [iV x, iV y, A.v, B.v, C.v] :: box m 32 [hnil.v, hnil.v, hnil.v, hnil.v, hnil.v, hnil.v] :: row 3 I1 d.v K :: row 3 I1 g.v L :: row 3 I1 W.v b1 :: row 3 I1 h.v N :: row 3 I1 i.v O :: box o 32 [d.v, g.v, W.v, hnil.v, h.v, i.v] :: rs) w) (fun f5 => ?_) ?_
   ·rcases iteS T with ⟨F, T⟩ | ⟨F, T⟩
    ·refine gN (nF F) (gN (nF F) (gN (nF F) (gN (nF F) (gN (nF F) (yY (pf_ (.bool false) e0 (nF F) rfl) ?_)))))
     cases T
     exact f5 _ _ ⟨b2, c5, c6, c7, c8, c9, d0, a4, rfl, b⟩
    ·refine yG (nT (bfalse F)) (m_ H.v (eh c9)) (yG (nT (bfalse F)) (m_ (iV t) (eh a4)) (bE T fun p7 f6 T => yG (nT (bfalse F)) (yIa SL_50 e0 e0 b (rdI F3) f6) (yG (nT (bfalse F)) (yB O_4 e0 b (rdI F3) f6) (yG (nT (bfalse F)) (ynot e0) (yY (pt_ (.bool (!p7)) e0 (nT (bfalse F)) e0) ?_)))))
     cases T
     exact f5 _ _ ⟨b2, c5, c6, c7, c8, c9, d0, a4, rfl, b⟩
   rintro f w ⟨f7, f8, f9, g0, g1, g2, b3, d1, p8, b⟩
   refine wK p4 ?_
   have g3 : ∀ (d2 : LI) (d3 : Hdr) (f : FV) w, f 1 = (pB z) → f 2 = (pB m) → f 7 = G.v → f 8 = j.v → f 9 = k.v → f 10 = H.v → f 11 = (pB o) → f 12 = iV t → St w0 (imm rB G.v I.1 :: imm rB j.v I.2 :: imm rB k.v J.1 :: imm rB H.v J.2 :: ros) (box z 25 [iV x, iV y, A.v, B.v, C.v] :: box m 32 [hnil.v, hnil.v, hnil.v, hnil.v, hnil.v, hnil.v] :: row 3 I1 d.v K :: row 3 I1 g.v L :: row 3 I1 d3.v d2 :: row 3 I1 h.v N :: row 3 I1 i.v O :: box o 32 [d.v, g.v, d3.v, hnil.v, h.v, i.v] :: rs) w → sparseref15_Coarse_j14 t d2 = some o2 → p2 .normal (fr 95 f) w := by
    intro d2 d3 f w p9 q0 q4 q5 q6 q7 q8 q9 b c
    refine p3 _ _ _ (p1 _ _ (wR (Ym (iV t) (eh q9) (yY (yadd e0 rfl) (Ya (iV (wa .i64 t 1)) e0 (wN ?_))))))
    cases c
    exact o4 _ _ _ rfl ⟨_, _, _, _, rfl, rfl, p9, q0, q4, q5, q6, q7, q8, rfl, b⟩
   refine cB (eh p8) u (fun r0 u => ?_) fun r0 u => ?_
   ·exact wR (yY (yFb FL_32_2 (eh b3)) (yY (lb_ W.v O_22 e0 b R7) (Ym (iV t) (eh d1) (yH (rLt (n := 1) (l := [t]) b SL_22 [iV t] (bp1 e0) rfl rfl (mks1 (cs := [iV t]) rfl mkI mks0)) fun t2 w b => bE u fun t3 r1 u => yH (rAp (b.k1k) SL_22 e0 e0 rO1 r1) fun r2 w b => yY (yFb FL_32_2 (eh b3)) (yT (r_stb1 (vals' := [d.v, g.v, r2.v, hnil.v, h.v, i.v]) (b.k2b) O_22 e0 e0 rfl rfl rfl rfl) fun w b => wN (g3 _ _ _ _ f7 f8 f9 g0 g1 g2 b3 d1 (b.k3d) u))))))
   ·exact wp_skip (g3 _ _ _ _ f7 f8 f9 g0 g1 g2 b3 d1 b u)
  ·refine wp_exit (o8 _ _ _ rfl ?_)
   cases u
   exact o6 _ _ _ _ rfl rfl (j2 _ _ _ _ b2 c5 c7 c8 d0 (b.facts (allC F1 (allC F2 (allT (allT (allT (allT allI))))))) (o3 _ rfl))
 ·refine condT e0 (nT (dF b4)) (sR fun _ r3 => yY (ybuild (us := [hnil.v, hnil.v, hnil.v, hnil.v, hnil.v, hnil.v]) [] SO_32 bp0 rfl) (Ym (iV a8) e0 (yT (r_stbn (vals' := [hnil.v, hnil.v, hnil.v, hnil.v, hnil.v, hnil.v]) (us := [hnil.v, hnil.v, hnil.v, hnil.v, hnil.v, hnil.v]) b ST_32 e0 e0 rfl rfl (one_of rfl) rfl) fun w b => Ya (iV a8) e0 (wK r3 (wp_ret (g6 _ _ _ rfl ?_))))))
  cases c
  replace b := (((((b.rowNh 3 I1).rowNh 3 I1).rowNh 3 I1).rowNh 3 I1).rowNh 3 I1).rowNh 3 I1
  exact e4 _ _ _ (fin2r Tryz.results8 (rcs2 rfl rfl b R6 ST_32 rfl) ⟨rfl, rfl⟩ ⟨_, _, _, _, _, _, rfl, (b.k3e)⟩)
theorem sparseref15_Perfect_ok {i j : Int} {p q r : LI} {k l m : Hdr} {out : LI × Bool} (h : sparseref15_Perfect i j p q r = some out) (F : imm I1 k.v p ∈ ros) (G : imm I1 l.v q ∈ ros) (H : imm (rI .u64) m.v r ∈ ros) (b : St w0 ros rs w) :
  Calls Tryz.prog 35 #[.agg #[iV i, iV j, k.v, l.v, m.v]] w (fun e w => ∃ (t : Hdr), e = .returned (.tuple #[t.v, .bool out.2]) ∧ St w0 ros (row 3 I1 t.v out.1 :: rs) w) := by
 refine enterQ Tryz.func35 rfl Tryz.ntmps35 rfl fun Q u => sR fun _ I => yBb (r_box (vals := [iV i, iV j, k.v, l.v, m.v]) b e0 rfl) fun b0 w b => Ya hnil.v rfl (Ya (.bool false) rfl (wK I (sR fun _ J => yY (lbs_ [iV i, iV j, k.v, l.v, m.v] ST_25 e0 b R0) (bE h fun x K h => yC (yCall FN_26 (a1 e0)) (sparseref13_Find_ok K F G H b) ?_))))
 rintro _ w ⟨b1, b2, d, b3, rfl, b⟩
 refine ⟨_, rfl, ?_⟩
 refine yY (yn e0) (yY (yFb FL_87_2 e0) (yY (lb_ d.v O_22 e0 b R3) (Ya d.v e0 (wK J (seqQ fun b4 L N => sR fun _ O => Ya (iV 0) rfl (wK O (blockQ fun y z => bE h fun A R h => ?_)))))))
 have S : ∀ (f : FV) w, f 4 = d.v → St w0 ros (row 3 I1 d.v x.2.1 :: rs) w → .inl () = A → y (.exit 0) (fr 23 f) w := by
  intro f w T b ho
  subst ho
  refine z _ _ _ (L _ _ (sR fun _ U => Ym d.v (eh T) (Ya d.v e0 (Ya (.bool true) rfl (wK U (wp_ret ?_))))))
  cases h
  exact u _ _ _ (fin2r Tryz.results35 ⟨rfl, rfl⟩ ⟨rfl, rfl⟩ ⟨_, rfl, b⟩)
 have V : ∀ (f : FV) w, f 2 = hnil.v → f 3 = .bool false → St w0 ros rs w → .inr () = A → y .ret (fr 23 f) w := by
  intro f w W X b ho
  subst ho
  refine z _ _ _ (N _ _ _ rfl ?_)
  cases h
  replace b := b.rowNh 3 I1
  exact u _ _ _ (fin2r Tryz.results35 ⟨rfl, W⟩ ⟨rfl, X⟩ ⟨_, rfl, b⟩)
 refine loopQ (fun s a w => ∃ (g : Int) (f : FV), g = s ∧ a = fr 23 f ∧ f 4 = d.v ∧ f 5 = iV g ∧ St w0 ros (row 3 I1 d.v x.2.1 :: rs) w) R ⟨_, _, rfl, rfl, rfl, rfl, (b.k3f)⟩ ?_
 rintro _ _ w b5 ⟨g, f, rfl, rfl, n, o, b⟩ c B b6 Z C
 refine seqQ fun b7 a0 a2 => sR fun _ a3 => Ym (iV g) (eh o) (Ym d.v (eh n) (yY (yLen SL_22 e0 b rO0) (yY (ylss e0 e0) (wK a3 ?_))))
 refine cIf e0 c (fun a4 c => ?_) fun a4 c => ?_
 ·refine wp_skip (a0 _ _ (seqQ fun b8 a5 a6 => blockQ fun _ D => sR fun _ a7 => Ym d.v (eh n) (Ym (iV g) (eh o) (bE c fun c0 E c => yY (yIa SL_22 e0 e0 b rO0 E) (yY (yI O_3 e0 b rO0 E) (yY (ylss e0 rfl) (wK a7 ?_)))))))
  refine cIf e0 c (fun a8 c => ?_) fun a8 c => ?_
  ·refine sR fun _ a9 => Ya hnil.v rfl (Ya (.bool false) rfl (wK a9 (wp_ret (D _ _ _ (a6 _ _ _ rfl ?_)))))
   cases c
   exact C _ _ _ _ rfl rfl (V _ _ rfl rfl (b.k10) (B _ rfl))
  ·refine wp_skip (D _ _ _ (a5 _ _ (wR (Ym (iV g) (eh o) (yY (yadd e0 rfl) (Ya (iV (wa .i64 g 1)) e0 (wN ?_)))))))
   cases c
   exact Z _ _ _ rfl ⟨_, _, rfl, rfl, n, rfl, b⟩
 ·refine wp_exit (a2 _ _ _ rfl ?_)
  cases c
  exact C _ _ _ _ rfl rfl (S _ _ n b (B _ rfl))
theorem sparseref09_Stored_ok {g k : Int} {C D E : LI} {c d : Int} {m o q : Hdr} {out : Bool} (l : sparseref09_Stored g k C D E c d = some out) (t : imm I1 m.v C ∈ ros) (F : imm I1 o.v D ∈ ros) (d2 : imm (rI .u64) q.v E ∈ ros) (b : St w0 ros rs w) :
  Calls Tryz.prog 58 #[.agg #[iV g, iV k, m.v, o.v, q.v], iV c, iV d] w (fun e w => e = .returned (.bool out) ∧ St w0 ros rs w) := by
 refine enterQ Tryz.func58 rfl Tryz.ntmps58 rfl fun Q u => sR fun _ a3 => yBb (r_box (vals := [iV g, iV k, m.v, o.v, q.v]) b e0 rfl) fun p w b => Ya (.bool false) rfl (wK a3 (seqQ fun d3 a4 a5 => sR fun _ a6 => Ym (iV c) e0 (yY (ylss e0 rfl) (Ym (.bool (decide (c < 0))) e0 ?_))))
 refine joinW 5 (fun f w => f 1 = iV c ∧ f 2 = iV d ∧ f 3 = (pB p) ∧ f 15 = .bool ((decide (c < 0)) || (decide (g ≤ c))) ∧ St w0 ros (box p 25 [iV g, iV k, m.v, o.v, q.v] :: rs) w) (fun G => ?_) ?_
 ·rcases Bool.eq_false_or_eq_true (decide (c < 0)) with h | h
  ·exact gN h (gN h (gN h (gN h (yY (pt_ (.bool true) e0 h rfl) (G _ _ ⟨rfl, rfl, rfl, (congrArg Value.bool (orT h)), b⟩)))))
  ·exact yG h (m_ (iV c) e0) (yG h (yFb FL_25_0 e0) (yG h (lb_ (iV g) O_3 e0 b R0) (yG h (ygeq e0 e0) (yY (pf_ (.bool (decide (g ≤ c))) e0 h e0) (G _ _ ⟨rfl, rfl, rfl, (congrArg Value.bool (orF h)), b⟩)))))
 rintro f w ⟨H, x, I, a7, b⟩
 refine Ym (.bool ((decide (c < 0)) || (decide (g ≤ c)))) (eh a7) ?_
 refine joinW 3 (fun f w => f 1 = iV c ∧ f 2 = iV d ∧ f 3 = (pB p) ∧ f 19 = .bool (((decide (c < 0)) || (decide (g ≤ c))) || (decide (d < 0))) ∧ St w0 ros (box p 25 [iV g, iV k, m.v, o.v, q.v] :: rs) w) (fun J => ?_) ?_
 ·rcases Bool.eq_false_or_eq_true ((decide (c < 0)) || (decide (g ≤ c))) with n | n
  ·exact gN n (gN n (yY (pt_ (.bool true) e0 n rfl) (J _ _ ⟨H, x, I, (congrArg Value.bool (orT n)), b⟩)))
  ·exact yG n (m_ (iV d) (eh x)) (yG n (ylss e0 rfl) (yY (pf_ (.bool (decide (d < 0))) e0 n e0) (J _ _ ⟨H, x, I, (congrArg Value.bool (orF n)), b⟩)))
 rintro f w ⟨K, y, z, a8, b⟩
 refine Ym (.bool (((decide (c < 0)) || (decide (g ≤ c))) || (decide (d < 0)))) (eh a8) ?_
 refine joinW 5 (fun f w => f 1 = iV c ∧ f 2 = iV d ∧ f 3 = (pB p) ∧ f 25 = .bool ((((decide (c < 0)) || (decide (g ≤ c))) || (decide (d < 0))) || (decide (k ≤ d))) ∧ St w0 ros (box p 25 [iV g, iV k, m.v, o.v, q.v] :: rs) w) (fun L => ?_) ?_
 ·rcases Bool.eq_false_or_eq_true (((decide (c < 0)) || (decide (g ≤ c))) || (decide (d < 0))) with i | i
  ·exact gN i (gN i (gN i (gN i (yY (pt_ (.bool true) e0 i rfl) (L _ _ ⟨K, y, z, (congrArg Value.bool (orT i)), b⟩)))))
  ·exact yG i (m_ (iV d) (eh y)) (yG i (yFb FL_25_1 (eh z)) (yG i (lb_ (iV k) O_3 e0 b R0) (yG i (ygeq e0 e0) (yY (pf_ (.bool (decide (k ≤ d))) e0 i e0) (L _ _ ⟨K, y, z, (congrArg Value.bool (orF i)), b⟩)))))
 rintro f w ⟨a9, N, O, b0, b⟩
 refine wK a6 (cB (eh b0) l (fun b1 l => ?_) fun b1 l => ?_)
 ·refine sR fun _ b2 => Ya (.bool false) rfl (wK b2 (wp_ret (a5 _ _ _ rfl ?_)))
  cases l
  exact u _ _ _ (fin1r Tryz.results58 ⟨rfl, rfl⟩ ⟨rfl, (b.k10)⟩)
 ·refine wp_skip (a4 _ _ (seqQ fun d4 b3 b4 => sR fun _ b5 => yY (yFb FL_25_2 (eh O)) (yY (lb_ m.v O_22 e0 b R0) (Ym (iV d) (eh N) (bE l fun b6 R l => yY (yIa SL_22 e0 e0 b (rdI t) R) (yY (yI O_3 e0 b (rdI t) R) (Ya (iV b6) e0 (wK b5 ?_))))))))
  refine blockQ fun S T => bE l fun U b7 l => ?_
  have b8 : ∀ (f : FV) w, St w0 ros rs w → .inl () = U → S (.exit 0) (fr 48 f) w := by
   intro f w b ho
   subst ho
   refine T _ _ _ (b3 _ _ (sR fun _ b9 => Ya (.bool false) rfl (wK b9 (wp_ret ?_))))
   cases l
   exact u _ _ _ (fin1r Tryz.results58 ⟨rfl, rfl⟩ ⟨rfl, b⟩)
  have c0 : ∀ (f : FV) w, f 6 = .bool true → St w0 ros rs w → .inr () = U → S .ret (fr 48 f) w := by
   intro f w c1 b ho
   subst ho
   refine T _ _ _ (b4 _ _ _ rfl ?_)
   cases l
   exact u _ _ _ (fin1r Tryz.results58 ⟨rfl, c1⟩ ⟨rfl, b⟩)
  refine loopQ (fun s a w => ∃ (r : Int) (f : FV), r = s ∧ a = fr 48 f ∧ f 1 = iV c ∧ f 2 = iV d ∧ f 3 = (pB p) ∧ f 7 = iV r ∧ St w0 ros (box p 25 [iV g, iV k, m.v, o.v, q.v] :: rs) w) b7 ⟨_, _, rfl, rfl, a9, N, O, rfl, b⟩ ?_
  rintro _ _ w d5 ⟨r, f, rfl, rfl, V, W, A, B, b⟩ j X d6 c2 Z
  refine seqQ fun d7 c3 c4 => sR fun _ c5 => Ym (iV r) (eh B) (yY (yFb FL_25_2 (eh A)) (yY (lb_ m.v O_22 e0 b R0) (Ym (iV d) (eh W) (yY (yadd e0 rfl) (bE j fun d8 a0 j => yY (yIa SL_22 e0 e0 b (rdI t) a0) (yY (yI O_3 e0 b (rdI t) a0) (yY (ylss e0 e0) (wK c5 ?_))))))))
  refine cIf e0 j (fun c6 j => ?_) fun c6 j => ?_
  ·refine wp_skip (c3 _ _ (seqQ fun d9 c7 c8 => blockQ fun _ a1 => sR fun _ c9 => yY (yFb FL_25_3 (eh A)) (yY (lb_ o.v O_22 e0 b R0) (Ym (iV r) (eh B) (bE j fun e1 a2 j => yY (yIa SL_22 e0 e0 b (rdI F) a2) (yY (yI O_3 e0 b (rdI F) a2) (Ym (iV c) (eh V) (yY (yeql e0 e0) ?_))))))))
   refine wK c9 ?_
   refine cIf e0 j (fun d0 j => ?_) fun d0 j => ?_
   ·refine sR fun _ d1 => Ya (.bool true) rfl (wK d1 (wp_ret (a1 _ _ _ (c8 _ _ _ rfl ?_))))
    cases j
    exact Z _ _ _ _ rfl rfl (c0 _ _ rfl (b.k10) (X _ rfl))
   ·refine wp_skip (a1 _ _ _ (c7 _ _ (wR (Ym (iV r) (eh B) (yY (yadd e0 rfl) (Ya (iV (wa .i64 r 1)) e0 (wN ?_)))))))
    cases j
    exact c2 _ _ _ rfl ⟨_, _, rfl, rfl, V, W, A, rfl, b⟩
  ·refine wp_exit (c4 _ _ _ rfl ?_)
   cases j
   exact Z _ _ _ _ rfl rfl (b8 _ _ (b.k10) (X _ rfl))
theorem sparseref15_Arcs_ok {N g : Int} {d2 d3 d4 d5 : LI} {O R S U : Hdr} {out : (List (List Bool))} (a7 : sparseref15_Arcs N g d2 d3 d4 d5 = some out) (f7 : imm I1 O.v d2 ∈ ros) (f8 : imm I1 R.v d3 ∈ ros) (f9 : imm (rI .u64) S.v d4 ∈ ros) (d6 : imm I1 U.v d5 ∈ ros) (b : St w0 ros rs w) :
  Calls Tryz.prog 36 #[.agg #[iV N, iV g, O.v, R.v, S.v], U.v] w (fun e w => ∃ (d7 : Hdr) (d8 : List Hdr), e = .returned (d7.v) ∧ St w0 ros (row 50 rH d7.v d8 :: fam 4 rB d8 out :: rs) w) := by
 refine enterQ Tryz.func36 rfl Tryz.ntmps36 rfl fun Q g0 => sR fun _ g1 => yBb (r_box (vals := [iV N, iV g, O.v, R.v, S.v]) b e0 rfl) fun T w b => Ya hnil.v rfl (wK g1 (sR fun _ g2 => yY (yFb FL_25_1 e0) (yY (lb_ (iV g) O_3 e0 b R0) (Ya (iV g) e0 (wN ?_)))))
 refine g2 _ _ (sR fun _ g3 => Ya hnil.v rfl (wK g3 (sQ fun _ g4 => sR fun _ g5 => Ya (iV 0) rfl (wK g5 (blockQ fun g6 g7 => bE a7 fun g8 g9 a7 => ?_)))))
 have h0 : ∀ (b8 : List (List Bool)) (d : Hdr) (h : List Hdr) (f : FV) w, f 5 = iV g → f 6 = d.v → St w0 ros (row 50 rH d.v h :: fam 4 rB h b8 :: rs) w → b8 = g8 → g6 (.exit 0) (fr 93 f) w := by
  intro b8 d h f w h1 h2 b ho
  subst ho
  refine g7 _ _ _ (g4 _ _ (sQ fun _ h3 => sR fun _ h5 => Ya (iV 0) rfl (wK h5 (blockQ fun h7 h9 => bE a7 fun i0 i1 a7 => ?_))))
  have i2 : ∀ (b9 : List (List Bool)) (f : FV) w, f 6 = d.v → St w0 ros (row 50 rH d.v h :: fam 4 rB h b9 :: rs) w → b9 = i0 → h7 (.exit 4) (fr 93 f) w := by
   intro b9 f w i3 b ho
   subst ho
   refine h9 _ _ _ (h3 _ _ (sR fun _ i4 => Ym d.v (eh i3) (Ya d.v e0 (wK i4 (wp_ret ?_)))))
   cases a7
   exact g0 _ _ _ (fin1r Tryz.results36 ⟨rfl, rfl⟩ ⟨_, _, rfl, b⟩)
  refine loopQ (fun s a w => ∃ (c0 : List (List Bool)) (r : Int) (f : FV), (c0, r) = s ∧ a = fr 93 f ∧ f 5 = iV g ∧ f 6 = d.v ∧ f 10 = iV r ∧ St w0 ros (row 50 rH d.v h :: fam 4 rB h c0 :: rs) w) i1 ⟨_, _, _, rfl, rfl, h1, h2, rfl, b⟩ ?_
  rintro _ _ w t8 ⟨c0, r, f, rfl, rfl, d9, e1, e2, b⟩ V i5 t9 i6 i7
  refine seqQ fun u0 i8 i9 => sR fun _ j0 => Ym (iV r) (eh e2) (Ym (iV g) (eh d9) (yY (ylss e0 e0) (wK j0 ?_)))
  refine cIf e0 V (fun j1 V => ?_) fun j1 V => ?_
  ·refine wp_skip (i8 _ _ (sQ fun _ j2 => blockQ fun _ j3 => sR fun _ j4 => Ya (iV 0) rfl (wK j4 (blockQ fun j5 j6 => bE V fun j7 j8 V => ?_))))
   have j9 : ∀ (c1 : List (List Bool)) (f : FV) w, f 5 = iV g → f 6 = d.v → f 10 = iV r → St w0 ros (row 50 rH d.v h :: fam 4 rB h c1 :: rs) w → c1 = j7 → j5 (.exit 6) (fr 93 f) w := by
    intro c1 f w k0 k6 k7 b ho
    subst ho
    refine j6 _ _ _ (j3 _ _ _ (j2 _ _ (wR (Ym (iV r) (eh k7) (yY (yadd e0 rfl) (Ya (iV (wa .i64 r 1)) e0 (wN ?_)))))))
    cases V
    exact i6 _ _ _ rfl ⟨_, _, _, rfl, rfl, k0, k6, rfl, b⟩
   refine loopQ (fun s a w => ∃ (c2 : List (List Bool)) (i : Int) (f : FV), (c2, i) = s ∧ a = fr 93 f ∧ f 5 = iV g ∧ f 6 = d.v ∧ f 10 = iV r ∧ f 11 = iV i ∧ St w0 ros (row 50 rH d.v h :: fam 4 rB h c2 :: rs) w) j8 ⟨_, _, _, rfl, rfl, d9, e1, e2, rfl, b⟩ ?_
   rintro _ _ w u1 ⟨c2, i, f, rfl, rfl, c3, e3, e4, e5, b⟩ W k8 u2 k9 l0
   refine seqQ fun u3 l1 l2 => sR fun _ l3 => Ym (iV i) (eh e5) (Ym (iV g) (eh c3) (yY (ylss e0 e0) (wK l3 ?_)))
   refine cIf e0 W (fun l4 W => ?_) fun l4 W => ?_
   ·refine wp_skip (l1 _ _ (sQ fun _ l5 => blockQ fun _ l6 => sR fun _ l7 => Ya (iV 0) rfl (wK l7 (blockQ fun l8 l9 => bE W fun m0 m1 W => ?_))))
    have m2 : ∀ (c4 : List (List Bool)) (f : FV) w, f 5 = iV g → f 6 = d.v → f 10 = iV r → f 11 = iV i → St w0 ros (row 50 rH d.v h :: fam 4 rB h c4 :: rs) w → c4 = m0 → l8 (.exit 8) (fr 93 f) w := by
     intro c4 f w m3 m4 m5 m6 b ho
     subst ho
     refine l9 _ _ _ (l6 _ _ _ (l5 _ _ (wR (Ym (iV i) (eh m6) (yY (yadd e0 rfl) (Ya (iV (wa .i64 i 1)) e0 (wN ?_)))))))
     cases W
     exact k9 _ _ _ rfl ⟨_, _, _, rfl, rfl, m3, m4, m5, rfl, b⟩
    refine loopQ (fun s a w => ∃ (c5 : List (List Bool)) (t : Int) (f : FV), (c5, t) = s ∧ a = fr 93 f ∧ f 5 = iV g ∧ f 6 = d.v ∧ f 10 = iV r ∧ f 11 = iV i ∧ f 12 = iV t ∧ St w0 ros (row 50 rH d.v h :: fam 4 rB h c5 :: rs) w) m1 ⟨_, _, _, rfl, rfl, c3, e3, e4, e5, rfl, b⟩ ?_
    rintro _ _ w u4 ⟨c5, t, f, rfl, rfl, a8, y, X, z, A, b⟩ j m7 u5 m8 m9
    refine seqQ fun u6 n0 n1 => sR fun _ n2 => Ym (iV t) (eh A) (Ym (iV g) (eh a8) (yY (ylss e0 e0) (wK n2 ?_)))
    refine cIf e0 j (fun n3 j => ?_) fun n3 j => ?_
    ·refine wp_skip (n0 _ _ (sQ fun _ n4 => blockQ fun _ n5 => bE j fun u7 F j => bE j fun u8 G j => bE j fun c6 a0 j => bE j fun a1 B j => bE j fun u9 a2 j => bE j fun n6 c7 j => ?_))
     refine joinN (n := 93) (fun f w => f 5 = iV g ∧ f 6 = d.v ∧ f 10 = iV r ∧ f 11 = iV i ∧ f 12 = iV t ∧ St w0 ros (row 50 rH d.v h :: fam 4 rB h n6 :: rs) w) (fun c8 => ?_) ?_
     ·rcases iteS B with ⟨c, B⟩ | ⟨c, B⟩
      ·have n7 := someI B
       refine dR [0, 0, 3, 7, 0, 0, 0, 96, 224, 0, 992, 2016, 4064, 8160, 8160, 32736, 65504, 8160, 262112, 524256, 1048544, 2097120, 2097120, 8388576, 16777184, 2097120, 67108832, 134217696, 268435424, 536870880, 1073741823, 2147483647] [31] 1 folM ?_
       replace b := b.drew
       refine Dn [0, 1, 2, 3, 4, 5, 6, 7, 8, 9, 10, 11, 12, 13, 14, 15, 16, 17, 18, 19, 20, 21, 22, 23, 24, 25, 26, 27, 28, 29, 30] [] [31] (yR rfl (m_ d.v (eh y)) (yR rfl (m_ (iV i) (eh z)) ?_))
       obtain ⟨e6, k⟩ := b.famI R1 F
       refine yR rfl (yIa SLH_70 e0 e0 b rO0 k) (yR rfl (yF1 O_50 e0 b rO0 k rfl) (yR rfl (m_ (iV t) (eh A)) (yR rfl (m_ d.v (eh y)) (yR rfl (m_ (iV i) (eh z)) ?_))))
       obtain ⟨e7, u⟩ := b.famI R1 G
       refine yR rfl (yIa SLH_70 e0 e0 b rO0 u) (yR rfl (yF1 O_50 e0 b rO0 u rfl) (yR rfl (m_ (iV t) (eh A)) (yR rfl (yIa SL_50 e0 e0 b (rdF R1 u G) a0) (yR rfl (yB O_4 e0 b (rdF R1 u G) a0) (yR rfl (m_ (.bool c6) e0) (Rx rfl rfl (wX c) (Rx rfl rfl (wX c) (Rx rfl rfl (wX c) (Rx rfl rfl (wX c) (Rx rfl rfl (wX c) (Rx rfl rfl (wX c) (Rx rfl rfl (wX c) (Rx rfl rfl (wX c) ?_)))))))))))))
       refine Rx rfl rfl (wxu rfl rfl rfl) (Rx rfl rfl (wxu rfl rfl rfl) (Rx rfl rfl (wxu rfl rfl rfl) (Rx rfl rfl (wxu rfl rfl rfl) (Rx rfl rfl (wxu rfl rfl rfl) (Rx rfl rfl (wxu rfl rfl rfl) (Rx rfl rfl (wxu rfl rfl rfl) (Rx rfl rfl (wX c) (yR rfl (pt_ (.bool a1) e0 c (eqv n7 rfl)) (yR rfl (yIs SL_50 e0 e0 b (rdF R1 k F) a2) (Rn QSn ?_))))))))))
       refine Lc1 rfl ?_
       replace b := b.k11
       refine LT wn (r_sti (cs := [.bool a1]) (b.foc k F) O_4 rfl e0 e0 rfl mkB a2) fun w b => ?_
       replace b := b.unfoc' k c7
       exact Dz [] [] (Rn QSn (c8 _ _ ⟨a8, y, X, z, A, (b.k11)⟩))
      ·refine bE B fun v0 a4 B => bE B fun e8 a9 B => bE B fun e9 H B => ?_
       have f0 := someI B
       rcases iteS H with ⟨m, H⟩ | ⟨m, H⟩
       ·refine bE H fun v1 c9 H => bE H fun v2 f1 H => ?_
        have n8 := someI H
        refine dR [0, 0, 3, 7, 0, 0, 0, 96, 224, 0, 992, 2016, 4064, 8160, 8160, 32736, 65504, 8160, 262112, 524256, 1048544, 2097120, 2097120, 8388576, 16777184, 2097120, 67108832, 134217696, 268435424, 536870880, 1073741823, 2147483647] [31] 1 folM ?_
        replace b := b.drew
        refine Dn [0, 1, 2, 3, 4, 5, 6, 7, 8, 9, 10, 11, 12, 13, 14, 15, 16, 17, 18, 19, 20, 21, 22, 23, 24, 25, 26, 27, 28, 29, 30] [] [31] (yR rfl (m_ d.v (eh y)) (yR rfl (m_ (iV i) (eh z)) ?_))
        obtain ⟨e6, k⟩ := b.famI R1 F
        refine yR rfl (yIa SLH_70 e0 e0 b rO0 k) (yR rfl (yF1 O_50 e0 b rO0 k rfl) (yR rfl (m_ (iV t) (eh A)) (yR rfl (m_ d.v (eh y)) (yR rfl (m_ (iV i) (eh z)) ?_))))
        obtain ⟨e7, u⟩ := b.famI R1 G
        refine yR rfl (yIa SLH_70 e0 e0 b rO0 u) (yR rfl (yF1 O_50 e0 b rO0 u rfl) (yR rfl (m_ (iV t) (eh A)) (yR rfl (yIa SL_50 e0 e0 b (rdF R1 u G) a0) (yR rfl (yB O_4 e0 b (rdF R1 u G) a0) (yR rfl (m_ (.bool c6) e0) (Ry rfl rfl (wG (bfalse c)) (m_ d.v (eh y)) (Ry rfl rfl (wG (bfalse c)) (m_ (iV i) (eh z)) ?_)))))))
        obtain ⟨n9, I⟩ := b.famI R1 a4
        refine Ry rfl rfl (wG (bfalse c)) (yIa SLH_70 e0 e0 b rO0 I) (Ry rfl rfl (wG (bfalse c)) (yF1 O_50 e0 b rO0 I rfl) (Ry rfl rfl (wG (bfalse c)) (m_ (iV r) (eh X)) (Ry rfl rfl (wG (bfalse c)) (yIa SL_50 e0 e0 b (rdF R1 I a4) a9) (Ry rfl rfl (wG (bfalse c)) (yB O_4 e0 b (rdF R1 I a4) a9) (Ry rfl rfl (wG (bfalse c)) (m_ (.bool e8) e0) (Ry rfl rfl (wG m) (m_ d.v (eh y)) (Ry rfl rfl (wG m) (m_ (iV r) (eh X)) ?_)))))))
        obtain ⟨v3, b0⟩ := b.famI R1 c9
        refine Ry rfl rfl (wG m) (yIa SLH_70 e0 e0 b rO0 b0) (Ry rfl rfl (wG m) (yF1 O_50 e0 b rO0 b0 rfl) (Ry rfl rfl (wG m) (m_ (iV t) (eh A)) (Ry rfl rfl (wG m) (yIa SL_50 e0 e0 b (rdF R1 b0 c9) f1) (Ry rfl rfl (wG m) (yB O_4 e0 b (rdF R1 b0 c9) f1) (Ry rfl rfl (wG (bfalse c)) (pt_ (.bool e9) e0 m (eqv n8 e0)) (yR rfl (pf_ (.bool a1) e0 (bfalse c) (eqv f0 e0)) (yR rfl (yIs SL_50 e0 e0 b (rdF R1 k F) a2) (Rn QSn ?_))))))))
        refine Lc1 rfl ?_
        replace b := b.k11
        refine LT wn (r_sti (cs := [.bool a1]) (b.foc k F) O_4 rfl e0 e0 rfl mkB a2) fun w b => ?_
        replace b := b.unfoc' k c7
        exact Dz [] [] (Rn QSn (c8 _ _ ⟨a8, y, X, z, A, (b.k11)⟩))
       ·have o0 := someI H
        refine dR [0, 0, 3, 7, 0, 0, 0, 96, 224, 0, 992, 2016, 4064, 8160, 8160, 32736, 65504, 8160, 262112, 524256, 1048544, 2097120, 2097120, 8388576, 16777184, 2097120, 67108832, 134217696, 268435424, 536870880, 1073741823, 2147483647] [31] 1 folM ?_
        replace b := b.drew
        refine Dn [0, 1, 2, 3, 4, 5, 6, 7, 8, 9, 10, 11, 12, 13, 14, 15, 16, 17, 18, 19, 20, 21, 22, 23, 24, 25, 26, 27, 28, 29, 30] [] [31] (yR rfl (m_ d.v (eh y)) (yR rfl (m_ (iV i) (eh z)) ?_))
        obtain ⟨e6, k⟩ := b.famI R1 F
        refine yR rfl (yIa SLH_70 e0 e0 b rO0 k) (yR rfl (yF1 O_50 e0 b rO0 k rfl) (yR rfl (m_ (iV t) (eh A)) (yR rfl (m_ d.v (eh y)) (yR rfl (m_ (iV i) (eh z)) ?_))))
        obtain ⟨e7, u⟩ := b.famI R1 G
        refine yR rfl (yIa SLH_70 e0 e0 b rO0 u) (yR rfl (yF1 O_50 e0 b rO0 u rfl) (yR rfl (m_ (iV t) (eh A)) (yR rfl (yIa SL_50 e0 e0 b (rdF R1 u G) a0) (yR rfl (yB O_4 e0 b (rdF R1 u G) a0) (yR rfl (m_ (.bool c6) e0) (Ry rfl rfl (wG (bfalse c)) (m_ d.v (eh y)) (Ry rfl rfl (wG (bfalse c)) (m_ (iV i) (eh z)) ?_)))))))
        obtain ⟨n9, I⟩ := b.famI R1 a4
        refine Ry rfl rfl (wG (bfalse c)) (yIa SLH_70 e0 e0 b rO0 I) (Ry rfl rfl (wG (bfalse c)) (yF1 O_50 e0 b rO0 I rfl) (Ry rfl rfl (wG (bfalse c)) (m_ (iV r) (eh X)) (Ry rfl rfl (wG (bfalse c)) (yIa SL_50 e0 e0 b (rdF R1 I a4) a9) (Ry rfl rfl (wG (bfalse c)) (yB O_4 e0 b (rdF R1 I a4) a9) (Ry rfl rfl (wG (bfalse c)) (m_ (.bool e8) e0) (Rx rfl rfl (wX (bfalse m)) (Rx rfl rfl (wX (bfalse m)) (Rx rfl rfl (wX (bfalse m)) (Rx rfl rfl (wX (bfalse m)) (Rx rfl rfl (wX (bfalse m)) (Rx rfl rfl (wX (bfalse m)) (Rx rfl rfl (wX (bfalse m)) (Ry rfl rfl (wG (bfalse c)) (pf_ (.bool e9) e0 (bfalse m) (eqv o0 rfl)) ?_)))))))))))))
        refine yR rfl (pf_ (.bool a1) e0 (bfalse c) (eqv f0 e0)) (yR rfl (yIs SL_50 e0 e0 b (rdF R1 k F) a2) (Rn QSn ?_))
        refine Lc1 rfl ?_
        replace b := b.k11
        refine LT wn (r_sti (cs := [.bool a1]) (b.foc k F) O_4 rfl e0 e0 rfl mkB a2) fun w b => ?_
        replace b := b.unfoc' k c7
        exact Dz [] [] (Rn QSn (c8 _ _ ⟨a8, y, X, z, A, (b.k11)⟩))
     rintro f w ⟨o1, o2, o3, o4, o5, b⟩
     refine n5 _ _ _ (n4 _ _ (wR (Ym (iV t) (eh o5) (yY (yadd e0 rfl) (Ya (iV (wa .i64 t 1)) e0 (wN ?_))))))
     cases j
     exact m8 _ _ _ rfl ⟨_, _, _, rfl, rfl, o1, o2, o3, o4, rfl, b⟩
    ·refine wp_exit (n1 _ _ _ rfl ?_)
     cases j
     exact m9 _ _ _ _ rfl rfl (m2 _ _ _ a8 y X z b (m7 _ rfl))
   ·refine wp_exit (l2 _ _ _ rfl ?_)
    cases W
    exact l0 _ _ _ _ rfl rfl (j9 _ _ _ c3 e3 e4 b (k8 _ rfl))
  ·refine wp_exit (i9 _ _ _ rfl ?_)
   cases V
   exact i7 _ _ _ _ rfl rfl (i2 _ _ _ e1 b (i5 _ rfl))
 replace b := ((b.rowNh 50 rH).fNew 4 rB).k11
 refine loopQ (fun s a w => ∃ (a5 : List (List Bool)) (x : Int) (f : FV) (D : Hdr) (J : List Hdr), (a5, x) = s ∧ a = fr 93 f ∧ f 1 = U.v ∧ f 2 = (pB T) ∧ f 5 = iV g ∧ f 6 = D.v ∧ f 7 = iV x ∧ St w0 ros (box T 25 [iV N, iV g, O.v, R.v, S.v] :: row 50 rH D.v J :: fam 4 rB J a5 :: rs) w) g9 ⟨_, _, _, _, _, rfl, rfl, rfl, rfl, rfl, rfl, rfl, (b.k17)⟩ ?_
 rintro _ _ w v4 ⟨a5, x, f, D, J, rfl, rfl, o6, o7, b1, f2, f3, b⟩ C o8 v5 o9 p0
 refine seqQ fun v6 p1 p2 => sR fun _ p3 => Ym (iV x) (eh f3) (Ym (iV g) (eh b1) (yY (ylss e0 e0) (wK p3 ?_)))
 refine cIf e0 C (fun p4 C => ?_) fun p4 C => ?_
 ·refine wp_skip (p1 _ _ (sQ fun _ p5 => blockQ fun _ p6 => sR fun _ p7 => Ym (iV g) (eh b1) (bE C fun v7 p8 C => yH (rMk b SL_50 e0 p8) fun q w b => Ya q.v e0 (wK p7 (sQ fun _ p9 => ?_)))))
  refine sR fun _ q0 => Ya (iV 0) rfl (wK q0 (blockQ fun q5 q6 => bE C fun q7 q8 C => ?_))
  have q9 : ∀ (b2 : List Bool) (f : FV) w, f 1 = U.v → f 2 = (pB T) → f 5 = iV g → f 6 = D.v → f 7 = iV x → f 8 = q.v → St w0 ros (box T 25 [iV N, iV g, O.v, R.v, S.v] :: row 50 rH D.v J :: fam 4 rB J a5 :: row 4 rB q.v b2 :: rs) w → b2 = q7 → q5 (.exit 2) (fr 93 f) w := by
   intro b2 f w r0 r1 r2 r3 r4 r5 b ho
   subst ho
   refine q6 _ _ _ (p9 _ _ (wR (Ym D.v (eh r3) (Ym q.v (eh r5) (yH (rLt (n := 1) (l := [q]) b SLH_70 [q.v] (bp1 e0) rfl rfl (mks1 rfl (mkF rfl) mks0)) fun v8 w b => bE C fun v9 f4 C => ?_)))))
   replace b := b.k17
   obtain ⟨w1, ey745, r6⟩ := app_rep f4 (b.famL R3) (show [q].length = [b2].length from rfl)
   refine yH (rAp b SLH_70 e0 e0 rO1 r6) fun r7 w b => ?_
   replace b := (b.k3g).fPush
   rw [← ey745, ← (app_some f4).1] at b
   refine Ya r7.v e0 (wN (p6 _ _ _ (p5 _ _ (wR (Ym (iV x) (eh r4) (yY (yadd e0 rfl) (Ya (iV (wa .i64 x 1)) e0 (wN ?_))))))))
   cases C
   exact o9 _ _ _ rfl ⟨_, _, _, _, _, rfl, rfl, r0, r1, r2, rfl, rfl, (b.k3h)⟩
  refine loopQ (fun s a w => ∃ (d0 : List Bool) (p : Int) (f : FV), (d0, p) = s ∧ a = fr 93 f ∧ f 1 = U.v ∧ f 2 = (pB T) ∧ f 5 = iV g ∧ f 6 = D.v ∧ f 7 = iV x ∧ f 8 = q.v ∧ f 9 = iV p ∧ St w0 ros (box T 25 [iV N, iV g, O.v, R.v, S.v] :: row 50 rH D.v J :: fam 4 rB J a5 :: row 4 rB q.v d0 :: rs) w) q8 ⟨_, _, _, rfl, rfl, o6, o7, b1, f2, f3, rfl, rfl, (b.k2t)⟩ ?_
  rintro _ _ w w2 ⟨d0, p, f, rfl, rfl, b3, b4, b5, d1, a6, Z, E, b⟩ K r8 w3 r9 s0
  refine seqQ fun w4 s1 s2 => sR fun _ s3 => Ym (iV p) (eh E) (Ym (iV g) (eh b5) (yY (ylss e0 e0) (wK s3 ?_)))
  refine cIf e0 K (fun s4 K => ?_) fun s4 K => ?_
  ·refine wp_skip (s1 _ _ (sQ fun _ s5 => blockQ fun _ s6 => bE K fun b6 L K => bE K fun s7 b7 K => ?_))
   refine joinN (n := 93) (fun f w => f 1 = U.v ∧ f 2 = (pB T) ∧ f 5 = iV g ∧ f 6 = D.v ∧ f 7 = iV x ∧ f 8 = q.v ∧ f 9 = iV p ∧ St w0 ros (box T 25 [iV N, iV g, O.v, R.v, S.v] :: row 50 rH D.v J :: fam 4 rB J a5 :: row 4 rB q.v s7 :: rs) w) (fun f5 => ?_) ?_
   ·rcases iteS L with ⟨o, L⟩ | ⟨o, L⟩
    ·have s8 := someI L
     refine dR [0, 0, 0, 0, 12, 28, 60, 60, 60, 444, 956, 60, 4092, 8188, 16383, 32767] [12, 15] 2 folM ?_
     replace b := b.drew
     refine Dn [0, 1, 2, 3, 4, 5, 6, 7, 8, 9, 10, 11] [] [12] (yR rfl (m_ q.v (eh Z)) (yR rfl (m_ (iV p) (eh E)) (yR rfl (m_ (iV x) (eh a6)) (yR rfl (m_ (iV p) (eh E)) (yR rfl (yeql e0 e0) (yR rfl (m_ (.bool (decide (x = p))) e0) (Rx rfl rfl (wX (dT o)) (Rx rfl rfl (wX (dT o)) (Rx rfl rfl (wX (dT o)) (Rx rfl rfl (wX (dT o)) (Rx rfl rfl (wX (dT o)) (Rx rfl rfl (wX (dT o)) (Rn QSn ?_)))))))))))))
     refine Lc1 rfl ?_
     refine Lx (wX (dT o)) (Dn [13, 14] [0, 1] [15] (yR rfl (pt_ (.bool b6) e0 (dT o) (eqv s8 rfl)) (yR rfl (yIs SL_50 e0 e0 b rO3 b7) (Rn (yS rfl (m_ q.v (eh Z)) (yS rfl (m_ (iV p) (eh E)) QSn)) ?_))))
     refine Lc1 rfl ?_
     replace b := b.k14
     exact LT wn (r_sti (cs := [.bool b6]) b O_4 rfl e0 e0 rfl mkB b7) fun w b => Dz [] [] (Rn QSn (f5 _ _ ⟨b3, b4, b5, d1, a6, Z, E, (b.k2t)⟩))
    ·refine bE L fun w5 f6 L => bE L fun w6 s9 L => ?_
     have t0 := someI L
     refine dR [0, 0, 0, 0, 12, 28, 60, 60, 60, 444, 956, 60, 4092, 8188, 16383, 32767] [12, 15] 2 folM ?_
     replace b := b.drew
     refine Dn [0, 1, 2, 3, 4, 5, 6, 7, 8, 9, 10, 11] [] [12] (yR rfl (m_ q.v (eh Z)) (yR rfl (m_ (iV p) (eh E)) (yR rfl (m_ (iV x) (eh a6)) (yR rfl (m_ (iV p) (eh E)) (yR rfl (yeql e0 e0) (yR rfl (m_ (.bool (decide (x = p))) e0) (Ry rfl rfl (wG (dF o)) (lbs_ [iV N, iV g, O.v, R.v, S.v] ST_25 (eh b4) b R0) (Ry rfl rfl (wG (dF o)) (m_ U.v (eh b3)) (Ry rfl rfl (wG (dF o)) (m_ (iV x) (eh a6)) (Ry rfl rfl (wG (dF o)) (yIa SL_22 e0 e0 b (rdI d6) f6) (Ry rfl rfl (wG (dF o)) (yI O_3 e0 b (rdI d6) f6) (Ry rfl rfl (wG (dF o)) (m_ (iV p) (eh E)) (Rn QSn ?_)))))))))))))
     refine Lc1 rfl ?_
     refine Lk (wG (dF o)) (yCall FN_58 (a3 e0 e0 e0)) (sparseref09_Stored_ok s9 f7 f8 f9 b) ?_
     rintro _ w ⟨rfl, b⟩
     refine ⟨_, rfl, ?_⟩
     refine Dn [13, 14] [0, 1] [15] (yR rfl (pf_ (.bool b6) e0 (dF o) (eqv t0 e0)) (yR rfl (yIs SL_50 e0 e0 b rO3 b7) (Rn (yS rfl (m_ q.v (eh Z)) (yS rfl (m_ (iV p) (eh E)) QSn)) ?_)))
     refine Lc1 rfl ?_
     replace b := b.k14
     exact LT wn (r_sti (cs := [.bool b6]) b O_4 rfl e0 e0 rfl mkB b7) fun w b => Dz [] [] (Rn QSn (f5 _ _ ⟨b3, b4, b5, d1, a6, Z, E, (b.k2t)⟩))
   rintro f w ⟨t1, t2, t3, t4, t5, t6, t7, b⟩
   refine s6 _ _ _ (s5 _ _ (wR (Ym (iV p) (eh t7) (yY (yadd e0 rfl) (Ya (iV (wa .i64 p 1)) e0 (wN ?_))))))
   cases K
   exact r9 _ _ _ rfl ⟨_, _, _, rfl, rfl, t1, t2, t3, t4, t5, t6, rfl, b⟩
  ·refine wp_exit (s2 _ _ _ rfl ?_)
   cases K
   exact s0 _ _ _ _ rfl rfl (q9 _ _ _ b3 b4 b5 d1 a6 Z b (r8 _ rfl))
 ·refine wp_exit (p2 _ _ _ rfl ?_)
  cases C
  exact p0 _ _ _ _ rfl rfl (h0 _ _ _ _ _ b1 f2 (b.k3i) (o8 _ rfl))
end Go.Proofs.YtgnfkbaghjmgiaaGreat
