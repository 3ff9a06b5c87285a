/- Walks: each function computes its model, printed. -/
import Derived.Test.YthpeajepbffinaaGreatW4
namespace Go.Proofs.YthpeajepbffinaaGreat
open Go Sx M
set_option maxRecDepth 100000
set_option maxHeartbeats 40000000
set_option linter.unusedVariables false
attribute [local irreducible] wpList Code.wp Calls DR QR QS LA LS St
variable {w0 : World} {ros : List Fact} {rs : List Res} {w : World}
theorem slices_Collect_int_ok {f : LI} {a : Nat} {b : Hdr} {out : LI} (c : slices_Collect_int f = some out) (h : imm I1 b.v f ∈ ros) (d : St w0 ros (box a 22 [b.v] :: rs) w) :
  Calls Tryz.prog 141 #[.func (.func 142) #[] #[(pB a)]] w (fun e w => ∃ (g : Hdr), e = .returned (g.v) ∧ St w0 ros (box a 22 [b.v] :: row 3 I1 g.v out :: rs) w) := by
 refine enterQ Tryz.func141 rfl Tryz.ntmps141 rfl fun Q i => sR fun _ j => Ya hnil.v rfl (wK j (sR fun _ k => Ym (.func (.func 142) #[] #[(pB a)]) e0 ?_))
 obtain ⟨n, l, c⟩ := bs c
 refine Yc wn rfl (yCall FN_159 (a2 rfl e0)) (colV_ok l h d) ?_
 rintro _ w ⟨m, rfl, d⟩
 refine ⟨_, rfl, ?_⟩
 refine Ya m.v e0 (wK k (wp_ret ?_))
 obtain rfl := someI c
 exact i _ _ _ (fin1r Tryz.results141 ⟨rfl, rfl⟩ ⟨_, rfl, (d.pk 2 [1, 0] rfl)⟩)
theorem slices_Sorted_int_ok {g : LI} {c : Nat} {f : Hdr} {out : LI} (b : slices_Sorted_int g = some out) (i : imm I1 f.v g ∈ ros) (a : St w0 ros (box c 22 [f.v] :: rs) w) :
  Calls Tryz.prog 129 #[.func (.func 142) #[] #[(pB c)]] w (fun e w => ∃ (h : Hdr), e = .returned (h.v) ∧ St w0 ros (box c 22 [f.v] :: row 3 I1 h.v out :: rs) w) := by
 refine enterQ Tryz.func129 rfl Tryz.ntmps129 rfl fun Q j => sR fun _ k => Ya hnil.v rfl (wK k (sR fun _ l => Ym (.func (.func 142) #[] #[(pB c)]) e0 ?_))
 obtain ⟨q, m, b⟩ := bs b
 refine Yc wn rfl (yCall FN_141 (a1 e0)) (slices_Collect_int_ok m i a) ?_
 rintro _ w ⟨d, rfl, a⟩
 refine ⟨_, rfl, ?_⟩
 refine Ya d.v e0 (wK l (sR fun _ n => Ym d.v e0 ?_))
 obtain ⟨r, o, b⟩ := bs b
 replace a := a.pk 2 [1, 0] rfl
 refine Yc wn rfl (yCall FN_118 (a1 e0)) (sortI_ok o a) ?_
 rintro _ w ⟨rfl, a⟩
 refine ⟨_, rfl, ?_⟩
 refine wK n (sR fun _ p => Ym d.v e0 (Ya d.v e0 (wK p (wp_ret ?_))))
 obtain rfl := someI b
 exact j _ _ _ (fin1r Tryz.results129 ⟨rfl, rfl⟩ ⟨_, rfl, (a.pk 2 [1, 0] rfl)⟩)
theorem graph_twice_ok {d : LI} {c : Hdr} {out : Bool} (b : graph_twice d = some out) (f : imm I1 c.v d ∈ ros) (a : St w0 ros rs w) :
  Calls Tryz.prog 113 #[c.v] w (fun e w => e = .returned (.bool out) ∧ St w0 ros rs w) := by
 refine enterQ Tryz.func113 rfl Tryz.ntmps113 rfl fun Q g => sR fun _ h => Ya (.bool false) rfl (wK h (sR fun _ i => Ym c.v e0 ?_))
 obtain ⟨n, j, b⟩ := bs b
 refine Yc wn rfl (yCall FN_130 (a1 e0)) (slices_Values_int_ok j f a) ?_
 rintro _ w ⟨o, rfl, a⟩
 refine ⟨_, rfl, ?_⟩
 obtain ⟨p, k, b⟩ := bs b
 refine Yc wn rfl (yCall FN_129 (a1 e0)) (slices_Sorted_int_ok k f a) ?_
 rintro _ w ⟨q, rfl, a⟩
 refine ⟨_, rfl, ?_⟩
 obtain ⟨l, m, b⟩ := bs b
 replace a := a.pk 2 [1, 0] rfl
 refine Yc wn rfl (yCall FN_128 (a1 e0)) (compactI_ok m a) ?_
 rintro _ w ⟨r, rfl, a⟩
 refine ⟨_, rfl, ?_⟩
 refine yY (yLen SL_22 e0 a rO0) (Ym c.v e0 (yY (yLen SL_22 e0 a (rdI f)) (yY (ylss e0 e0) (Ya (.bool (decide ((l.length : Int) < (d.length : Int)))) e0 (wK i (wp_ret ?_))))))
 obtain rfl := someI b
 exact g _ _ _ (fin1r Tryz.results113 ⟨rfl, rfl⟩ ⟨rfl, (a.pk 2 [] rfl)⟩)
theorem graph_Sets_Graph_ok {m : List (List Bool)} {h : Hdr} {out : L2} (i : graph_Sets_Graph m = some out) (n : imm SB h.v m ∈ ros) (b : St w0 ros rs w) :
  Calls Tryz.prog 132 #[h.v] w (fun e w => ∃ (t : Hdr), e = .returned (.agg #[t.v]) ∧ St w0 ros (row 22 S1 t.v out :: rs) w) := by
 refine enterQ Tryz.func132 rfl Tryz.ntmps132 rfl fun Q B => sR fun _ C => YB wn rfl (rAl b ZT_26) ?_
 intro j w b
 refine wK C (sR fun _ D => Ym h.v e0 (yY (yLen SL_136 e0 b (rdI n)) ?_))
 obtain ⟨a4, E, i⟩ := bs i
 refine YH wn rfl (rMk b SL_24 e0 E) ?_
 intro c w b
 refine yY (ybuild (us := [c.v]) [(0, c.v)] SO_26 (bp1 e0) rfl) (YB wn rfl (rAl b ZT_26) ?_)
 intro k w b
 refine YT wn rfl (r_stbn (vals' := [c.v]) (us := [c.v]) b ST_26 e0 e0 rfl rfl (one_of rfl) rfl) ?_
 intro w b
 refine wK D (sQ fun _ F => sR fun _ G => Ym h.v e0 (yY (yLen SL_136 e0 b (rdI n)) (Ym (iV 0) rfl (wK G (blockQ fun H I => ?_)))))
 obtain ⟨J, K, i⟩ := bs i
 have L : ∀ (o : L2) (f : FV) (w : World), f 2 = (pB j) → f 3 = (pB k) → St w0 ros (box j 26 [hnil.v] :: row 22 S1 c.v o :: box k 26 [c.v] :: rs) w → o = J → H (.exit 0) (fr 23 f) w := by
  intro o f w u N b ho
  subst ho
  refine I _ _ _ (F _ _ (sR fun _ O => yY (lbs_ [c.v] ST_26 (eh N) b R2) (YT wn rfl (r_stbn (vals' := [c.v]) (us := [c.v]) b ST_26 (eh u) e0 rfl rfl (one_of rfl) rfl) ?_)))
  intro w b
  refine wK O (wp_ret ?_)
  obtain rfl := someI i
  exact B _ _ _ (fin1r Tryz.results132 (rcs2 rfl u b R0 ST_26 rfl) ⟨_, rfl, (b.pk 3 [1] rfl)⟩)
 refine loopQ (fun s a w => ∃ (p : L2) (d : Int) (f : FV), (p, d) = s ∧ a = fr 23 f ∧ f 0 = h.v ∧ f 2 = (pB j) ∧ f 3 = (pB k) ∧ f 10 = iV (m.length : Int) ∧ f 11 = iV d ∧ St w0 ros (box j 26 [hnil.v] :: row 22 S1 c.v p :: box k 26 [c.v] :: rs) w) K ⟨_, _, _, rfl, rfl, rfl, rfl, rfl, rfl, rfl, (b.pk 3 [2, 1, 0] rfl)⟩ ?_
 rintro _ _ w a5 ⟨p, d, f, rfl, rfl, x, y, l, z, q, b⟩ g R a6 S T
 refine sR fun _ U => yY (ylss (eh q) (eh z)) (wK U (seqQ fun a7 V W => ?_))
 rcases iteS g with ⟨r, g⟩ | ⟨r, g⟩
 ·refine cT e0 r (wp_skip (V _ _ (sQ fun _ X => blockQ fun _ Z => sR fun _ a0 => Ym (iV d) (eh q) (Ya (iV d) e0 (wK a0 ?_)))))
  obtain ⟨a8, a1, g⟩ := bs g
  obtain ⟨a9, A, g⟩ := bs g
  refine dR [0, 1, 0, 0, 0, 24, 63, 127] [5, 7] 2 folM ?_
  replace b := b.drew
  refine Dn [0, 1, 2, 3, 4] [] [5] (yR rfl (yFb FL_26_0 (eh l)) (yR rfl (lb_ c.v O_24 e0 b R2) (yR rfl (m_ (iV d) e0) (yR rfl (m_ h.v (eh x)) (yR rfl (m_ (iV d) e0) (Rn QSn ?_))))))
  refine Lc1 rfl ?_
  refine Lk wn (yCall FN_109 (a2 e0 e0)) (graph_Sets_List_ok a1 n b) ?_
  rintro _ w ⟨a3, rfl, b⟩
  refine ⟨_, rfl, ?_⟩
  refine Dn [6] [0, 1, 2] [7] (yR rfl (yIs SL_24 e0 e0 b rO2 A) (Rn (yS rfl (yFb FL_26_0 (eh l)) (yS rfl (lb_ c.v O_24 e0 b R3) (yS rfl (m_ (iV d) e0) QSn))) ?_))
  refine Lc1 rfl ?_
  replace b := b.fz
  replace b := b.pk 2 [1, 0] rfl
  refine LT wn (r_sti (cs := [a3.v]) b O_22 rfl e0 e0 rfl (mkS F0) A) ?_
  intro w b
  refine Dz [] [] (Rn QSn (Z _ _ _ (X _ _ (wR (yY (yadd (eh q) rfl) (Ym (iV (wa .i64 d 1)) e0 (wN ?_)))))))
  obtain rfl := someI g
  exact S _ _ _ rfl ⟨_, _, _, rfl, rfl, x, y, l, z, rfl, ((b.pk 3 [1, 0, 0] rfl).facts (allT allI))⟩
 ·refine cF e0 r (wp_exit (W _ _ _ rfl ?_))
  obtain rfl := someI g
  exact T _ _ _ _ rfl rfl (L _ _ _ y l b (R _ rfl))
theorem graph_induced_ok {U : L2} {p : LI} {n c : Hdr} {out : L2} (l : graph_induced U p = some out) (b1 : imm S1 n.v U ∈ ros) (q : imm I1 c.v p ∈ ros) (b : St w0 ros rs w) :
  Calls Tryz.prog 114 #[.agg #[n.v], c.v] w (fun e w => ∃ (V : Hdr), e = .returned (.agg #[V.v]) ∧ St w0 ros (row 22 S1 V.v out :: rs) w) := by
 refine enterQ Tryz.func114 rfl Tryz.ntmps114 rfl fun Q b2 => sR fun _ k1 => YB wn rfl (r_box (vals := [n.v]) b e0 rfl) ?_
 intro o w b
 refine YB wn rfl (rAl b ZT_26) ?_
 intro j w b
 refine wK k1 (sR fun _ b3 => Ym c.v e0 (yY (yLen SL_22 e0 b (rdI q)) ?_))
 obtain ⟨i0, b4, l⟩ := bs l
 refine Yc wn rfl (yCall FN_131 (a1 e0)) (graph_NewSets_ok b4 b) ?_
 rintro _ w ⟨h, k, rfl, b⟩
 refine ⟨_, rfl, ?_⟩
 refine Ya h.v e0 (wK b3 (sQ fun _ b7 => sR fun _ b8 => Ym c.v e0 (yY (yLen SL_22 e0 b (rdI q)) (Ym (iV 0) rfl (wK b8 (blockQ fun b9 c0 => ?_))))))
 obtain ⟨c1, c2, l⟩ := bs l
 have c3 : ∀ (A : List (List Bool)) (f : FV) (w : World), f 4 = (pB j) → f 5 = h.v → St w0 ros (box j 26 [hnil.v] :: row 93 rH h.v k :: fam 4 rB k A :: rs) w → A = c1 → b9 (.exit 0) (fr 41 f) w := by
  intro A f w W c4 b ho
  subst ho
  refine c0 _ _ _ (b7 _ _ (sR fun _ c5 => Ym h.v (eh c4) ?_))
  obtain ⟨i1, c6, l⟩ := bs l
  replace b := b.pk 3 [1, 1, 0] rfl
  replace b := b.ffz
  refine Yc wn rfl (yCall FN_132 (a1 e0)) (graph_Sets_Graph_ok c6 F0 b) ?_
  rintro _ w ⟨X, rfl, b⟩
  refine ⟨_, rfl, ?_⟩
  replace b := b.pk 2 [1, 0] rfl
  refine YT wn rfl (r_stbn (vals' := [X.v]) (us := [X.v]) b ST_26 (eh W) e0 rfl rfl (one_of rfl) rfl) ?_
  intro w b
  refine wK c5 (wp_ret ?_)
  obtain rfl := someI l
  exact b2 _ _ _ (fin1r Tryz.results114 (rcs2 rfl W b R0 ST_26 rfl) ⟨_, rfl, ((b.pk 2 [1] rfl).facts (allT allI))⟩)
 refine loopQ (fun s a w => ∃ (B : List (List Bool)) (d : Int) (f : FV), (B, d) = s ∧ a = fr 41 f ∧ f 1 = c.v ∧ f 2 = (pB o) ∧ f 4 = (pB j) ∧ f 5 = h.v ∧ f 13 = c.v ∧ f 14 = iV (p.length : Int) ∧ f 15 = iV d ∧ St w0 ros (box o 26 [n.v] :: box j 26 [hnil.v] :: row 93 rH h.v k :: fam 4 rB k B :: rs) w) c2 ⟨_, _, _, rfl, rfl, rfl, rfl, rfl, rfl, rfl, rfl, rfl, (b.pk 4 [3, 2, 0, 0] rfl)⟩ ?_
 rintro _ _ w i2 ⟨B, d, f, rfl, rfl, Z, c7, a0, a2, a4, a5, t, b⟩ i c8 i3 c9 d0
 refine sR fun _ d1 => yY (ylss (eh t) (eh a5)) (wK d1 (seqQ fun i4 d2 d3 => ?_))
 rcases iteS i with ⟨C, i⟩ | ⟨C, i⟩
 ·refine cT e0 C (wp_skip (d2 _ _ (sQ fun _ d4 => blockQ fun _ d5 => sR fun _ d6 => Ym (iV d) (eh t) ?_)))
  obtain ⟨u, a6, i⟩ := bs i
  refine yY (yIa SL_22 (eh a4) (eh t) b (rdI q) a6) (yY (yI O_3 e0 b (rdI q) a6) (Ya (iV d) e0 (Ya (iV u) e0 (wK d6 (sR fun _ d7 => Ym c.v (eh Z) (Ym (iV d) e0 ?_))))))
  obtain ⟨x, a7, i⟩ := bs i
  refine yY (ySl (k1 := .i64) SL_22 e0 b (rdI q) (.inr ⟨rfl, rfl⟩) (.inl (congrArg some e0)) a7) ?_
  replace b := b.sub q a7
  refine yY (yLen SL_22 e0 b (rdI F0)) (Ym (iV 0) rfl (wK d7 (blockQ fun d8 d9 => ?_)))
  obtain ⟨e1, e2, i⟩ := bs i
  have e3 : ∀ (D : List (List Bool)) (f : FV) (w : World), f 1 = c.v → f 2 = (pB o) → f 4 = (pB j) → f 5 = h.v → f 13 = c.v → f 14 = iV (p.length : Int) → f 15 = iV d → St w0 ros (box o 26 [n.v] :: box j 26 [hnil.v] :: row 93 rH h.v k :: fam 4 rB k D :: rs) w → D = e1 → d8 (.exit 2) (fr 41 f) w := by
   intro D f w e4 e5 e6 e7 e8 e9 f0 b ho
   subst ho
   refine d9 _ _ _ (d5 _ _ _ (d4 _ _ (wR (yY (yadd (eh f0) rfl) (Ym (iV (wa .i64 d 1)) e0 (wN ?_))))))
   obtain rfl := someI i
   exact c9 _ _ _ rfl ⟨_, _, _, rfl, rfl, e4, e5, e6, e7, e8, e9, rfl, b⟩
  refine loopQ (fun s a w => ∃ (E : List (List Bool)) (m : Int) (f : FV), (E, m) = s ∧ a = fr 41 f ∧ f 1 = c.v ∧ f 2 = (pB o) ∧ f 4 = (pB j) ∧ f 5 = h.v ∧ f 6 = iV d ∧ f 7 = iV u ∧ f 13 = c.v ∧ f 14 = iV (p.length : Int) ∧ f 15 = iV d ∧ f 22 = (subH c 1 0 d).v ∧ f 23 = iV (x.length : Int) ∧ f 24 = iV m ∧ St w0 (imm I1 (subH c 1 0 d).v x :: ros) (box o 26 [n.v] :: box j 26 [hnil.v] :: row 93 rH h.v k :: fam 4 rB k E :: rs) w) e2 ⟨_, _, _, rfl, rfl, Z, c7, a0, a2, rfl, rfl, a4, a5, t, rfl, rfl, rfl, b⟩ ?_
  rintro _ _ w f1 ⟨E, m, f, rfl, rfl, F, y, G, z, H, I, J, K, L, N, O, r, b⟩ g f2 i5 f3 f4
  refine sR fun _ f5 => yY (ylss (eh r) (eh O)) (wK f5 (seqQ fun i6 f6 f7 => ?_))
  rcases iteS g with ⟨R, g⟩ | ⟨R, g⟩
  ·refine cT e0 R (wp_skip (f6 _ _ (sQ fun _ f8 => blockQ fun f9 g0 => sR fun _ g1 => Ym (iV m) (eh r) ?_)))
   obtain ⟨a8, a9, g⟩ := bs g
   refine yY (yIa SL_22 (eh N) (eh r) b (rdI F0) a9) (yY (yI O_3 e0 b (rdI F0) a9) (Ya (iV m) e0 (Ya (iV a8) e0 (wK g1 (sR fun _ g2 => yY (lbs_ [n.v] ST_26 (eh y) b R0) (Ym (iV u) (eh I) (Ym (iV a8) e0 ?_)))))))
   obtain ⟨i7, g3, g⟩ := bs g
   refine Yc wn rfl (yCall FN_82 (a3 e0 e0 e0)) (graph_joined_ok g3 (mtF b1) b) ?_
   rintro _ w ⟨rfl, b⟩
   refine ⟨_, rfl, ?_⟩
   refine wK g2 ?_
   have b0 : ∀ (S : List (List Bool)) (f : FV) (w : World), f 1 = c.v → f 2 = (pB o) → f 4 = (pB j) → f 5 = h.v → f 6 = iV d → f 7 = iV u → f 13 = c.v → f 14 = iV (p.length : Int) → f 15 = iV d → f 22 = (subH c 1 0 d).v → f 23 = iV (x.length : Int) → f 24 = iV m → St w0 (imm I1 (subH c 1 0 d).v x :: ros) (box o 26 [n.v] :: box j 26 [hnil.v] :: row 93 rH h.v k :: fam 4 rB k S :: rs) w → graph_induced_j13 m S = some f1 → f9 .normal (fr 41 f) w := by
    intro S f w g4 g5 g6 g7 g8 g9 h0 h1 h3 h5 h6 h7 b l
    refine g0 _ _ _ (f8 _ _ (wR (yY (yadd (eh h7) rfl) (Ym (iV (wa .i64 m 1)) e0 (wN ?_)))))
    obtain rfl := someI l
    exact f3 _ _ _ rfl ⟨_, _, _, rfl, rfl, g4, g5, g6, g7, g8, g9, h0, h1, h3, h5, h6, rfl, b⟩
   rcases iteS g with ⟨T, g⟩ | ⟨T, g⟩
   ·refine condT e0 T (wR (Ym h.v (eh z) (Ym (iV d) (eh H) (Ym (iV m) e0 ?_))))
    obtain ⟨i8, h9, g⟩ := bs g
    replace b := b.pk 4 [2, 2, 0, 0] rfl
    refine Yc wn rfl (yCall FN_127 (a3 e0 e0 e0)) (graph_Sets_Join_ok h9 b) ?_
    rintro _ w ⟨rfl, b⟩
    refine ⟨_, rfl, ?_⟩
    exact wN (b0 _ _ _ F y G z H I J K L N O r (b.pk 4 [2, 2, 0, 0] rfl) g)
   ·exact condF e0 (bfalse T) (wp_skip (b0 _ _ _ F y G z H I J K L N O r b g))
  ·refine cF e0 R (wp_exit (f7 _ _ _ rfl ?_))
   obtain rfl := someI g
   exact f4 _ _ _ _ rfl rfl (e3 _ _ _ F y G z J K L (b.facts (allT allI)) (f2 _ rfl))
 ·refine cF e0 C (wp_exit (d3 _ _ _ rfl ?_))
  obtain rfl := someI i
  exact d0 _ _ _ _ rfl rfl (c3 _ _ _ a0 a2 (b.pk 4 [1, 1, 1] rfl) (c8 _ rfl))
theorem graph_Induced_ok {o : L2} {p : LI} {c d : Hdr} {out : L2 × Int} (b : graph_Induced o p = some out) (i : imm S1 c.v o ∈ ros) (j : imm I1 d.v p ∈ ros) (a : St w0 ros rs w) :
  Calls Tryz.prog 91 #[.agg #[c.v], d.v] w (fun e w => ∃ (q : Hdr), e = .returned (.tuple #[.agg #[q.v], iV out.2]) ∧ St w0 ros (row 22 S1 q.v out.1 :: rs) w) := by
 refine enterQ Tryz.func91 rfl Tryz.ntmps91 rfl fun Q g => sR fun _ s => YB wn rfl (r_box (vals := [c.v]) a e0 rfl) ?_
 intro t w a
 refine YB wn rfl (rAl a ZT_26) ?_
 intro L w a
 refine Ya (iV 0) rfl (wK s (sR fun _ u => yY (lbs_ [c.v] ST_26 e0 a R1) ?_))
 obtain ⟨f, x, b⟩ := bs b
 refine Yc wn rfl (yCall FN_51 (a1 e0)) (graph_Check_ok x i a) ?_
 rintro _ w ⟨rfl, a⟩
 refine ⟨_, rfl, ?_⟩
 refine Ya (iV f) e0 (wK u (seqQ fun N y k => blockQ fun _ h => sR fun _ z => Ym (iV f) e0 (yY (yneq e0 rfl) (Ya (.bool (!(decide (f = 0)))) e0 (wK z ?_)))))
 rcases iteS b with ⟨l, b⟩ | ⟨l, b⟩
 ·refine condF e0 (nF (dT l)) (sR fun _ A => Ym d.v e0 (yY (ymf (vf := #[]) (vc := #[(pB t)]) a0 (a1 e0)) ?_))
  obtain ⟨B, C, b⟩ := bs b
  replace a := a.pk 2 [1, 0] rfl
  refine Yc wn rfl (yCall FN_49 (a2 e0 e0)) (slices_ContainsFunc_int_v3_ok C j i a) ?_
  rintro _ w ⟨rfl, a⟩
  refine ⟨_, rfl, ?_⟩
  refine Ya (.bool B) e0 (wK A ?_)
  rcases iteS b with ⟨m, b⟩ | ⟨m, b⟩
  ·refine condT e0 m (sR fun _ D => yY (ybuild (us := [hnil.v]) [] SO_26 bp0 rfl) ?_)
   replace a := a.pk 2 [1, 0] rfl
   refine YT wn rfl (r_stbn (vals' := [hnil.v]) (us := [hnil.v]) a ST_26 e0 e0 rfl rfl (one_of rfl) rfl) ?_
   intro w a
   refine Ya (iV 3) rfl (wK D (wp_ret (h _ _ _ (k _ _ _ rfl ?_))))
   obtain rfl := someI b
   replace a := a.rowNh 22 S1
   exact g _ _ _ (fin2r Tryz.results91 (rcs2 rfl rfl a R1 ST_26 rfl) ⟨rfl, rfl⟩ ⟨_, rfl, (a.pk 3 [0] rfl)⟩)
  ·refine condF e0 (bfalse m) (sR fun _ E => Ym d.v e0 ?_)
   obtain ⟨F, G, b⟩ := bs b
   refine Yc wn rfl (yCall FN_113 (a1 e0)) (graph_twice_ok G j a) ?_
   rintro _ w ⟨rfl, a⟩
   refine ⟨_, rfl, ?_⟩
   refine Ya (.bool F) e0 (wK E ?_)
   rcases iteS b with ⟨n, b⟩ | ⟨n, b⟩
   ·refine condT e0 n (sR fun _ H => yY (ybuild (us := [hnil.v]) [] SO_26 bp0 rfl) ?_)
    replace a := a.pk 2 [1, 0] rfl
    refine YT wn rfl (r_stbn (vals' := [hnil.v]) (us := [hnil.v]) a ST_26 e0 e0 rfl rfl (one_of rfl) rfl) ?_
    intro w a
    refine Ya (iV 90) rfl (wK H (wp_ret (h _ _ _ (k _ _ _ rfl ?_))))
    obtain rfl := someI b
    replace a := a.rowNh 22 S1
    exact g _ _ _ (fin2r Tryz.results91 (rcs2 rfl rfl a R1 ST_26 rfl) ⟨rfl, rfl⟩ ⟨_, rfl, (a.pk 3 [0] rfl)⟩)
   ·refine condF e0 (bfalse n) (wp_skip (h _ _ _ (y _ _ (sR fun _ I => yY (lbs_ [c.v] ST_26 e0 a R0) (Ym d.v e0 ?_)))))
    obtain ⟨O, J, b⟩ := bs b
    refine Yc wn rfl (yCall FN_114 (a2 e0 e0)) (graph_induced_ok J i j a) ?_
    rintro _ w ⟨r, rfl, a⟩
    refine ⟨_, rfl, ?_⟩
    replace a := a.pk 3 [2, 0, 0] rfl
    refine YT wn rfl (r_stbn (vals' := [r.v]) (us := [r.v]) a ST_26 e0 e0 rfl rfl (one_of rfl) rfl) ?_
    intro w a
    refine Ya (iV 0) rfl (wK I (wp_ret ?_))
    obtain rfl := someI b
    exact g _ _ _ (fin2r Tryz.results91 (rcs2 rfl rfl a R0 ST_26 rfl) ⟨rfl, rfl⟩ ⟨_, rfl, (a.pk 3 [1] rfl)⟩)
 ·refine condT e0 (nT (dF l)) (sR fun _ K => yY (ybuild (us := [hnil.v]) [] SO_26 bp0 rfl) (Ym (iV f) e0 (YT wn rfl (r_stbn (vals' := [hnil.v]) (us := [hnil.v]) a ST_26 e0 e0 rfl rfl (one_of rfl) rfl) ?_)))
  intro w a
  refine Ya (iV f) e0 (wK K (wp_ret (h _ _ _ (k _ _ _ rfl ?_))))
  obtain rfl := someI b
  replace a := a.rowNh 22 S1
  exact g _ _ _ (fin2r Tryz.results91 (rcs2 rfl rfl a R1 ST_26 rfl) ⟨rfl, rfl⟩ ⟨_, rfl, (a.pk 3 [0] rfl)⟩)
theorem dissect_dissected_step {rec : L2 → Int → Option (LI)} (d9 : ∀ {w0 : World} {ros : List Fact} {rs : List Res} {w : World} {x : L2} {m : Int} {j : Hdr} {out : LI} (c : rec x m = some out) (A : imm S1 j.v x ∈ ros) (b : St w0 ros rs w), Calls Tryz.prog 62 #[.agg #[j.v], iV m] w (fun e w => ∃ (B : Hdr), e = .returned (B.v) ∧ St w0 ros (row 3 I1 B.v out :: rs) w)) {w0 : World} {ros : List Fact} {rs : List Res} {w : World} {x : L2} {m : Int} {j : Hdr} {out : LI} (c : dissect_dissected_body rec x m = some out) (A : imm S1 j.v x ∈ ros) (b : St w0 ros rs w) :
  Calls Tryz.prog 62 #[.agg #[j.v], iV m] w (fun e w => ∃ (B : Hdr), e = .returned (B.v) ∧ St w0 ros (row 3 I1 B.v out :: rs) w) := by
 refine enterQ Tryz.func62 rfl Tryz.ntmps62 rfl fun Q a5 => sR fun _ e1 => YB wn rfl (r_box (vals := [j.v]) b e0 rfl) ?_
 intro t w b
 refine Ya hnil.v rfl (wK e1 (sR fun _ e2 => yY (ybuild (us := [hnil.v, hnil.v, hnil.v]) [] SO_46 bp0 rfl) (YB wn rfl (rAl b ZT_46) ?_)))
 intro q w b
 refine YT wn rfl (r_stbn (vals' := [hnil.v, hnil.v, hnil.v]) (us := [hnil.v, hnil.v, hnil.v]) b ST_46 e0 e0 rfl rfl (one_of rfl) rfl) ?_
 intro w b
 refine wK e2 (sQ fun e3 e4 => sR fun _ e5 => yY (yFb FL_26_0 e0) (yY (lb_ j.v O_24 e0 b R1) (yY (yLen SL_24 e0 b (rdI A)) (Ym (iV m) e0 (yY (ygtr e0 e0) (wK e5 ?_))))))
 have a6 : ∀ (d g u : LI) (h i k : Hdr) (f : FV) (w : World), f 1 = iV m → f 2 = (pB t) → f 5 = (pB q) → St w0 ros (box t 26 [j.v] :: row 3 I1 h.v d :: row 3 I1 i.v g :: row 3 I1 k.v u :: box q 46 [h.v, i.v, k.v] :: rs) w → dissect_dissected_j1 rec x m d g u = some out → e3 .normal (fr 76 f) w := by
  intro d g u h i k f w a7 a8 F b c
  refine e4 _ _ (seqQ fun l7 e6 e7 => sR fun _ e8 => yY (yFb FL_46_0 (eh F)) (yY (lb_ h.v O_22 e0 b R4) (yY (yLen SL_22 e0 b rO1) (yY (yeql e0 rfl) (Ym (.bool (decide ((d.length : Int) = 0))) e0 ?_)))))
  refine joinW 5 (fun f w => f 1 = iV m ∧ f 2 = (pB t) ∧ f 5 = (pB q) ∧ f 32 = .bool ((decide ((d.length : Int) = 0)) || (decide ((g.length : Int) = 0))) ∧ St w0 ros (box t 26 [j.v] :: row 3 I1 h.v d :: row 3 I1 i.v g :: row 3 I1 k.v u :: box q 46 [h.v, i.v, k.v] :: rs) w) (fun a9 => ?_) ?_
  ·rcases Bool.eq_false_or_eq_true (decide ((d.length : Int) = 0)) with o | o
   ·exact gN o (gN o (gN o (gN o (yY (pt_ (.bool true) e0 o rfl) (a9 _ _ ⟨a7, a8, F, (congrArg Value.bool (orT o)), b⟩)))))
   ·exact yG o (yFb FL_46_1 (eh F)) (yG o (lb_ i.v O_22 e0 b R4) (yG o (yLen SL_22 e0 b rO2) (yG o (yeql e0 rfl) (yY (pf_ (.bool (decide ((g.length : Int) = 0))) e0 o e0) (a9 _ _ ⟨a7, a8, F, (congrArg Value.bool (orF o)), b⟩)))))
  rintro f w ⟨e9, b0, J, b1, b⟩
  refine wK e8 ?_
  rcases iteS c with ⟨K, c⟩ | ⟨K, c⟩
  ·refine condT (eh b1) K (sR fun _ f0 => yY (lbs_ [j.v] ST_26 (eh b0) b R0) ?_)
   obtain ⟨L, f1, c⟩ := bs c
   refine Yc wn rfl (yCall FN_90 (a1 e0)) (mindeg_Exact_ok f1 A b) ?_
   rintro _ w ⟨C, rfl, b⟩
   refine ⟨_, rfl, ?_⟩
   refine Ym (.tuple #[C.v, iV L.2]) e0 (yY (x_ C.v e0) (yY (x_ (iV L.2) e0) (Ya C.v e0 (Ya (iV L.2) e0 (wK f0 (sR fun _ f2 => Ym C.v e0 (Ya C.v e0 (wK f2 (wp_ret ?_)))))))))
   refine e7 _ _ _ rfl ?_
   obtain rfl := someI c
   exact a5 _ _ _ (fin1r Tryz.results62 ⟨rfl, rfl⟩ ⟨_, rfl, (b.pk 6 [0] rfl)⟩)
  ·refine condF (eh b1) (bfalse K) (wp_skip (e6 _ _ (sR fun _ f3 => Ya hnil.v rfl (wK f3 (sQ fun _ f4 => sR fun _ f5 => yY (yFb FL_46_0 (eh J)) (yY (lb_ h.v O_22 e0 b R4) (yY (yFb FL_46_1 (eh J)) ?_)))))))
   refine yY (lb_ i.v O_22 e0 b R4) ?_
   replace b := b.pk 2 [1, 0] rfl
   replace b := b.fz
   replace b := b.pk 2 [1, 0] rfl
   replace b := b.fz
   refine YH wn rfl (rLt (n := 2) (l := [d, g]) b SL_24 [h.v, i.v] (bp2 e0 e0) rfl rfl (mks1 (cs := [h.v]) rfl (mkS F1) (mks1 (cs := [i.v]) rfl (mkS F0) mks0))) ?_
   intro y w b
   refine yY (yLen SL_24 e0 b rO0) (Ym (iV 0) rfl (wK f5 (blockQ fun f6 f7 => ?_)))
   obtain ⟨f8, f9, c⟩ := bs c
   have g0 : ∀ (N : LI) (G : Hdr) (f : FV) (w : World), f 5 = (pB q) → f 8 = G.v → St w0 (imm I1 h.v d :: imm I1 i.v g :: ros) (row 3 I1 k.v u :: box q 46 [h.v, i.v, k.v] :: row 3 I1 G.v N :: rs) w → N = f8 → f6 (.exit 0) (fr 76 f) w := by
    intro N G f w g1 g2 b ho
    subst ho
    refine f7 _ _ _ (f4 _ _ (sR fun _ g3 => Ym G.v (eh g2) (yY (yFb FL_46_2 (eh g1)) (yY (lb_ k.v O_22 e0 b R1) ?_))))
    obtain ⟨l8, g4, c⟩ := bs c
    replace b := b.pk 3 [2, 0, 0] rfl
    refine YH wn rfl (rAp b SL_22 e0 e0 rO1 g4) ?_
    intro g5 w b
    refine Ya g5.v e0 (wK g3 (wp_ret ?_))
    obtain rfl := someI c
    exact a5 _ _ _ (fin1r Tryz.results62 ⟨rfl, rfl⟩ ⟨_, rfl, ((b.pk 3 [0] rfl).facts (allT (allT allI)))⟩)
   replace b := b.rowNh 3 I1
   refine loopQ (fun s a w => ∃ (O : LI) (z : Int) (f : FV) (R : Hdr), (O, z) = s ∧ a = fr 76 f ∧ f 1 = iV m ∧ f 2 = (pB t) ∧ f 5 = (pB q) ∧ f 8 = R.v ∧ f 43 = y.v ∧ f 44 = iV ([d, g].length : Int) ∧ f 45 = iV z ∧ St w0 (imm I1 h.v d :: imm I1 i.v g :: ros) (box t 26 [j.v] :: row 3 I1 k.v u :: box q 46 [h.v, i.v, k.v] :: row 3 I1 R.v O :: row 22 S1 y.v [d, g] :: rs) w) f9 ⟨_, _, _, _, rfl, rfl, e9, b0, J, rfl, rfl, rfl, rfl, ((b.pk 5 [2, 2, 2, 0, 0] rfl).facts (allC F1 (allC F0 (allT (allT allI)))))⟩ ?_
   rintro _ _ w l9 ⟨O, z, f, R, rfl, rfl, b2, b3, b6, b7, b8, b9, S, b⟩ p g6 m0 g7 g8
   refine sR fun _ g9 => yY (ylss (eh S) (eh b9)) (wK g9 (seqQ fun m1 h0 h1 => ?_))
   rcases iteS p with ⟨T, p⟩ | ⟨T, p⟩
   ·refine cT e0 T (wp_skip (h0 _ _ (sQ fun _ h3 => blockQ fun _ h4 => sR fun _ h5 => ?_)))
    obtain ⟨h6, c0, p⟩ := bs p
    refine yY (yIa SL_24 (eh b8) (eh S) b rO4 c0) ?_
    obtain ⟨D, h7, b⟩ := rLs b rO4 c0
    refine yY (yCe O_22 e0 h7 rfl) (Ya D.v e0 (wK h5 (sR fun _ h8 => yY (lbs_ [j.v] ST_26 (eh b3) b R0) (Ym D.v e0 ?_))))
    obtain ⟨U, h9, p⟩ := bs p
    refine Yc wn rfl (yCall FN_91 (a2 e0 e0)) (graph_Induced_ok h9 (F_3 A) F0 b) ?_
    rintro _ w ⟨E, rfl, b⟩
    refine ⟨_, rfl, ?_⟩
    refine Ym (.tuple #[.agg #[E.v], iV U.2]) e0 (yY (x_ (.agg #[E.v]) e0) (yY (x_ (iV U.2) e0) (YB wn rfl (rAl b ZT_26) ?_)))
    intro m2 w b
    refine YT wn rfl (r_stbn (vals' := [E.v]) (us := [E.v]) b ST_26 e0 e0 rfl rfl (one_of rfl) rfl) ?_
    intro w b
    refine Ya (iV U.2) e0 (wK h8 (sR fun _ i0 => yY (lbs_ [E.v] ST_26 e0 b R0) (Ym (iV m) (eh b2) ?_)))
    obtain ⟨c1, i1, p⟩ := bs p
    replace b := b.pk 2 [1, 0] rfl
    replace b := b.fz
    refine Yc wn rfl (yCall FN_62 (a2 e0 e0)) (d9 i1 F0 b) ?_
    rintro _ w ⟨c2, rfl, b⟩
    refine ⟨_, rfl, ?_⟩
    refine yY (yLen SL_22 e0 b rO0) (Ym (iV 0) rfl (wK i0 (blockQ fun i2 i3 => ?_)))
    obtain ⟨i4, i5, p⟩ := bs p
    have i6 : ∀ (V : LI) (W : Hdr) (f : FV) (w : World), f 1 = iV m → f 2 = (pB t) → f 5 = (pB q) → f 8 = W.v → f 43 = y.v → f 44 = iV ([d, g].length : Int) → f 45 = iV z → St w0 (imm I1 h.v d :: imm I1 i.v g :: ros) (box t 26 [j.v] :: row 3 I1 k.v u :: box q 46 [h.v, i.v, k.v] :: row 3 I1 W.v V :: row 22 S1 y.v [d, g] :: rs) w → V = i4 → i2 (.exit 2) (fr 76 f) w := by
     intro V W f w i7 i8 i9 j0 j3 j4 j5 b ho
     subst ho
     refine i3 _ _ _ (h4 _ _ _ (h3 _ _ (wR (yY (yadd (eh j5) rfl) (Ym (iV (wa .i64 z 1)) e0 (wN ?_))))))
     obtain rfl := someI p
     exact g7 _ _ _ rfl ⟨_, _, _, _, rfl, rfl, i7, i8, i9, j0, j3, j4, rfl, b⟩
    refine loopQ (fun s a w => ∃ (X : LI) (H : Int) (f : FV) (I : Hdr), (X, H) = s ∧ a = fr 76 f ∧ f 1 = iV m ∧ f 2 = (pB t) ∧ f 5 = (pB q) ∧ f 8 = I.v ∧ f 10 = D.v ∧ f 43 = y.v ∧ f 44 = iV ([d, g].length : Int) ∧ f 45 = iV z ∧ f 57 = c2.v ∧ f 58 = iV (c1.length : Int) ∧ f 59 = iV H ∧ St w0 (imm I1 h.v d :: imm I1 i.v g :: imm I1 D.v h6 :: ros) (box t 26 [j.v] :: row 3 I1 k.v u :: box q 46 [h.v, i.v, k.v] :: row 3 I1 I.v X :: row 22 S1 y.v [d, g] :: row 3 I1 c2.v c1 :: rs) w) i5 ⟨_, _, _, _, rfl, rfl, b2, b3, b6, b7, rfl, b8, b9, S, rfl, rfl, rfl, ((b.pk 7 [2, 2, 2, 2, 2, 0] rfl).facts (allC F2 (allC F3 (allC F1 (allT (allT (allT (allT allI))))))))⟩ ?_
    rintro _ _ w m3 ⟨X, H, f, I, rfl, rfl, c3, c4, c5, c6, c7, c8, c9, d0, d1, d2, Z, b⟩ r j6 m4 j7 j8
    refine sR fun _ j9 => yY (ylss (eh Z) (eh d2)) (wK j9 (seqQ fun m5 k0 l0 => ?_))
    rcases iteS r with ⟨a0, r⟩ | ⟨a0, r⟩
    ·refine cT e0 a0 (wp_skip (k0 _ _ (sQ fun _ l1 => blockQ fun _ l2 => sR fun _ l3 => ?_)))
     obtain ⟨d3, d4, r⟩ := bs r
     refine yY (yIa SL_22 (eh d1) (eh Z) b rO5 d4) (yY (yI O_3 e0 b rO5 d4) (Ya (iV d3) e0 (wK l3 (wR (Ym I.v (eh c6) (Ym D.v (eh c7) (Ym (iV d3) e0 ?_)))))))
     obtain ⟨a3, d5, r⟩ := bs r
     refine yY (yIa SL_22 e0 e0 b (rdI F2) d5) (yY (yI O_3 e0 b (rdI F2) d5) (YH wn rfl (rLt (n := 1) (l := [a3]) b SL_22 [iV a3] (bp1 e0) rfl rfl (mks1 (cs := [iV a3]) rfl mkI mks0)) ?_))
     intro m6 w b
     obtain ⟨m7, l4, r⟩ := bs r
     replace b := b.pk 5 [4, 0, 0, 0, 0] rfl
     refine YH wn rfl (rAp b SL_22 e0 e0 rO1 l4) ?_
     intro l5 w b
     refine Ya l5.v e0 (wN (l2 _ _ _ (l1 _ _ (wR (yY (yadd (eh Z) rfl) (Ym (iV (wa .i64 H 1)) e0 (wN ?_)))))))
     obtain rfl := someI r
     exact j7 _ _ _ rfl ⟨_, _, _, _, rfl, rfl, c3, c4, c5, rfl, c7, c8, c9, d0, d1, d2, rfl, (b.pk 7 [2, 2, 2, 0, 1, 1] rfl)⟩
    ·refine cF e0 a0 (wp_exit (l0 _ _ _ rfl ?_))
     obtain rfl := someI r
     exact j8 _ _ _ _ rfl rfl (i6 _ _ _ _ c3 c4 c5 c6 c8 c9 d0 ((b.pk 6 [0, 0, 0, 0, 0] rfl).facts (allC F0 (allC F1 (allT (allT (allT allI)))))) (j6 _ rfl))
   ·refine cF e0 T (wp_exit (h1 _ _ _ rfl ?_))
    obtain rfl := someI p
    exact g8 _ _ _ _ rfl rfl (g0 _ _ _ _ b6 b7 (b.pk 5 [1, 1, 1] rfl) (g6 _ rfl))
 rcases iteS c with ⟨a4, c⟩ | ⟨a4, c⟩
 ·refine cT e0 a4 (wR (yY (lbs_ [j.v] ST_26 e0 b R1) ?_))
  obtain ⟨m8, l6, c⟩ := bs c
  refine Yc wn rfl (yCall FN_56 (a1 e0)) (dissect_separate_ok l6 A b) ?_
  rintro _ w ⟨d6, d7, d8, rfl, b⟩
  refine ⟨_, rfl, ?_⟩
  replace b := b.pk 4 [3, 0, 0, 0] rfl
  refine YT wn rfl (r_stbn (vals' := [d6.v, d7.v, d8.v]) (us := [d6.v, d7.v, d8.v]) b ST_46 e0 e0 rfl rfl (one_of rfl) rfl) ?_
  intro w b
  exact wN (a6 _ _ _ _ _ _ _ _ rfl rfl rfl (b.pk 5 [4, 1, 1, 1, 0] rfl) c)
 ·refine cF e0 a4 (wp_skip ?_)
  replace b := b.rowNh 3 I1
  replace b := b.rowNh 3 I1
  replace b := b.rowNh 3 I1
  exact a6 _ _ _ _ _ _ _ _ rfl rfl rfl (b.pk 5 [4, 2, 1, 0, 0] rfl) c
theorem dissect_dissected_ok_n (n : Nat) : ∀ {w0 : World} {ros : List Fact} {rs : List Res} {w : World} {b : L2} {c : Int} {d : Hdr} {out : LI} (a : dissect_dissected n b c = some out) (f : imm S1 d.v b ∈ ros) (g : St w0 ros rs w),
  Calls Tryz.prog 62 #[.agg #[d.v], iV c] w (fun e w => ∃ (h : Hdr), e = .returned (h.v) ∧ St w0 ros (row 3 I1 h.v out :: rs) w) := by
 induction n with
 | zero => intro _ _ _ _ _ _ _ out a; cases a
 | succ n ih => exact fun a f g => dissect_dissected_step (rec := dissect_dissected n) ih a f g
theorem dissect_dissected_ok {a : L2} {b : Int} {c : Hdr} {out : LI} (f : dissect_dissected FUEL a b = some out) (g : imm S1 c.v a ∈ ros) (h : St w0 ros rs w) :
  Calls Tryz.prog 62 #[.agg #[c.v], iV b] w (fun e w => ∃ (d : Hdr), e = .returned (d.v) ∧ St w0 ros (row 3 I1 d.v out :: rs) w) := dissect_dissected_ok_n FUEL f g h
theorem dissect_Order_ok {m : L2} {b : Int} {g : Hdr} {out : LI × Int} (c : dissect_Order m b = some out) (n : imm S1 g.v m ∈ ros) (a : St w0 ros rs w) :
  Calls Tryz.prog 29 #[.agg #[g.v], iV b] w (fun e w => ∃ (o : Hdr), e = .returned (.tuple #[o.v, iV out.2]) ∧ St w0 ros (row 3 I1 o.v out.1 :: rs) w) := by
 refine enterQ Tryz.func29 rfl Tryz.ntmps29 rfl fun Q i => sR fun _ s => YB wn rfl (r_box (vals := [g.v]) a e0 rfl) ?_
 intro p w a
 refine Ya hnil.v rfl (Ya (iV 0) rfl (wK s (sR fun _ t => yY (lbs_ [g.v] ST_26 e0 a R0) ?_)))
 obtain ⟨h, u, c⟩ := bs c
 refine Yc wn rfl (yCall FN_51 (a1 e0)) (graph_Check_ok u n a) ?_
 rintro _ w ⟨rfl, a⟩
 refine ⟨_, rfl, ?_⟩
 refine Ya (iV h) e0 (wK t (seqQ fun I x q => blockQ fun _ j => sR fun _ y => Ym (iV h) e0 (yY (yneq e0 rfl) (Ya (.bool (!(decide (h = 0)))) e0 (wK y ?_)))))
 rcases iteS c with ⟨k, c⟩ | ⟨k, c⟩
 ·refine condF e0 (nF (dT k)) (sR fun _ z => Ym (iV b) e0 (yY (ylss e0 rfl) (Ym (.bool (decide (b < 1))) e0 ?_)))
  refine joinW 3 (fun f w => f 1 = iV b ∧ f 2 = (pB p) ∧ f 19 = .bool ((decide (b < 1)) || (decide ((200 : Int) < b))) ∧ St w0 ros (box p 26 [g.v] :: rs) w) (fun r => ?_) ?_
  ·rcases Bool.eq_false_or_eq_true (decide (b < 1)) with d | d
   ·exact gN d (gN d (yY (pt_ (.bool true) e0 d rfl) (r _ _ ⟨rfl, rfl, (congrArg Value.bool (orT d)), a⟩)))
   ·exact yG d (m_ (iV b) e0) (yG d (ygtr e0 rfl) (yY (pf_ (.bool (decide ((200 : Int) < b))) e0 d e0) (r _ _ ⟨rfl, rfl, (congrArg Value.bool (orF d)), a⟩)))
  rintro f w ⟨A, B, C, a⟩
  refine Ya (.bool ((decide (b < 1)) || (decide ((200 : Int) < b)))) (eh C) (wK z ?_)
  rcases iteS c with ⟨l, c⟩ | ⟨l, c⟩
  ·refine condT e0 l (sR fun _ D => Ya hnil.v rfl (Ya (iV 1) rfl (wK D (wp_ret (j _ _ _ (q _ _ _ rfl ?_))))))
   obtain rfl := someI c
   replace a := a.rowNh 3 I1
   exact i _ _ _ (fin2r Tryz.results29 ⟨rfl, rfl⟩ ⟨rfl, rfl⟩ ⟨_, rfl, (a.pk 2 [0] rfl)⟩)
  ·refine condF e0 (bfalse l) (wp_skip (j _ _ _ (x _ _ (sR fun _ E => yY (lbs_ [g.v] ST_26 (eh B) a R0) (Ym (iV b) (eh A) ?_)))))
   obtain ⟨J, F, c⟩ := bs c
   refine Yc wn rfl (yCall FN_62 (a2 e0 e0)) (dissect_dissected_ok F n a) ?_
   rintro _ w ⟨G, rfl, a⟩
   refine ⟨_, rfl, ?_⟩
   refine Ya G.v e0 (Ya (iV 0) rfl (wK E (wp_ret ?_)))
   obtain rfl := someI c
   exact i _ _ _ (fin2r Tryz.results29 ⟨rfl, rfl⟩ ⟨rfl, rfl⟩ ⟨_, rfl, (a.pk 2 [0] rfl)⟩)
 ·refine condT e0 (nT (dF k)) (sR fun _ H => Ym (iV h) e0 (Ya hnil.v rfl (Ya (iV h) e0 (wK H (wp_ret (j _ _ _ (q _ _ _ rfl ?_)))))))
  obtain rfl := someI c
  replace a := a.rowNh 3 I1
  exact i _ _ _ (fin2r Tryz.results29 ⟨rfl, rfl⟩ ⟨rfl, rfl⟩ ⟨_, rfl, (a.pk 2 [0] rfl)⟩)
theorem sparsekit_Perm_ok {D : LI} {i : Int} {j : Hdr} {out : Bool} (k : sparsekit_Perm D i = some out) (l : imm I1 j.v D ∈ ros) (b : St w0 ros rs w) :
  Calls Tryz.prog 36 #[j.v, iV i] w (fun e w => e = .returned (.bool out) ∧ St w0 ros rs w) := by
 refine enterQ Tryz.func36 rfl Tryz.ntmps36 rfl fun Q u => sR fun _ a3 => Ya (.bool false) rfl (wK a3 (seqQ fun d5 a4 a5 => sR fun _ a6 => Ym j.v e0 (yY (yLen SL_22 e0 b (rdI l)) (Ym (iV i) e0 (yY (yneq e0 e0) (wN ?_))))))
 refine a6 _ _ ?_
 rcases iteS k with ⟨x, k⟩ | ⟨x, k⟩
 ·refine condF e0 (nF (dT x)) (wp_skip (a4 _ _ (sR fun _ a7 => Ym (iV i) e0 ?_)))
  obtain ⟨d6, a8, k⟩ := bs k
  refine YH wn rfl (rMk b SL_93 e0 a8) ?_
  intro m w b
  refine Ya m.v e0 (wK a7 (seqQ fun d7 a9 b0 => sR fun _ b1 => Ya (iV 0) rfl (wK b1 (blockQ fun E F => ?_))))
  obtain ⟨G, b2, k⟩ := bs k
  have b3 : ∀ (f : FV) (w : World), St w0 ros rs w → .inl () = G → E (.exit 0) (fr 46 f) w := by
   intro f w b ho
   subst ho
   refine F _ _ _ (a9 _ _ (sR fun _ b4 => Ya (.bool true) rfl (wK b4 (wp_ret ?_))))
   obtain rfl := someI k
   exact u _ _ _ (fin1r Tryz.results36 ⟨rfl, rfl⟩ ⟨rfl, b⟩)
  have b5 : ∀ (f : FV) (w : World), f 4 = .bool false → St w0 ros rs w → .inr () = G → E .ret (fr 46 f) w := by
   intro f w b6 b ho
   subst ho
   refine F _ _ _ (b0 _ _ _ rfl ?_)
   obtain rfl := someI k
   exact u _ _ _ (fin1r Tryz.results36 ⟨rfl, b6⟩ ⟨rfl, b⟩)
  refine loopQ (fun s a w => ∃ (p : List Bool) (h : Int) (f : FV), (p, h) = s ∧ a = fr 46 f ∧ f 0 = j.v ∧ f 1 = iV i ∧ f 5 = m.v ∧ f 6 = iV h ∧ St w0 ros (row 4 rB m.v p :: rs) w) b2 ⟨_, _, _, rfl, rfl, rfl, rfl, rfl, rfl, b⟩ ?_
  rintro _ _ w d8 ⟨p, h, f, rfl, rfl, r, t, H, q, b⟩ c I d9 b7 J
  refine seqQ fun e1 b8 b9 => sR fun _ c0 => Ym (iV h) (eh q) (Ym (iV i) (eh t) (yY (ylss e0 e0) (wK c0 ?_)))
  rcases iteS c with ⟨y, c⟩ | ⟨y, c⟩
  ·refine cT e0 y (wp_skip (b8 _ _ (seqQ fun e2 c1 c2 => blockQ fun _ K => seqQ fun e3 c3 c5 => sR fun _ c6 => Ym j.v (eh r) (Ym (iV h) (eh q) ?_))))
   obtain ⟨c7, L, c⟩ := bs c
   refine yY (yIa SL_22 e0 e0 b (rdI l) L) (yY (yI O_3 e0 b (rdI l) L) (yY (ylss e0 rfl) (Ym (.bool (decide (c7 < 0))) e0 ?_)))
   obtain ⟨N, o, c⟩ := bs c
   refine joinW 7 (fun f w => f 0 = j.v ∧ f 1 = iV i ∧ f 5 = m.v ∧ f 6 = iV h ∧ f 30 = .bool N ∧ St w0 ros (row 4 rB m.v p :: rs) w) (fun O => ?_) ?_
   ·rcases iteS o with ⟨g, o⟩ | ⟨g, o⟩
    ·refine gN (dT g) (gN (dT g) (gN (dT g) (gN (dT g) (gN (dT g) (gN (dT g) (yY (pt_ (.bool true) e0 (dT g) rfl) ?_))))))
     obtain rfl := someI o
     exact O _ _ ⟨r, t, H, q, rfl, b⟩
    ·refine yG (dF g) (m_ j.v (eh r)) (yG (dF g) (m_ (iV h) (eh q)) ?_)
     obtain ⟨c8, R, o⟩ := bs o
     refine yG (dF g) (yIa SL_22 e0 e0 b (rdI l) R) (yG (dF g) (yI O_3 e0 b (rdI l) R) (yG (dF g) (m_ (iV i) (eh t)) (yG (dF g) (ygeq e0 e0) (yY (pf_ (.bool (decide (i ≤ c8))) e0 (dF g) e0) ?_))))
     obtain rfl := someI o
     exact O _ _ ⟨r, t, H, q, rfl, b⟩
   rintro f w ⟨z, S, A, B, c9, b⟩
   refine Ym (.bool N) (eh c9) ?_
   obtain ⟨d0, n, c⟩ := bs c
   refine joinW 8 (fun f w => f 0 = j.v ∧ f 1 = iV i ∧ f 5 = m.v ∧ f 6 = iV h ∧ f 39 = .bool d0 ∧ St w0 ros (row 4 rB m.v p :: rs) w) (fun T => ?_) ?_
   ·rcases iteS n with ⟨d, n⟩ | ⟨d, n⟩
    ·refine gN d (gN d (gN d (gN d (gN d (gN d (gN d (yY (pt_ (.bool true) e0 d rfl) ?_)))))))
     obtain rfl := someI n
     exact T _ _ ⟨z, S, A, B, rfl, b⟩
    ·refine yG (bfalse d) (m_ m.v (eh A)) (yG (bfalse d) (m_ j.v (eh z)) (yG (bfalse d) (m_ (iV h) (eh B)) ?_))
     obtain ⟨e4, U, n⟩ := bs n
     refine yG (bfalse d) (yIa SL_22 e0 e0 b (rdI l) U) (yG (bfalse d) (yI O_3 e0 b (rdI l) U) ?_)
     obtain ⟨d1, V, n⟩ := bs n
     refine yG (bfalse d) (yIa SL_93 e0 e0 b rO0 V) (yG (bfalse d) (yB O_4 e0 b rO0 V) (yY (pf_ (.bool d1) e0 (bfalse d) e0) ?_))
     obtain rfl := someI n
     exact T _ _ ⟨z, S, A, B, rfl, b⟩
   rintro f w ⟨W, d2, X, Z, a0, b⟩
   refine wK c6 ?_
   rcases iteS c with ⟨C, c⟩ | ⟨C, c⟩
   ·refine condT (eh a0) C (sR fun _ d3 => Ya (.bool false) rfl (wK d3 (wp_ret (c5 _ _ _ rfl (K _ _ _ (c2 _ _ _ rfl ?_))))))
    obtain rfl := someI c
    exact J _ _ _ _ rfl rfl (b5 _ _ rfl (b.pk 1 [] rfl) (I _ rfl))
   ·refine condF (eh a0) (bfalse C) (wp_skip (c3 _ _ (wR (Ym m.v (eh X) (Ym j.v (eh W) (Ym (iV h) (eh Z) ?_))))))
    obtain ⟨e5, a1, c⟩ := bs c
    refine yY (yIa SL_22 e0 e0 b (rdI l) a1) (yY (yI O_3 e0 b (rdI l) a1) ?_)
    obtain ⟨e6, a2, c⟩ := bs c
    refine yY (yIs SL_93 e0 e0 b rO0 a2) (YT wn rfl (r_sti (cs := [.bool true]) b O_4 rfl e0 rfl rfl mkB a2) ?_)
    intro w b
    refine wN (K _ _ _ (c1 _ _ (wR (Ym (iV h) (eh Z) (yY (yadd e0 rfl) (Ya (iV (wa .i64 h 1)) e0 (wN ?_)))))))
    obtain rfl := someI c
    exact b7 _ _ _ rfl ⟨_, _, _, rfl, rfl, W, d2, X, rfl, b⟩
  ·refine cF e0 y (wp_exit (b9 _ _ _ rfl ?_))
   obtain rfl := someI c
   exact J _ _ _ _ rfl rfl (b3 _ _ (b.pk 1 [] rfl) (I _ rfl))
 ·refine condT e0 (nT (dF x)) (sR fun _ d4 => Ya (.bool false) rfl (wK d4 (wp_ret (a5 _ _ _ rfl ?_))))
  obtain rfl := someI k
  exact u _ _ _ (fin1r Tryz.results36 ⟨rfl, rfl⟩ ⟨rfl, b⟩)
theorem sparsekit_In_ok {o : LI} {h : Int} {g : Hdr} {out : Bool} (i : sparsekit_In o h = some out) (j : imm I1 g.v o ∈ ros) (b : St w0 ros rs w) :
  Calls Tryz.prog 37 #[g.v, iV h] w (fun e w => e = .returned (.bool out) ∧ St w0 ros rs w) := by
 refine enterQ Tryz.func37 rfl Tryz.ntmps37 rfl fun Q p => sR fun _ B => Ya (.bool false) rfl (wK B (seqQ fun V C D => sR fun _ E => Ya (iV 0) rfl (wK E (blockQ fun q r => ?_))))
 obtain ⟨t, F, i⟩ := bs i
 have G : ∀ (f : FV) (w : World), St w0 ros rs w → .inl () = t → q (.exit 0) (fr 18 f) w := by
  intro f w b ho
  subst ho
  refine r _ _ _ (C _ _ (sR fun _ H => Ya (.bool false) rfl (wK H (wp_ret ?_))))
  obtain rfl := someI i
  exact p _ _ _ (fin1r Tryz.results37 ⟨rfl, rfl⟩ ⟨rfl, b⟩)
 have I : ∀ (f : FV) (w : World), f 4 = .bool true → St w0 ros rs w → .inr () = t → q .ret (fr 18 f) w := by
  intro f w J b ho
  subst ho
  refine r _ _ _ (D _ _ _ rfl ?_)
  obtain rfl := someI i
  exact p _ _ _ (fin1r Tryz.results37 ⟨rfl, J⟩ ⟨rfl, b⟩)
 refine loopQ (fun s a w => ∃ (d : Int) (f : FV), d = s ∧ a = fr 18 f ∧ f 0 = g.v ∧ f 1 = iV h ∧ f 5 = iV d ∧ St w0 ros rs w) F ⟨_, _, rfl, rfl, rfl, rfl, rfl, b⟩ ?_
 rintro _ _ w W ⟨d, f, rfl, rfl, k, u, l, b⟩ c x X K y
 refine seqQ fun Z L N => sR fun _ O => Ym (iV d) (eh l) (Ym g.v (eh k) (yY (yLen SL_22 e0 b (rdI j)) (yY (ylss e0 e0) (wK O ?_))))
 rcases iteS c with ⟨m, c⟩ | ⟨m, c⟩
 ·refine cT e0 m (wp_skip (L _ _ (seqQ fun a0 R S => blockQ fun _ z => sR fun _ T => Ym g.v (eh k) (Ym (iV d) (eh l) ?_))))
  obtain ⟨a1, A, c⟩ := bs c
  refine yY (yIa SL_22 e0 e0 b (rdI j) A) (yY (yI O_3 e0 b (rdI j) A) (Ym (iV h) (eh u) (yY (yeql e0 e0) (wK T ?_))))
  rcases iteS c with ⟨n, c⟩ | ⟨n, c⟩
  ·refine cT e0 n (sR fun _ U => Ya (.bool true) rfl (wK U (wp_ret (z _ _ _ (S _ _ _ rfl ?_)))))
   obtain rfl := someI c
   exact y _ _ _ _ rfl rfl (I _ _ rfl b (x _ rfl))
  ·refine cF e0 n (wp_skip (z _ _ _ (R _ _ (wR (Ym (iV d) (eh l) (yY (yadd e0 rfl) (Ya (iV (wa .i64 d 1)) e0 (wN ?_))))))))
   obtain rfl := someI c
   exact K _ _ _ rfl ⟨_, _, rfl, rfl, k, u, rfl, b⟩
 ·refine cF e0 m (wp_exit (N _ _ _ rfl ?_))
  obtain rfl := someI c
  exact y _ _ _ _ rfl rfl (G _ _ b (x _ rfl))
theorem sparsekit_Ascending_ok {n : LI} {g : Hdr} {out : Bool} (i : sparsekit_Ascending n = some out) (h : imm I1 g.v n ∈ ros) (b : St w0 ros rs w) :
  Calls Tryz.prog 66 #[g.v] w (fun e w => e = .returned (.bool out) ∧ St w0 ros rs w) := by
 refine enterQ Tryz.func66 rfl Tryz.ntmps66 rfl fun Q o => sR fun _ A => Ya (.bool false) rfl (wK A (seqQ fun U B C => sR fun _ D => Ya (iV 1) rfl (wK D (blockQ fun p q => ?_))))
 obtain ⟨r, E, i⟩ := bs i
 have F : ∀ (f : FV) (w : World), St w0 ros rs w → .inl () = r → p (.exit 0) (fr 20 f) w := by
  intro f w b ho
  subst ho
  refine q _ _ _ (B _ _ (sR fun _ G => Ya (.bool true) rfl (wK G (wp_ret ?_))))
  obtain rfl := someI i
  exact o _ _ _ (fin1r Tryz.results66 ⟨rfl, rfl⟩ ⟨rfl, b⟩)
 have H : ∀ (f : FV) (w : World), f 2 = .bool false → St w0 ros rs w → .inr () = r → p .ret (fr 20 f) w := by
  intro f w I b ho
  subst ho
  refine q _ _ _ (C _ _ _ rfl ?_)
  obtain rfl := someI i
  exact o _ _ _ (fin1r Tryz.results66 ⟨rfl, I⟩ ⟨rfl, b⟩)
 refine loopQ (fun s a w => ∃ (d : Int) (f : FV), d = s ∧ a = fr 20 f ∧ f 0 = g.v ∧ f 3 = iV d ∧ St w0 ros rs w) E ⟨_, _, rfl, rfl, rfl, rfl, b⟩ ?_
 rintro _ _ w V ⟨d, f, rfl, rfl, j, k, b⟩ c t W J u
 refine seqQ fun X K L => sR fun _ N => Ym (iV d) (eh k) (Ym g.v (eh j) (yY (yLen SL_22 e0 b (rdI h)) (yY (ylss e0 e0) (wK N ?_))))
 rcases iteS c with ⟨l, c⟩ | ⟨l, c⟩
 ·refine cT e0 l (wp_skip (K _ _ (seqQ fun Z O R => blockQ fun _ x => sQ fun _ S => ?_)))
  obtain ⟨a0, y, c⟩ := bs c
  obtain ⟨a1, z, c⟩ := bs c
  refine dR [0, 0, 3, 7, 0, 0, 32, 112, 240, 511] [] 0 folM ?_
  replace b := b.drew
  refine Dz [0, 1, 2, 3, 4, 5, 6, 7, 8, 9] [] (yR rfl (m_ g.v (eh j)) (yR rfl (m_ (iV d) (eh k)) (yR rfl (yIa SL_22 e0 e0 b (rdI h) y) (yR rfl (yI O_3 e0 b (rdI h) y) (yR rfl (m_ g.v (eh j)) (yR rfl (m_ (iV d) (eh k)) (yR rfl (ysub e0 rfl) (yR rfl (yIa SL_22 e0 e0 b (rdI h) z) (yR rfl (yI O_3 e0 b (rdI h) z) (yR rfl (yleq e0 e0) (Rn QSn (S _ _ ?_))))))))))))
  rcases iteS c with ⟨m, c⟩ | ⟨m, c⟩
  ·refine cT e0 m (sR fun _ T => Ya (.bool false) rfl (wK T (wp_ret (x _ _ _ (R _ _ _ rfl ?_)))))
   obtain rfl := someI c
   exact u _ _ _ _ rfl rfl (H _ _ rfl b (t _ rfl))
  ·refine cF e0 m (wp_skip (x _ _ _ (O _ _ (wR (Ym (iV d) (eh k) (yY (yadd e0 rfl) (Ya (iV (wa .i64 d 1)) e0 (wN ?_))))))))
   obtain rfl := someI c
   exact J _ _ _ rfl ⟨_, _, rfl, rfl, j, rfl, b⟩
 ·refine cF e0 l (wp_exit (L _ _ _ rfl ?_))
  obtain rfl := someI c
  exact u _ _ _ _ rfl rfl (F _ _ b (t _ rfl))
theorem sparseref12_Check_ok {h : L2} {k : Hdr} {out : Int} (r : sparseref12_Check h = some out) (p : imm S1 k.v h ∈ ros) (b : St w0 ros rs w) :
  Calls Tryz.prog 54 #[.agg #[k.v]] w (fun e w => e = .returned (iV out) ∧ St w0 ros rs w) := by
 refine enterQ Tryz.func54 rfl Tryz.ntmps54 rfl fun Q z => sR fun _ c1 => YB wn rfl (r_box (vals := [k.v]) b e0 rfl) ?_
 intro l w b
 refine Ya (iV 0) rfl (wK c1 (sR fun _ c2 => yY (yFb FL_26_0 e0) (yY (lb_ k.v O_24 e0 b R0) (yY (yLen SL_24 e0 b (rdI p)) (Ya (iV (h.length : Int)) e0 (wK c2 (seqQ fun h4 c3 c5 => sR fun _ c6 => ?_)))))))
 refine Ym (iV (h.length : Int)) e0 (yY (ygtr e0 rfl) (wK c6 ?_))
 rcases iteS r with ⟨A, r⟩ | ⟨A, r⟩
 ·refine cT e0 A (sR fun _ c7 => Ya (iV 6) rfl (wK c7 (wp_ret (c5 _ _ _ rfl ?_))))
  obtain rfl := someI r
  exact z _ _ _ (fin1r Tryz.results54 ⟨rfl, rfl⟩ ⟨rfl, (b.pk 1 [] rfl)⟩)
 ·refine cF e0 A (wp_skip (c3 _ _ (seqQ fun h5 c8 c9 => sR fun _ d0 => Ya (iV 0) rfl (wK d0 (blockQ fun O R => ?_)))))
  obtain ⟨S, d1, r⟩ := bs r
  have d2 : ∀ (f : FV) (w : World), St w0 ros rs w → .inl () = S → O (.exit 0) (fr 64 f) w := by
   intro f w b ho
   subst ho
   refine R _ _ _ (c8 _ _ (sR fun _ d3 => Ya (iV 0) rfl (wK d3 (wp_ret ?_))))
   obtain rfl := someI r
   exact z _ _ _ (fin1r Tryz.results54 ⟨rfl, rfl⟩ ⟨rfl, b⟩)
  have T : ∀ (f : FV) (w : World), f 2 = iV 1 → St w0 ros rs w → .inr () = S → O .ret (fr 64 f) w := by
   intro f w d4 b ho
   subst ho
   refine R _ _ _ (c9 _ _ _ rfl ?_)
   obtain rfl := someI r
   exact z _ _ _ (fin1r Tryz.results54 ⟨rfl, d4⟩ ⟨rfl, b⟩)
  refine loopQ (fun s a w => ∃ (d : Int) (f : FV), d = s ∧ a = fr 64 f ∧ f 1 = (pB l) ∧ f 3 = iV (h.length : Int) ∧ f 4 = iV d ∧ St w0 ros (box l 26 [k.v] :: rs) w) d1 ⟨_, _, rfl, rfl, rfl, rfl, rfl, b⟩ ?_
  rintro _ _ w h6 ⟨d, f, rfl, rfl, U, V, B, b⟩ j C h7 d5 D
  refine seqQ fun h8 d6 d7 => sR fun _ d8 => Ym (iV d) (eh B) (Ym (iV (h.length : Int)) (eh V) (yY (ylss e0 e0) (wK d8 ?_)))
  rcases iteS j with ⟨E, j⟩ | ⟨E, j⟩
  ·refine cT e0 E (wp_skip (d6 _ _ (seqQ fun h9 d9 W => blockQ fun _ F => seqQ fun i0 e1 e2 => sR fun _ e3 => yY (yFb FL_26_0 (eh U)) (yY (lb_ k.v O_24 e0 b R0) (Ym (iV d) (eh B) ?_)))))
   obtain ⟨i1, X, j⟩ := bs j
   refine yY (yIa SL_24 e0 e0 b (rdI p) X) ?_
   obtain ⟨i2, b⟩ := iLs b p X
   refine yY (yCt O_22 e0 b F1 rfl) ?_
   obtain ⟨i3, e4, j⟩ := bs j
   refine Yc wn rfl (yCall FN_66 (a1 e0)) (sparsekit_Ascending_ok e4 F0 b) ?_
   rintro _ w ⟨rfl, b⟩
   refine ⟨_, rfl, ?_⟩
   refine yY (ynot e0) (wK e3 ?_)
   rcases iteS j with ⟨G, j⟩ | ⟨G, j⟩
   ·refine condF e0 (nF G) (wp_skip (e1 _ _ (sR fun _ e5 => Ya (iV 0) rfl (wK e5 (blockQ fun Z a0 => ?_)))))
    obtain ⟨a3, e6, j⟩ := bs j
    have e7 : ∀ (f : FV) (w : World), f 1 = (pB l) → f 3 = iV (h.length : Int) → f 4 = iV d → St w0 ros (box l 26 [k.v] :: rs) w → .inl () = a3 → Z (.exit 2) (fr 64 f) w := by
     intro f w e8 e9 f0 b ho
     subst ho
     refine a0 _ _ _ (F _ _ _ (d9 _ _ (wR (Ym (iV d) (eh f0) (yY (yadd e0 rfl) (Ya (iV (wa .i64 d 1)) e0 (wN ?_)))))))
     obtain rfl := someI j
     exact d5 _ _ _ rfl ⟨_, _, rfl, rfl, e8, e9, rfl, b⟩
    have f1 : ∀ (f : FV) (w : World), f 2 = iV 1 → St w0 ros rs w → .inr () = a3 → Z .ret (fr 64 f) w := by
     intro f w f2 b ho
     subst ho
     refine a0 _ _ _ (F _ _ _ (W _ _ _ rfl ?_))
     obtain rfl := someI j
     exact D _ _ _ _ rfl rfl (T _ _ f2 b (C _ rfl))
    refine loopQ (fun s a w => ∃ (o : Int) (f : FV), o = s ∧ a = fr 64 f ∧ f 1 = (pB l) ∧ f 3 = iV (h.length : Int) ∧ f 4 = iV d ∧ f 5 = iV o ∧ St w0 ros (box l 26 [k.v] :: rs) w) e6 ⟨_, _, rfl, rfl, U, V, B, rfl, (b.facts (allT (allT allI)))⟩ ?_
    rintro _ _ w i4 ⟨o, f, rfl, rfl, t, x, u, y, b⟩ i a4 i5 f3 a5
    refine seqQ fun i6 f4 f5 => sR fun _ f6 => Ym (iV o) (eh y) (yY (yFb FL_26_0 (eh t)) (yY (lb_ k.v O_24 e0 b R0) (Ym (iV d) (eh u) ?_)))
    obtain ⟨i7, a6, i⟩ := bs i
    refine yY (yIa SL_24 e0 e0 b (rdI p) a6) ?_
    obtain ⟨i8, b⟩ := iLs b p a6
    refine yY (yCt O_22 e0 b F1 rfl) (yY (yLen SL_22 e0 b (rdI F0)) (yY (ylss e0 e0) (wK f6 ?_)))
    rcases iteS i with ⟨H, i⟩ | ⟨H, i⟩
    ·refine cT e0 H (wp_skip (f4 _ _ (seqQ fun i9 f7 f8 => blockQ fun _ a7 => sR fun _ f9 => yY (yFb FL_26_0 (eh t)) (yY (lb_ k.v O_24 e0 b R0) (Ym (iV d) (eh u) ?_)))))
     obtain ⟨j0, a8, i⟩ := bs i
     refine yY (yIa SL_24 e0 e0 b (rdI (F_2 p)) a8) ?_
     obtain ⟨j1, b⟩ := iLs b (F_2 p) a8
     refine yY (yCt O_22 e0 b F1 rfl) (Ym (iV o) (eh y) ?_)
     obtain ⟨c, a9, i⟩ := bs i
     refine yY (yIa SL_22 e0 e0 b (rdI F0) a9) (yY (yI O_3 e0 b (rdI F0) a9) (Ya (iV c) e0 (wK f9 (sR fun _ g0 => Ym (iV c) e0 (yY (ylss e0 rfl) (Ym (.bool (decide (c < 0))) e0 ?_))))))
     refine joinW 4 (fun f w => f 1 = (pB l) ∧ f 3 = iV (h.length : Int) ∧ f 4 = iV d ∧ f 5 = iV o ∧ f 6 = iV c ∧ f 48 = .bool ((decide (c < 0)) || (decide ((h.length : Int) ≤ c))) ∧ St w0 ros (box l 26 [k.v] :: rs) w) (fun b0 => ?_) ?_
     ·rcases Bool.eq_false_or_eq_true (decide (c < 0)) with m | m
      ·exact gN m (gN m (gN m (yY (pt_ (.bool true) e0 m rfl) (b0 _ _ ⟨t, x, u, y, rfl, (congrArg Value.bool (orT m)), (b.facts (allT (allT (allT (allT allI)))))⟩))))
      ·exact yG m (m_ (iV c) e0) (yG m (m_ (iV (h.length : Int)) (eh x)) (yG m (ygeq e0 e0) (yY (pf_ (.bool (decide ((h.length : Int) ≤ c))) e0 m e0) (b0 _ _ ⟨t, x, u, y, rfl, (congrArg Value.bool (orF m)), (b.facts (allT (allT (allT (allT allI)))))⟩))))
     rintro f w ⟨b1, b2, I, b4, J, g1, b⟩
     refine Ym (.bool ((decide (c < 0)) || (decide ((h.length : Int) ≤ c)))) (eh g1) ?_
     refine joinW 4 (fun f w => f 1 = (pB l) ∧ f 3 = iV (h.length : Int) ∧ f 4 = iV d ∧ f 5 = iV o ∧ f 6 = iV c ∧ f 53 = .bool (((decide (c < 0)) || (decide ((h.length : Int) ≤ c))) || (decide (c = d))) ∧ St w0 ros (box l 26 [k.v] :: rs) w) (fun b5 => ?_) ?_
     ·rcases Bool.eq_false_or_eq_true ((decide (c < 0)) || (decide ((h.length : Int) ≤ c))) with n | n
      ·exact gN n (gN n (gN n (yY (pt_ (.bool true) e0 n rfl) (b5 _ _ ⟨b1, b2, I, b4, J, (congrArg Value.bool (orT n)), b⟩))))
      ·exact yG n (m_ (iV c) (eh J)) (yG n (m_ (iV d) (eh I)) (yG n (yeql e0 e0) (yY (pf_ (.bool (decide (c = d))) e0 n e0) (b5 _ _ ⟨b1, b2, I, b4, J, (congrArg Value.bool (orF n)), b⟩))))
     rintro f w ⟨K, b6, L, b7, g2, g3, b⟩
     refine Ym (.bool (((decide (c < 0)) || (decide ((h.length : Int) ≤ c))) || (decide (c = d)))) (eh g3) ?_
     obtain ⟨g4, q, i⟩ := bs i
     refine joinW 9 (fun f w => f 1 = (pB l) ∧ f 3 = iV (h.length : Int) ∧ f 4 = iV d ∧ f 5 = iV o ∧ f 63 = .bool g4 ∧ St w0 ros (box l 26 [k.v] :: rs) w) (fun b8 => ?_) ?_
     ·rcases iteS q with ⟨g, q⟩ | ⟨g, q⟩
      ·refine gN g (gN g (gN g (gN g (gN g (gN g (gN g (gN g (yY (pt_ (.bool true) e0 g rfl) ?_))))))))
       obtain rfl := someI q
       exact b8 _ _ ⟨K, b6, L, b7, rfl, b⟩
      ·refine yG (bfalse g) (yFb FL_26_0 (eh K)) (yG (bfalse g) (lb_ k.v O_24 e0 b R0) (yG (bfalse g) (m_ (iV c) (eh g2)) ?_))
       obtain ⟨j2, b9, q⟩ := bs q
       refine yG (bfalse g) (yIa SL_24 e0 e0 b (rdI p) b9) ?_
       obtain ⟨j3, b⟩ := iLs b p b9
       refine yG (bfalse g) (yCt O_22 e0 b F1 rfl) (yG (bfalse g) (m_ (iV d) (eh L)) ?_)
       obtain ⟨g5, g6, q⟩ := bs q
       refine Yc (wG (bfalse g)) rfl (yCall FN_37 (a2 e0 e0)) (sparsekit_In_ok g6 F0 b) ?_
       rintro _ w ⟨rfl, b⟩
       refine ⟨_, rfl, ?_⟩
       refine yG (bfalse g) (ynot e0) (yY (pf_ (.bool (!g5)) e0 (bfalse g) e0) ?_)
       obtain rfl := someI q
       exact b8 _ _ ⟨K, b6, L, b7, rfl, (b.facts (allT (allT allI)))⟩
     rintro f w ⟨g7, g8, g9, h0, c0, b⟩
     refine wK g0 ?_
     rcases iteS i with ⟨N, i⟩ | ⟨N, i⟩
     ·refine condT (eh c0) N (sR fun _ h1 => Ya (iV 1) rfl (wK h1 (wp_ret (a7 _ _ _ (f8 _ _ _ rfl ?_)))))
      obtain rfl := someI i
      exact a5 _ _ _ _ rfl rfl (f1 _ _ rfl (b.pk 1 [] rfl) (a4 _ rfl))
     ·refine condF (eh c0) (bfalse N) (wp_skip (a7 _ _ _ (f7 _ _ (wR (Ym (iV o) (eh h0) (yY (yadd e0 rfl) (Ya (iV (wa .i64 o 1)) e0 (wN ?_))))))))
      obtain rfl := someI i
      exact f3 _ _ _ rfl ⟨_, _, rfl, rfl, g7, g8, g9, rfl, b⟩
    ·refine cF e0 H (wp_exit (f5 _ _ _ rfl ?_))
     obtain rfl := someI i
     exact a5 _ _ _ _ rfl rfl (e7 _ _ t x u (b.facts (allT (allT allI))) (a4 _ rfl))
   ·refine condT e0 (nT (bfalse G)) (sR fun _ h3 => Ya (iV 1) rfl (wK h3 (wp_ret (e2 _ _ _ rfl (F _ _ _ (W _ _ _ rfl ?_))))))
    obtain rfl := someI j
    exact D _ _ _ _ rfl rfl (T _ _ rfl ((b.pk 1 [] rfl).facts (allT (allT allI))) (C _ rfl))
  ·refine cF e0 E (wp_exit (d7 _ _ _ rfl ?_))
   obtain rfl := someI j
   exact D _ _ _ _ rfl rfl (d2 _ _ (b.pk 1 [] rfl) (C _ rfl))
theorem sparseref09_Range_ok {r : LI} {j : Int} {h : Hdr} {out : Bool} (n : sparseref09_Range r j = some out) (k : imm I1 h.v r ∈ ros) (b : St w0 ros rs w) :
  Calls Tryz.prog 68 #[h.v, iV j] w (fun e w => e = .returned (.bool out) ∧ St w0 ros rs w) := by
 refine enterQ Tryz.func68 rfl Tryz.ntmps68 rfl fun Q t => sR fun _ G => Ya (.bool false) rfl (wK G (seqQ fun a7 H I => sR fun _ J => Ya (iV 0) rfl (wK J (blockQ fun u x => ?_))))
 obtain ⟨y, K, n⟩ := bs n
 have L : ∀ (f : FV) (w : World), St w0 ros rs w → .inl () = y → u (.exit 0) (fr 25 f) w := by
  intro f w b ho
  subst ho
  refine x _ _ _ (H _ _ (sR fun _ N => Ya (.bool true) rfl (wK N (wp_ret ?_))))
  obtain rfl := someI n
  exact t _ _ _ (fin1r Tryz.results68 ⟨rfl, rfl⟩ ⟨rfl, b⟩)
 have O : ∀ (f : FV) (w : World), f 4 = .bool false → St w0 ros rs w → .inr () = y → u .ret (fr 25 f) w := by
  intro f w R b ho
  subst ho
  refine x _ _ _ (I _ _ _ rfl ?_)
  obtain rfl := someI n
  exact t _ _ _ (fin1r Tryz.results68 ⟨rfl, R⟩ ⟨rfl, b⟩)
 refine loopQ (fun s a w => ∃ (g : Int) (f : FV), g = s ∧ a = fr 25 f ∧ f 0 = h.v ∧ f 1 = iV j ∧ f 5 = iV g ∧ St w0 ros rs w) K ⟨_, _, rfl, rfl, rfl, rfl, rfl, b⟩ ?_
 rintro _ _ w a8 ⟨g, f, rfl, rfl, l, o, m, b⟩ d z a9 S A
 refine seqQ fun b0 T U => sR fun _ V => Ym (iV g) (eh m) (Ym h.v (eh l) (yY (yLen SL_22 e0 b (rdI k)) (yY (ylss e0 e0) (wK V ?_))))
 rcases iteS d with ⟨p, d⟩ | ⟨p, d⟩
 ·refine cT e0 p (wp_skip (T _ _ (seqQ fun b1 W X => blockQ fun _ B => sR fun _ Z => Ym h.v (eh l) (Ym (iV g) (eh m) ?_))))
  obtain ⟨a0, C, d⟩ := bs d
  refine yY (yIa SL_22 e0 e0 b (rdI k) C) (yY (yI O_3 e0 b (rdI k) C) (yY (ylss e0 rfl) (Ym (.bool (decide (a0 < 0))) e0 ?_)))
  obtain ⟨a1, i, d⟩ := bs d
  refine joinW 7 (fun f w => f 0 = h.v ∧ f 1 = iV j ∧ f 5 = iV g ∧ f 24 = .bool a1 ∧ St w0 ros rs w) (fun D => ?_) ?_
  ·rcases iteS i with ⟨c, i⟩ | ⟨c, i⟩
   ·refine gN (dT c) (gN (dT c) (gN (dT c) (gN (dT c) (gN (dT c) (gN (dT c) (yY (pt_ (.bool true) e0 (dT c) rfl) ?_))))))
    obtain rfl := someI i
    exact D _ _ ⟨l, o, m, rfl, b⟩
   ·refine yG (dF c) (m_ h.v (eh l)) (yG (dF c) (m_ (iV g) (eh m)) ?_)
    obtain ⟨a2, E, i⟩ := bs i
    refine yG (dF c) (yIa SL_22 e0 e0 b (rdI k) E) (yG (dF c) (yI O_3 e0 b (rdI k) E) (yG (dF c) (m_ (iV j) (eh o)) (yG (dF c) (ygeq e0 e0) (yY (pf_ (.bool (decide (j ≤ a2))) e0 (dF c) e0) ?_))))
    obtain rfl := someI i
    exact D _ _ ⟨l, o, m, rfl, b⟩
  rintro f w ⟨a3, a4, a5, F, b⟩
  refine wK Z ?_
  rcases iteS d with ⟨q, d⟩ | ⟨q, d⟩
  ·refine condT (eh F) q (sR fun _ a6 => Ya (.bool false) rfl (wK a6 (wp_ret (B _ _ _ (X _ _ _ rfl ?_)))))
   obtain rfl := someI d
   exact A _ _ _ _ rfl rfl (O _ _ rfl b (z _ rfl))
  ·refine condF (eh F) (bfalse q) (wp_skip (B _ _ _ (W _ _ (wR (Ym (iV g) (eh a5) (yY (yadd e0 rfl) (Ya (iV (wa .i64 g 1)) e0 (wN ?_))))))))
   obtain rfl := someI d
   exact S _ _ _ rfl ⟨_, _, rfl, rfl, a3, a4, rfl, b⟩
 ·refine cF e0 p (wp_exit (U _ _ _ rfl ?_))
  obtain rfl := someI d
  exact A _ _ _ _ rfl rfl (L _ _ b (z _ rfl))
theorem sparseref09_Twice_ok {n : LI} {g : Hdr} {out : Bool} (i : sparseref09_Twice n = some out) (h : imm I1 g.v n ∈ ros) (b : St w0 ros rs w) :
  Calls Tryz.prog 69 #[g.v] w (fun e w => e = .returned (.bool out) ∧ St w0 ros rs w) := by
 refine enterQ Tryz.func69 rfl Tryz.ntmps69 rfl fun Q o => sR fun _ k1 => Ya (.bool false) rfl (wK k1 (seqQ fun U A B => sR fun _ C => Ya (iV 0) rfl (wK C (blockQ fun p q => ?_))))
 obtain ⟨r, D, i⟩ := bs i
 have E : ∀ (f : FV) (w : World), St w0 ros rs w → .inl () = r → p (.exit 0) (fr 18 f) w := by
  intro f w b ho
  subst ho
  refine q _ _ _ (A _ _ (sR fun _ F => Ya (.bool false) rfl (wK F (wp_ret ?_))))
  obtain rfl := someI i
  exact o _ _ _ (fin1r Tryz.results69 ⟨rfl, rfl⟩ ⟨rfl, b⟩)
 have G : ∀ (f : FV) (w : World), f 2 = .bool true → St w0 ros rs w → .inr () = r → p .ret (fr 18 f) w := by
  intro f w H b ho
  subst ho
  refine q _ _ _ (B _ _ _ rfl ?_)
  obtain rfl := someI i
  exact o _ _ _ (fin1r Tryz.results69 ⟨rfl, H⟩ ⟨rfl, b⟩)
 refine loopQ (fun s a w => ∃ (d : Int) (f : FV), d = s ∧ a = fr 18 f ∧ f 0 = g.v ∧ f 3 = iV d ∧ St w0 ros rs w) D ⟨_, _, rfl, rfl, rfl, rfl, b⟩ ?_
 rintro _ _ w V ⟨d, f, rfl, rfl, j, k, b⟩ c t W I u
 refine seqQ fun X J K => sR fun _ L => Ym (iV d) (eh k) (Ym g.v (eh j) (yY (yLen SL_22 e0 b (rdI h)) (yY (ylss e0 e0) (wK L ?_))))
 rcases iteS c with ⟨l, c⟩ | ⟨l, c⟩
 ·refine cT e0 l (wp_skip (J _ _ (seqQ fun Z N O => blockQ fun _ x => sQ fun _ R => ?_)))
  obtain ⟨a0, y, c⟩ := bs c
  obtain ⟨a1, z, c⟩ := bs c
  obtain ⟨a3, S, c⟩ := bs c
  refine dR [0, 0, 3, 0, 0, 24, 56, 127] [7] 1 folM ?_
  replace b := b.drew
  refine Dn [0, 1, 2, 3, 4, 5, 6] [] [7] (yR rfl (m_ g.v (eh j)) (yR rfl (m_ (iV d) (eh k)) (yR rfl (ySl (k1 := .i64) SL_22 e0 b (rdI h) (.inr ⟨rfl, rfl⟩) (.inl (congrArg some e0)) y) ?_)))
  replace b := b.sub h y
  refine yR rfl (m_ g.v (eh j)) (yR rfl (m_ (iV d) (eh k)) (yR rfl (yIa SL_22 e0 e0 b (rdI (mtF h)) z) (yR rfl (yI O_3 e0 b (rdI (mtF h)) z) (Rn QSn ?_))))
  refine Lc1 rfl ?_
  refine Lk wn (yCall FN_37 (a2 e0 e0)) (sparsekit_In_ok S F0 b) ?_
  rintro _ w ⟨rfl, b⟩
  refine ⟨_, rfl, ?_⟩
  refine Dz [] [] (Rn QSn (R _ _ ?_))
  rcases iteS c with ⟨m, c⟩ | ⟨m, c⟩
  ·refine condT e0 m (sR fun _ T => Ya (.bool true) rfl (wK T (wp_ret (x _ _ _ (O _ _ _ rfl ?_)))))
   obtain rfl := someI c
   exact u _ _ _ _ rfl rfl (G _ _ rfl (b.facts (allT allI)) (t _ rfl))
  ·refine condF e0 (bfalse m) (wp_skip (x _ _ _ (N _ _ (wR (Ym (iV d) (eh k) (yY (yadd e0 rfl) (Ya (iV (wa .i64 d 1)) e0 (wN ?_))))))))
   obtain rfl := someI c
   exact I _ _ _ rfl ⟨_, _, rfl, rfl, j, rfl, (b.facts (allT allI))⟩
 ·refine cF e0 l (wp_exit (K _ _ _ rfl ?_))
  obtain rfl := someI c
  exact u _ _ _ _ rfl rfl (E _ _ b (t _ rfl))
end Go.Proofs.YthpeajepbffinaaGreat
