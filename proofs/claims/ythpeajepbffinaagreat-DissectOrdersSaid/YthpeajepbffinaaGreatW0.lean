/- Walks: each function computes its model, printed. -/
import Derived.Test.YthpeajepbffinaaGreatSxP
import Derived.Test.YthpeajepbffinaaGreatTy
import Derived.Test.YthpeajepbffinaaGreatM8
import Derived.Test.YthpeajepbffinaaGreatSxV
import Derived.Test.YthpeajepbffinaaGreatSxS
namespace Go.Proofs.YthpeajepbffinaaGreat
open Go Sx M
set_option maxRecDepth 100000
set_option maxHeartbeats 40000000
set_option linter.unusedVariables false
attribute [local irreducible] wpList Code.wp Calls DR QR QS LA LS St
variable {w0:World} {ros:List Fact} {rs:List Res} {w:World}
theorem graph_ascending_ok {l:LI} {h:Int} {j:Hdr} {out:Bool} (m:graph_ascending l h=some out) (o:imm I1 j.v l∈ros) (b:St w0 ros rs w):
  Calls Tryz.prog 81 #[j.v,iV h] w (fun e w=>e=.returned (.bool out)∧St w0 ros rs w):=by
 refine enterQ Tryz.func81 rfl Tryz.ntmps81 rfl fun Q t=>sR fun _ E=>Ya (.bool false) rfl (wK E (sR fun _ F=>Ya (iV (-1)) rfl (wK F (seqQ fun b2 G H=>sR fun _ I=>?_))))
 refine Ym j.v e0 (yY (yLen SL_22 e0 b (rdI o)) (Ym (iV 0) rfl (wK I (blockQ fun u x=>bE m fun y J m=>?_))))
 have K:∀ (f:FV) w,St w0 ros rs w→.inl ()=y→u (.exit 0) (fr 24 f) w:=by
  intro f w b ho
  subst ho
  refine x _ _ _ (G _ _ (sR fun _ L=>Ya (.bool true) rfl (wK L (wp_ret ?_))))
  cases m
  exact t _ _ _ (fin1r Tryz.results81 ⟨rfl,rfl⟩ ⟨rfl,b⟩)
 have N:∀ (f:FV) w,f 4=.bool false→St w0 ros rs w→.inr ()=y→u .ret (fr 24 f) w:=by
  intro f w O b ho
  subst ho
  refine x _ _ _ (H _ _ _ rfl ?_)
  cases m
  exact t _ _ _ (fin1r Tryz.results81 ⟨rfl,O⟩ ⟨rfl,b⟩)
 refine loopQ (fun s a w=>∃ (i k:Int) (f:FV),(i,k)=s∧a=fr 24 f∧f 1=iV h∧f 5=iV i∧f 8=j.v∧f 9=iV (l.length:Int)∧f 10=iV k∧St w0 ros rs w) J ⟨_,_,_,rfl,rfl,rfl,rfl,rfl,rfl,rfl,b⟩ ?_
 rintro _ _ w b3 ⟨i,k,f,rfl,rfl,p,R,q,r,n,b⟩ c z b4 S A
 refine sR fun _ T=>yY (ylss (eh n) (eh r)) (wK T (seqQ fun b5 U V=>?_))
 refine cIf e0 c (fun W c=>?_) fun W c=>?_
 ·refine wp_skip (U _ _ (seqQ fun b6 X Z=>blockQ fun _ B=>sR fun _ a0=>bE c fun d C c=>yY (yIa SL_22 (eh q) (eh n) b (rdI o) C) (yY (yI O_3 e0 b (rdI o) C) (Ya (iV d) e0 (wK a0 (seqQ fun b7 a1 a2=>sQ fun _ a3=>?_))))))
  refine wR (Ym (iV d) e0 (Ym (iV i) (eh R) (yY (yleq e0 e0) (Ym (.bool (decide (d≤i))) e0 ?_))))
  refine joinW 4 (fun f w=>f 1=iV h∧f 7=iV d∧f 8=j.v∧f 9=iV (l.length:Int)∧f 10=iV k∧f 21=.bool ((decide (d≤i)) || (decide (h≤d)))∧St w0 ros rs w) (fun D=>?_) ?_
  ·rcases Bool.eq_false_or_eq_true (decide (d≤i)) with g | g
   ·exact gN g (gN g (gN g (yY (pt_ (.bool true) e0 g rfl) (D _ _ ⟨p,rfl,q,r,n,(congrArg Value.bool (orT g)),b⟩))))
   ·exact yG g (m_ (iV d) e0) (yG g (m_ (iV h) (eh p)) (yG g (ygeq e0 e0) (yY (pf_ (.bool (decide (h≤d))) e0 g e0) (D _ _ ⟨p,rfl,q,r,n,(congrArg Value.bool (orF g)),b⟩))))
  rintro f w ⟨a4,a5,a6,a7,a8,a9,b⟩
  refine wK a3 (cB (eh a9) c (fun b0 c=>?_) fun b0 c=>?_)
  ·refine sR fun _ b1=>Ya (.bool false) rfl (wK b1 (wp_ret (a2 _ _ _ rfl (B _ _ _ (Z _ _ _ rfl ?_)))))
   cases c
   exact A _ _ _ _ rfl rfl (N _ _ rfl b (z _ rfl))
  ·refine wp_skip (a1 _ _ (wR (Ym (iV d) (eh a5) (Ya (iV d) e0 (wN (B _ _ _ (X _ _ (wR (yY (yadd (eh a8) rfl) (Ym (iV (wa .i64 k 1)) e0 (wN ?_)))))))))))
   cases c
   exact S _ _ _ rfl ⟨_,_,_,rfl,rfl,a4,rfl,a6,a7,rfl,b⟩
 ·refine wp_exit (V _ _ _ rfl ?_)
  cases c
  exact A _ _ _ _ rfl rfl (K _ _ b (z _ rfl))
theorem cmp_isNaN_int_ok {a:Int} {out:Bool} (b:cmp_isNaN_int a=some out) (c:St w0 ros rs w):
  Calls Tryz.prog 120 #[iV a] w (fun e w=>e=.returned (.bool out)∧St w0 ros rs w):=by
 refine enterQ Tryz.func120 rfl Tryz.ntmps120 rfl fun Q d=>sR fun _ f=>Ya (.bool false) rfl (wK f (sR fun _ g=>Ym (iV a) e0 (Ym (iV a) e0 (yY (yneq e0 e0) (Ya (.bool (!(decide (a=a)))) e0 (wK g ?_))))))
 refine wp_ret ?_
 cases b
 exact d _ _ _ (fin1r Tryz.results120 ⟨rfl,rfl⟩ ⟨rfl,c⟩)
theorem cmp_Less_int_ok {d g:Int} {out:Bool} (i:cmp_Less_int d g=some out) (a:St w0 ros rs w):
  Calls Tryz.prog 101 #[iV d,iV g] w (fun e w=>e=.returned (.bool out)∧St w0 ros rs w):=by
 refine enterQ Tryz.func101 rfl Tryz.ntmps101 rfl fun Q m=>sR fun _ n=>Ya (.bool false) rfl (wK n (sR fun _ o=>Ym (iV d) e0 (bE i fun p q i=>yC (yCall FN_120 (a1 e0)) (cmp_isNaN_int_ok q a) ?_)))
 rintro _ w ⟨rfl,a⟩
 refine ⟨_,rfl,?_⟩
 refine Ym (.bool p) e0 (bE i fun j h i=>?_)
 refine joinW 4 (fun f w=>f 0=iV d∧f 1=iV g∧f 11=.bool j∧St w0 ros rs w) (fun k=>?_) ?_
 ·rcases iteS h with ⟨c,h⟩ | ⟨c,h⟩
  ·refine yG c (m_ (iV g) e0) (bE h fun r s h=>Yc (wG c) rfl (yCall FN_120 (a1 e0)) (cmp_isNaN_int_ok s a) ?_)
   rintro _ w ⟨rfl,a⟩
   refine ⟨_,rfl,?_⟩
   refine yG c (ynot e0) (yY (pt_ (.bool (!r)) e0 c e0) ?_)
   cases h
   exact k _ _ ⟨rfl,rfl,rfl,a⟩
  ·refine gN (bfalse c) (gN (bfalse c) (gN (bfalse c) (yY (pf_ (.bool false) e0 (bfalse c) rfl) ?_)))
   cases h
   exact k _ _ ⟨rfl,rfl,rfl,a⟩
 rintro f w ⟨t,u,v,a⟩
 refine Ym (.bool j) (eh v) ?_
 refine joinW 4 (fun f w=>f 16=.bool (j || (decide (d < g)))∧St w0 ros rs w) (fun l=>?_) ?_
 ·rcases Bool.eq_false_or_eq_true j with b | b
  ·exact gN b (gN b (gN b (yY (pt_ (.bool true) e0 b rfl) (l _ _ ⟨(congrArg Value.bool (orT b)),a⟩))))
  ·exact yG b (m_ (iV d) (eh t)) (yG b (m_ (iV g) (eh u)) (yG b (ylss e0 e0) (yY (pf_ (.bool (decide (d < g))) e0 b e0) (l _ _ ⟨(congrArg Value.bool (orF b)),a⟩))))
 rintro f w ⟨x,a⟩
 refine Ya (.bool (j || (decide (d < g)))) (eh x) (wK o (wp_ret ?_))
 cases i
 exact m _ _ _ (fin1r Tryz.results101 ⟨rfl,rfl⟩ ⟨rfl,a⟩)
theorem slices_isNaN_int_ok {a:Int} {out:Bool} (b:slices_isNaN_int a=some out) (c:St w0 ros rs w):
  Calls Tryz.prog 102 #[iV a] w (fun e w=>e=.returned (.bool out)∧St w0 ros rs w):=by
 refine enterQ Tryz.func102 rfl Tryz.ntmps102 rfl fun Q d=>sR fun _ f=>Ya (.bool false) rfl (wK f (sR fun _ g=>Ym (iV a) e0 (Ym (iV a) e0 (yY (yneq e0 e0) (Ya (.bool (!(decide (a=a)))) e0 (wK g ?_))))))
 refine wp_ret ?_
 cases b
 exact d _ _ _ (fin1r Tryz.results102 ⟨rfl,rfl⟩ ⟨rfl,c⟩)
theorem slices_BinarySearch_int_ok {i:LI} {m:Int} {n:Hdr} {out:Int×Bool} (p:slices_BinarySearch_int i m=some out) (q:imm I1 n.v i∈ros) (b:St w0 ros rs w):
  Calls Tryz.prog 84 #[n.v,iV m] w (fun e w=>e=.returned (.tuple #[iV out.1,.bool out.2])∧St w0 ros rs w):=by
 refine enterQ Tryz.func84 rfl Tryz.ntmps84 rfl fun Q V=>sR fun _ W=>Ya (iV 0) rfl (Ya (.bool false) rfl (wK W (sR fun _ X=>Ym n.v e0 (yY (yLen SL_22 e0 b (rdI q)) (Ya (iV (i.length:Int)) e0 (wK X ?_))))))
 refine sR fun _ Z=>Ym (iV (i.length:Int)) e0 (Ya (iV 0) rfl (Ya (iV (i.length:Int)) e0 (wK Z (sQ fun _ a0=>blockQ fun a3 a4=>bE p fun a5 a6 p=>?_))))
 have a7:∀ (g:Int) (f:FV) w,f 0=n.v→f 1=iV m→f 6=iV (i.length:Int)→f 7=iV g→St w0 ros rs w→g=a5→a3 (.exit 0) (fr 54 f) w:=by
  intro g f w E F a8 u b ho
  subst ho
  refine a4 _ _ _ (a0 _ _ (sR fun _ a9=>Ym (iV g) (eh u) (Ym (iV g) (eh u) (Ym (iV (i.length:Int)) (eh a8) (yY (ylss e0 e0) (Ym (.bool (decide (g < (i.length:Int)))) e0 (bE p fun G o p=>?_)))))))
  refine joinW 18 (fun f w=>f 31=iV g∧f 53=.bool G∧St w0 ros rs w) (fun H=>?_) ?_
  ·rcases iteS o with ⟨c,o⟩ | ⟨c,o⟩
   ·refine yG (dT c) (m_ n.v (eh E)) (yG (dT c) (m_ (iV g) (eh u)) (bE o fun I J o=>yG (dT c) (yIa SL_22 e0 e0 b (rdI q) J) (yG (dT c) (yI O_3 e0 b (rdI q) J) (yG (dT c) (m_ (iV m) (eh F)) (yG (dT c) (yeql e0 e0) (yG (dT c) (m_ (.bool (decide (I=m))) e0) (bE o fun K j o=>?_)))))))
    refine joinW 10 (fun f w=>f 31=iV g∧f 35=.bool (decide (g < (i.length:Int)))∧f 52=.bool K∧St w0 ros rs w) (fun L=>?_) ?_
    ·rcases iteS j with ⟨d,j⟩ | ⟨d,j⟩
     ·refine gN (dT d) (gN (dT d) (gN (dT d) (gN (dT d) (gN (dT d) (gN (dT d) (Gn (wxu rfl rfl rfl) rfl (Gn (wxu rfl rfl rfl) rfl (gN (dT d) (yG (dT c) (pt_ (.bool true) e0 (dT d) rfl) ?_)))))))))
      cases j
      exact L _ _ ⟨rfl,rfl,rfl,b⟩
     ·refine yG (dF d) (m_ n.v (eh E)) (yG (dF d) (m_ (iV g) (eh u)) (bE j fun e2 N j=>yG (dF d) (yIa SL_22 e0 e0 b (rdI q) N) (yG (dF d) (yI O_3 e0 b (rdI q) N) (bE j fun b0 b1 j=>Yc (wG (dF d)) rfl (yCall FN_102 (a1 e0)) (slices_isNaN_int_ok b1 b) ?_))))
      rintro _ w ⟨rfl,b⟩
      refine ⟨_,rfl,?_⟩
      refine yG (dF d) (m_ (.bool b0) e0) (bE j fun O r j=>?_)
      refine joinW 3 (fun f w=>f 31=iV g∧f 35=.bool (decide (g < (i.length:Int)))∧f 42=.bool (decide (I=m))∧f 51=.bool O∧St w0 ros rs w) (fun R=>?_) ?_
      ·rcases iteS r with ⟨t,r⟩ | ⟨t,r⟩
       ·refine yG t (m_ (iV m) (eh F)) (bE r fun b2 b3 r=>Yc (wG t) rfl (yCall FN_102 (a1 e0)) (slices_isNaN_int_ok b3 b) ?_)
        rintro _ w ⟨rfl,b⟩
        refine ⟨_,rfl,?_⟩
        refine yG (dF d) (pt_ (.bool b2) e0 t e0) ?_
        cases r
        exact R _ _ ⟨rfl,rfl,rfl,rfl,b⟩
       ·refine gN (bfalse t) (gN (bfalse t) (yG (dF d) (pf_ (.bool false) e0 (bfalse t) rfl) ?_))
        cases r
        exact R _ _ ⟨rfl,rfl,rfl,rfl,b⟩
      rintro f w ⟨b4,S,b5,b6,b⟩
      refine Y (wg rfl rfl S (dT c)) rfl (pf_ (.bool O) (eh b5) (dF d) (eh b6)) ?_
      cases j
      exact L _ _ ⟨b4,S,rfl,b⟩
    rintro f w ⟨b7,b8,b9,b⟩
    refine yY (pt_ (.bool K) (eh b8) (dT c) (eh b9)) ?_
    cases o
    exact H _ _ ⟨b7,rfl,b⟩
   ·refine gN (dF c) (gN (dF c) (gN (dF c) (gN (dF c) (gN (dF c) (gN (dF c) (gN (dF c) (Gn (wxu rfl rfl rfl) rfl (Gn (wxu rfl rfl rfl) rfl (Gn (wxu rfl rfl rfl) rfl (Gn (wxu rfl rfl rfl) rfl (Gn (wxu rfl rfl rfl) rfl (Gn (wxu rfl rfl rfl) rfl (Gn (wxu rfl rfl rfl) rfl ?_)))))))))))))
    refine Gn (wxu rfl rfl rfl) rfl (Gn (wxu rfl rfl rfl) rfl (gN (dF c) (yY (pf_ (.bool false) e0 (dF c) rfl) ?_)))
    cases o
    exact H _ _ ⟨rfl,rfl,b⟩
  rintro f w ⟨c0,c1,b⟩
  refine Ya (iV g) (eh c0) (Ya (.bool G) (eh c1) (wK a9 (wp_ret ?_)))
  cases p
  exact V _ _ _ (fin2r Tryz.results84 ⟨rfl,rfl⟩ ⟨rfl,rfl⟩ ⟨rfl,b⟩)
 refine loopQ (fun s a w=>∃ (k l:Int) (f:FV),(k,l)=s∧a=fr 54 f∧f 0=n.v∧f 1=iV m∧f 6=iV (i.length:Int)∧f 7=iV k∧f 8=iV l∧St w0 ros rs w) a6 ⟨_,_,_,rfl,rfl,rfl,rfl,rfl,rfl,rfl,b⟩ ?_
 rintro _ _ w c2 ⟨k,l,f,rfl,rfl,x,y,A,z,B,b⟩ h c3 e3 c4 c5
 refine seqQ fun e4 c6 c7=>sR fun _ c8=>Ym (iV k) (eh z) (Ym (iV l) (eh B) (yY (ylss e0 e0) (wK c8 ?_)))
 refine cIf e0 h (fun c9 h=>?_) fun c9 h=>?_
 ·refine wp_skip (c6 _ _ (blockQ fun d0 d1=>sR fun _ d2=>Ym (iV k) (eh z) (Ym (iV l) (eh B) (yY (yadd e0 e0) (yY (ycv (k':=.u64) (by kernel_rfl) (by kernel_rfl) e0) (yY (yshrc e0 rfl) (yY (ycv (k':=.i64) (by kernel_rfl) (by kernel_rfl) e0) (Ya (iV (wc .i64 (wsrc .u64 (wc .u64 (wa .i64 k l)) 1))) e0 (wK d2 ?_)))))))))
  refine sR fun _ d3=>Ym n.v (eh x) (Ym (iV (wc .i64 (wsrc .u64 (wc .u64 (wa .i64 k l)) 1))) e0 (bE h fun e5 T h=>yY (yIa SL_22 e0 e0 b (rdI q) T) (yY (yI O_3 e0 b (rdI q) T) (Ym (iV m) (eh y) (bE h fun e6 d4 h=>yC (yCall FN_101 (a2 e0 e0)) (cmp_Less_int_ok d4 b) ?_)))))
  rintro _ w ⟨rfl,b⟩
  refine ⟨_,rfl,?_⟩
  refine wK d3 ?_
  have U:∀ (C D:Int) (f:FV) w,f 0=n.v→f 1=iV m→f 6=iV (i.length:Int)→f 7=iV C→f 8=iV D→St w0 ros rs w→slices_BinarySearch_int_j11 C D=some c2→d0 .normal (fr 54 f) w:=by
   intro C D f w d5 d6 d7 d8 d9 b p
   refine d1 _ _ _ ?_
   cases p
   exact c4 _ _ _ rfl ⟨_,_,_,rfl,rfl,d5,d6,d7,d8,d9,b⟩
  refine cB e0 h (fun e1 h=>?_) fun e1 h=>?_
  ·exact wR (Ym (iV (wc .i64 (wsrc .u64 (wc .u64 (wa .i64 k l)) 1))) e0 (yY (yadd e0 rfl) (Ya (iV (wa .i64 (wc .i64 (wsrc .u64 (wc .u64 (wa .i64 k l)) 1)) 1)) e0 (wN (U _ _ _ _ x y A rfl B b h)))))
  ·exact wR (Ym (iV (wc .i64 (wsrc .u64 (wc .u64 (wa .i64 k l)) 1))) e0 (Ya (iV (wc .i64 (wsrc .u64 (wc .u64 (wa .i64 k l)) 1))) e0 (wN (U _ _ _ _ x y A z rfl b h))))
 ·refine wp_exit (c7 _ _ _ rfl ?_)
  cases h
  exact c5 _ _ _ _ rfl rfl (a7 _ _ _ x y A z b (c3 _ rfl))
theorem graph_joined_ok {h:L2} {f g:Int} {d:Hdr} {out:Bool} (c:graph_joined h f g=some out) (i:imm S1 d.v h∈ros) (a:St w0 ros rs w):
  Calls Tryz.prog 82 #[.agg #[d.v],iV f,iV g] w (fun e w=>e=.returned (.bool out)∧St w0 ros rs w):=by
 refine enterQ Tryz.func82 rfl Tryz.ntmps82 rfl fun Q k=>sR fun _ l=>yBb (r_box (vals:=[d.v]) a e0 rfl) fun p w a=>Ya (.bool false) rfl (wK l (sR fun _ m=>yY (yFb FL_26_0 e0) (yY (lb_ d.v O_24 e0 a R0) (Ym (iV f) e0 (bE c fun q j c=>?_)))))
 refine yY (yIa SL_24 e0 e0 a (rdI i) j) ?_
 obtain ⟨r,a⟩:=iLs a i j
 refine yY (yCt O_22 e0 a F1 rfl) (Ym (iV g) e0 (bE c fun b n c=>yC (yCall FN_84 (a2 e0 e0)) (slices_BinarySearch_int_ok n F0 a) ?_))
 rintro _ w ⟨rfl,a⟩
 refine ⟨_,rfl,?_⟩
 refine Ym (.tuple #[iV b.1,.bool b.2]) e0 (yY (x_ (iV b.1) e0) (yY (x_ (.bool b.2) e0) (Ya (iV b.1) e0 (Ya (.bool b.2) e0 (wK m (sR fun _ o=>Ym (.bool b.2) e0 (Ya (.bool b.2) e0 (wK o (wp_ret ?_)))))))))
 cases c
 exact k _ _ _ (fin1r Tryz.results82 ⟨rfl,rfl⟩ ⟨rfl,((a.pk 1 [] rfl).facts (allT (allT allI)))⟩)
theorem graph_Check_ok {h:L2} {c:Hdr} {out:Int} (j:graph_Check h=some out) (n:imm S1 c.v h∈ros) (b:St w0 ros rs w):
  Calls Tryz.prog 51 #[.agg #[c.v]] w (fun e w=>e=.returned (iV out)∧St w0 ros rs w):=by
 refine enterQ Tryz.func51 rfl Tryz.ntmps51 rfl fun Q r=>sR fun _ c0=>yBb (r_box (vals:=[c.v]) b e0 rfl) fun i w b=>Ya (iV 0) rfl (wK c0 (sR fun _ c1=>yY (yFb FL_26_0 e0) (yY (lb_ c.v O_24 e0 b R0) (yY (yLen SL_24 e0 b (rdI n)) (Ya (iV (h.length:Int)) e0 ?_)))))
 refine wK c1 (seqQ fun j6 c2 c3=>sR fun _ c5=>Ym (iV (h.length:Int)) e0 (yY (ygtr e0 rfl) (wK c5 ?_)))
 refine cIf e0 j (fun c6 j=>?_) fun c6 j=>?_
 ·refine sR fun _ c7=>Ya (iV 6) rfl (wK c7 (wp_ret (c3 _ _ _ rfl ?_)))
  cases j
  exact r _ _ _ (fin1r Tryz.results51 ⟨rfl,rfl⟩ ⟨rfl,(b.pk 1 [] rfl)⟩)
 ·refine wp_skip (c2 _ _ (seqQ fun j7 c8 c9=>sR fun _ d0=>yY (yFb FL_26_0 e0) (yY (lb_ c.v O_24 e0 b R0) (yY (yLen SL_24 e0 b (rdI n)) (Ym (iV 0) rfl (wK d0 (blockQ fun F G=>bE j fun H d1 j=>?_)))))))
  have d2:∀ (f:FV) w,f 1=(pB i)→St w0 ros (box i 26 [c.v]::rs) w→.inl ()=H→F (.exit 0) (fr 55 f) w:=by
   intro f w I b ho
   subst ho
   refine G _ _ _ (c8 _ _ (seqQ fun j9 d3 d4=>sR fun _ d5=>yY (yFb FL_26_0 (eh I)) (yY (lb_ c.v O_24 e0 b R0) (yY (yLen SL_24 e0 b (rdI n)) (Ym (iV 0) rfl (wK d5 (blockQ fun J K=>bE j fun L d6 j=>?_)))))))
   have d7:∀ (f:FV) w,St w0 ros rs w→.inl ()=L→J (.exit 2) (fr 55 f) w:=by
    intro f w b ho
    subst ho
    refine K _ _ _ (d3 _ _ (sR fun _ d8=>Ya (iV 0) rfl (wK d8 (wp_ret ?_))))
    cases j
    exact r _ _ _ (fin1r Tryz.results51 ⟨rfl,rfl⟩ ⟨rfl,b⟩)
   have d9:∀ (f:FV) w,f 2=iV 1→St w0 ros rs w→.inr ()=L→J .ret (fr 55 f) w:=by
    intro f w e1 b ho
    subst ho
    refine K _ _ _ (d4 _ _ _ rfl ?_)
    cases j
    exact r _ _ _ (fin1r Tryz.results51 ⟨rfl,e1⟩ ⟨rfl,b⟩)
   refine loopQ (fun s a w=>∃ (l:Int) (f:FV),l=s∧a=fr 55 f∧f 1=(pB i)∧f 35=c.v∧f 36=iV (h.length:Int)∧f 37=iV l∧St w0 ros (box i 26 [c.v]::rs) w) d6 ⟨_,_,rfl,rfl,I,rfl,rfl,rfl,b⟩ ?_
   rintro _ _ w k0 ⟨l,f,rfl,rfl,e2,N,O,t,b⟩ m R k8 e3 S
   refine sR fun _ e4=>yY (ylss (eh t) (eh O)) (wK e4 (seqQ fun k9 e5 e6=>?_))
   refine cIf e0 m (fun e7 m=>?_) fun e7 m=>?_
   ·refine wp_skip (e5 _ _ (seqQ fun l0 e8 e9=>blockQ fun _ T=>sR fun _ f0=>Ym (iV l) (eh t) (bE m fun U V m=>yY (yIa SL_24 (eh N) (eh t) b (rdI n) V) ?_)))
    obtain ⟨u,b⟩:=iLs b n V
    refine yY (yCt O_22 e0 b F1 rfl) (Ya (iV l) e0 (Ya u.v e0 (wK f0 (sR fun _ f1=>Ym u.v e0 (yY (yLen SL_22 e0 b (rdI F0)) (Ym (iV 0) rfl (wK f1 (blockQ fun W X=>bE m fun Z f2 m=>?_))))))))
    have f3:∀ (f:FV) w,f 1=(pB i)→f 35=c.v→f 36=iV (h.length:Int)→f 37=iV l→St w0 ros (box i 26 [c.v]::rs) w→.inl ()=Z→W (.exit 4) (fr 55 f) w:=by
     intro f w f4 f5 f6 f7 b ho
     subst ho
     refine X _ _ _ (T _ _ _ (e8 _ _ (wR (yY (yadd (eh f7) rfl) (Ym (iV (wa .i64 l 1)) e0 (wN ?_))))))
     cases m
     exact e3 _ _ _ rfl ⟨_,_,rfl,rfl,f4,f5,f6,rfl,b⟩
    have f8:∀ (f:FV) w,f 2=iV 1→St w0 ros rs w→.inr ()=Z→W .ret (fr 55 f) w:=by
     intro f w f9 b ho
     subst ho
     refine X _ _ _ (T _ _ _ (e9 _ _ _ rfl ?_))
     cases m
     exact S _ _ _ _ rfl rfl (d9 _ _ f9 b (R _ rfl))
    refine loopQ (fun s a w=>∃ (x:Int) (f:FV),x=s∧a=fr 55 f∧f 1=(pB i)∧f 6=iV l∧f 35=c.v∧f 36=iV (h.length:Int)∧f 37=iV l∧f 42=u.v∧f 43=iV (U.length:Int)∧f 44=iV x∧St w0 (imm I1 u.v U::ros) (box i 26 [c.v]::rs) w) f2 ⟨_,_,rfl,rfl,e2,rfl,N,O,t,rfl,rfl,rfl,(b.facts (allC F0 (allT (allT allI))))⟩ ?_
    rintro _ _ w l1 ⟨x,f,rfl,rfl,z,a0,a1,a4,a5,a6,a7,A,b⟩ g a8 l2 g0 a9
    refine sR fun _ g1=>yY (ylss (eh A) (eh a7)) (wK g1 (seqQ fun l3 g2 g3=>?_))
    refine cIf e0 g (fun g4 g=>?_) fun g4 g=>?_
    ·refine wp_skip (g2 _ _ (seqQ fun l4 g5 g6=>blockQ fun _ b0=>sR fun _ g7=>bE g fun b1 b2 g=>yY (yIa SL_22 (eh a6) (eh A) b (rdI F0) b2) (yY (yI O_3 e0 b (rdI F0) b2) (Ya (iV b1) e0 (wK g7 (sR fun _ g8=>?_))))))
     refine yY (lbs_ [c.v] ST_26 (eh z) b R0) (Ym (iV b1) e0 (Ym (iV l) (eh a0) (bE g fun l5 g9 g=>yC (yCall FN_82 (a3 e0 e0 e0)) (graph_joined_ok g9 (mtF n) b) ?_)))
     rintro _ w ⟨rfl,b⟩
     refine ⟨_,rfl,?_⟩
     refine yY (ynot e0) (wK g8 ?_)
     rcases iteS g with ⟨B,g⟩ | ⟨B,g⟩
     ·refine condF e0 (nF B) (wp_skip (b0 _ _ _ (g5 _ _ (wR (yY (yadd (eh A) rfl) (Ym (iV (wa .i64 x 1)) e0 (wN ?_)))))))
      cases g
      exact g0 _ _ _ rfl ⟨_,_,rfl,rfl,z,a0,a1,a4,a5,a6,a7,rfl,b⟩
     ·refine condT e0 (nT (bfalse B)) (sR fun _ h0=>Ya (iV 1) rfl (wK h0 (wp_ret (b0 _ _ _ (g6 _ _ _ rfl ?_)))))
      cases g
      exact a9 _ _ _ _ rfl rfl (f8 _ _ rfl ((b.pk 1 [] rfl).facts (allT allI)) (a8 _ rfl))
    ·refine wp_exit (g3 _ _ _ rfl ?_)
     cases g
     exact a9 _ _ _ _ rfl rfl (f3 _ _ z a1 a4 a5 (b.facts (allT allI)) (a8 _ rfl))
   ·refine wp_exit (e6 _ _ _ rfl ?_)
    cases m
    exact S _ _ _ _ rfl rfl (d7 _ _ (b.pk 1 [] rfl) (R _ rfl))
  have h1:∀ (f:FV) w,f 2=iV 1→St w0 ros rs w→.inr ()=H→F .ret (fr 55 f) w:=by
   intro f w h3 b ho
   subst ho
   refine G _ _ _ (c9 _ _ _ rfl ?_)
   cases j
   exact r _ _ _ (fin1r Tryz.results51 ⟨rfl,h3⟩ ⟨rfl,b⟩)
  refine loopQ (fun s a w=>∃ (o:Int) (f:FV),o=s∧a=fr 55 f∧f 1=(pB i)∧f 3=iV (h.length:Int)∧f 16=c.v∧f 17=iV (h.length:Int)∧f 18=iV o∧St w0 ros (box i 26 [c.v]::rs) w) d1 ⟨_,_,rfl,rfl,rfl,rfl,rfl,rfl,rfl,b⟩ ?_
  rintro _ _ w l6 ⟨o,f,rfl,rfl,y,C,D,E,q,b⟩ d b4 l7 h4 b5
  refine sR fun _ h5=>yY (ylss (eh q) (eh E)) (wK h5 (seqQ fun l8 h6 h7=>?_))
  refine cIf e0 d (fun h8 d=>?_) fun h8 d=>?_
  ·refine wp_skip (h6 _ _ (seqQ fun l9 h9 i0=>blockQ fun _ b6=>sR fun _ i1=>Ym (iV o) (eh q) (bE d fun m0 b7 d=>yY (yIa SL_24 (eh D) (eh q) b (rdI n) b7) ?_)))
   obtain ⟨b8,b⟩:=iLs b n b7
   refine yY (yCt O_22 e0 b F1 rfl) (Ya (iV o) e0 (Ya b8.v e0 (wK i1 (sR fun _ i2=>Ym b8.v e0 (Ym (iV (h.length:Int)) (eh C) (bE d fun i3 i4 d=>yC (yCall FN_81 (a2 e0 e0)) (graph_ascending_ok i4 F0 b) ?_))))))
   rintro _ w ⟨rfl,b⟩
   refine ⟨_,rfl,?_⟩
   refine yY (ynot e0) (Ym (.bool (!i3)) e0 (bE d fun i5 p d=>?_))
   refine joinW 5 (fun f w=>f 1=(pB i)∧f 3=iV (h.length:Int)∧f 16=c.v∧f 17=iV (h.length:Int)∧f 18=iV o∧f 32=.bool i5∧St w0 ros (box i 26 [c.v]::rs) w) (fun b9=>?_) ?_
   ·rcases iteS p with ⟨k,p⟩ | ⟨k,p⟩
    ·refine yG (nF k) (lbs_ [c.v] ST_26 (eh y) b R0) (yG (nF k) (m_ (iV o) e0) (yG (nF k) (m_ (iV o) e0) (bE p fun i6 i7 p=>Yc (wG (nF k)) rfl (yCall FN_82 (a3 e0 e0 e0)) (graph_joined_ok i7 (F_2 n) b) ?_)))
     rintro _ w ⟨rfl,b⟩
     refine ⟨_,rfl,?_⟩
     refine yY (pf_ (.bool i6) e0 (nF k) e0) ?_
     cases p
     exact b9 _ _ ⟨y,C,D,E,q,rfl,(b.facts (allT (allT allI)))⟩
    ·refine gN (nT (bfalse k)) (gN (nT (bfalse k)) (gN (nT (bfalse k)) (gN (nT (bfalse k)) (yY (pt_ (.bool true) e0 (nT (bfalse k)) rfl) ?_))))
     cases p
     exact b9 _ _ ⟨y,C,D,E,q,rfl,(b.facts (allT (allT allI)))⟩
   rintro f w ⟨i8,i9,j0,j1,j2,j3,b⟩
   refine wK i2 (cB (eh j3) d (fun j4 d=>?_) fun j4 d=>?_)
   ·refine sR fun _ j5=>Ya (iV 1) rfl (wK j5 (wp_ret (b6 _ _ _ (i0 _ _ _ rfl ?_))))
    cases d
    exact b5 _ _ _ _ rfl rfl (h1 _ _ rfl (b.pk 1 [] rfl) (b4 _ rfl))
   ·refine wp_skip (b6 _ _ _ (h9 _ _ (wR (yY (yadd (eh j2) rfl) (Ym (iV (wa .i64 o 1)) e0 (wN ?_))))))
    cases d
    exact h4 _ _ _ rfl ⟨_,_,rfl,rfl,i8,i9,j0,j1,rfl,b⟩
  ·refine wp_exit (h7 _ _ _ rfl ?_)
   cases d
   exact b5 _ _ _ _ rfl rfl (d2 _ _ y b (b4 _ rfl))
theorem math_bits_Mul64_ok {a b:Int} {out:Int×Int} (c:math_bits_Mul64 a b=some out) (d:St w0 ros rs w):
  Calls Tryz.prog 116 #[.int .u64 a,.int .u64 b] w (fun e w=>e=.returned (.tuple #[.int .u64 out.1,.int .u64 out.2])∧St w0 ros rs w):=by
 refine enterQ Tryz.func116 rfl Tryz.ntmps116 rfl fun Q f=>sR fun _ g=>Ya (.int .u64 0) rfl (Ya (.int .u64 0) rfl (wK g (sR fun _ h=>Ym (.int .u64 a) e0 (yY (yand e0 rfl) (Ya (.int .u64 (wand .u64 a 4294967295)) e0 (wK h ?_))))))
 refine sR fun _ i=>Ym (.int .u64 a) e0 (yY (yshrc e0 rfl) (Ya (.int .u64 (wsrc .u64 a 32)) e0 (wK i (sR fun _ j=>Ym (.int .u64 b) e0 (yY (yand e0 rfl) (Ya (.int .u64 (wand .u64 b 4294967295)) e0 (wK j ?_)))))))
 refine sR fun _ k=>Ym (.int .u64 b) e0 (yY (yshrc e0 rfl) (Ya (.int .u64 (wsrc .u64 b 32)) e0 (wK k (sR fun _ l=>Ym (.int .u64 (wand .u64 a 4294967295)) e0 (Ym (.int .u64 (wand .u64 b 4294967295)) e0 (yY (ymul e0 e0) (Ya (.int .u64 (wm .u64 (wand .u64 a 4294967295) (wand .u64 b 4294967295))) e0 (wN ?_))))))))
 refine l _ _ (sR fun _ m=>Ym (.int .u64 (wsrc .u64 a 32)) e0 (Ym (.int .u64 (wand .u64 b 4294967295)) e0 (yY (ymul e0 e0) (Ym (.int .u64 (wm .u64 (wand .u64 a 4294967295) (wand .u64 b 4294967295))) e0 (yY (yshrc e0 rfl) (yY (yadd e0 e0) (Ya (.int .u64 (wa .u64 (wm .u64 (wsrc .u64 a 32) (wand .u64 b 4294967295)) (wsrc .u64 (wm .u64 (wand .u64 a 4294967295) (wand .u64 b 4294967295)) 32))) e0 (wK m (sR fun _ n=>?_)))))))))
 refine Ym (.int .u64 (wa .u64 (wm .u64 (wsrc .u64 a 32) (wand .u64 b 4294967295)) (wsrc .u64 (wm .u64 (wand .u64 a 4294967295) (wand .u64 b 4294967295)) 32))) e0 (yY (yand e0 rfl) (Ya (.int .u64 (wand .u64 (wa .u64 (wm .u64 (wsrc .u64 a 32) (wand .u64 b 4294967295)) (wsrc .u64 (wm .u64 (wand .u64 a 4294967295) (wand .u64 b 4294967295)) 32)) 4294967295)) e0 (wK n (sR fun _ o=>Ym (.int .u64 (wa .u64 (wm .u64 (wsrc .u64 a 32) (wand .u64 b 4294967295)) (wsrc .u64 (wm .u64 (wand .u64 a 4294967295) (wand .u64 b 4294967295)) 32))) e0 (yY (yshrc e0 rfl) (Ya (.int .u64 (wsrc .u64 (wa .u64 (wm .u64 (wsrc .u64 a 32) (wand .u64 b 4294967295)) (wsrc .u64 (wm .u64 (wand .u64 a 4294967295) (wand .u64 b 4294967295)) 32)) 32)) e0 (wK o (sR fun _ p=>?_))))))))
 refine Ym (.int .u64 (wand .u64 (wa .u64 (wm .u64 (wsrc .u64 a 32) (wand .u64 b 4294967295)) (wsrc .u64 (wm .u64 (wand .u64 a 4294967295) (wand .u64 b 4294967295)) 32)) 4294967295)) e0 (Ym (.int .u64 (wand .u64 a 4294967295)) e0 (Ym (.int .u64 (wsrc .u64 b 32)) e0 (yY (ymul e0 e0) (yY (yadd e0 e0) (Ya (.int .u64 (wa .u64 (wand .u64 (wa .u64 (wm .u64 (wsrc .u64 a 32) (wand .u64 b 4294967295)) (wsrc .u64 (wm .u64 (wand .u64 a 4294967295) (wand .u64 b 4294967295)) 32)) 4294967295) (wm .u64 (wand .u64 a 4294967295) (wsrc .u64 b 32)))) e0 (wK p (sR fun _ q=>Ym (.int .u64 (wsrc .u64 a 32)) e0 (Ym (.int .u64 (wsrc .u64 b 32)) e0 (yY (ymul e0 e0) (Ym (.int .u64 (wsrc .u64 (wa .u64 (wm .u64 (wsrc .u64 a 32) (wand .u64 b 4294967295)) (wsrc .u64 (wm .u64 (wand .u64 a 4294967295) (wand .u64 b 4294967295)) 32)) 32)) e0 ?_))))))))))
 refine yY (yadd e0 e0) (Ym (.int .u64 (wa .u64 (wand .u64 (wa .u64 (wm .u64 (wsrc .u64 a 32) (wand .u64 b 4294967295)) (wsrc .u64 (wm .u64 (wand .u64 a 4294967295) (wand .u64 b 4294967295)) 32)) 4294967295) (wm .u64 (wand .u64 a 4294967295) (wsrc .u64 b 32)))) e0 (yY (yshrc e0 rfl) (yY (yadd e0 e0) (Ya (.int .u64 (wa .u64 (wa .u64 (wm .u64 (wsrc .u64 a 32) (wsrc .u64 b 32)) (wsrc .u64 (wa .u64 (wm .u64 (wsrc .u64 a 32) (wand .u64 b 4294967295)) (wsrc .u64 (wm .u64 (wand .u64 a 4294967295) (wand .u64 b 4294967295)) 32)) 32)) (wsrc .u64 (wa .u64 (wand .u64 (wa .u64 (wm .u64 (wsrc .u64 a 32) (wand .u64 b 4294967295)) (wsrc .u64 (wm .u64 (wand .u64 a 4294967295) (wand .u64 b 4294967295)) 32)) 4294967295) (wm .u64 (wand .u64 a 4294967295) (wsrc .u64 b 32))) 32))) e0 (wK q (sR fun _ r=>Ym (.int .u64 a) e0 (Ym (.int .u64 b) e0 (yY (ymul e0 e0) (Ya (.int .u64 (wm .u64 a b)) e0 (wN ?_))))))))))
 refine r _ _ (wp_ret ?_)
 cases c
 exact f _ _ _ (fin2r Tryz.results116 ⟨rfl,rfl⟩ ⟨rfl,rfl⟩ ⟨rfl,d⟩)
theorem math_bits_Mul_ok {b c:Int} {out:Int×Int} (d:math_bits_Mul b c=some out) (f:St w0 ros rs w):
  Calls Tryz.prog 95 #[.int .u64 b,.int .u64 c] w (fun e w=>e=.returned (.tuple #[.int .u64 out.1,.int .u64 out.2])∧St w0 ros rs w):=by
 refine enterQ Tryz.func95 rfl Tryz.ntmps95 rfl fun Q g=>sR fun _ h=>Ya (.int .u64 0) rfl (Ya (.int .u64 0) rfl (wK h (sQ fun _ i=>condF rfl rfl (wp_skip (i _ _ (sR fun _ j=>Ym (.int .u64 b) e0 ?_))))))
 refine Ym (.int .u64 c) e0 (bE d fun a k d=>yC (yCall FN_116 (a2 e0 e0)) (math_bits_Mul64_ok k f) ?_)
 rintro _ w ⟨rfl,f⟩
 refine ⟨_,rfl,?_⟩
 refine Ym (.tuple #[.int .u64 a.1,.int .u64 a.2]) e0 (yY (x_ (.int .u64 a.1) e0) (yY (x_ (.int .u64 a.2) e0) (Ya (.int .u64 a.1) e0 (Ya (.int .u64 a.2) e0 (wK j (sR fun _ l=>Ym (.int .u64 a.1) e0 (Ym (.int .u64 a.2) e0 (Ya (.int .u64 a.1) e0 (Ya (.int .u64 a.2) e0 (wN ?_))))))))))
 refine l _ _ (wp_ret ?_)
 cases d
 exact g _ _ _ (fin2r Tryz.results95 ⟨rfl,rfl⟩ ⟨rfl,rfl⟩ ⟨rfl,f⟩)
theorem slices_Repeat_int_ok {o:LI} {l:Int} {k:Hdr} {out:LI} (c:slices_Repeat_int o l=some out) (t:imm I1 k.v o∈ros) (b:St w0 ros rs w):
  Calls Tryz.prog 72 #[k.v,iV l] w (fun e w=>∃ (u:Hdr),e=.returned (u.v)∧St w0 ros (row 3 I1 u.v out::rs) w):=by
 refine enterQ Tryz.func72 rfl Tryz.ntmps72 rfl fun Q z=>sR fun _ k1=>Ya hnil.v rfl (wK k1 (sQ fun A k2=>sR fun _ B=>Ym (iV l) e0 (yY (ylss e0 rfl) (wK B ?_))))
 have C:∀ (f:FV) w,f 0=k.v→f 1=iV l→St w0 ros rs w→slices_Repeat_int_j1 o l=some out→A .normal (fr 48 f) w:=by
  intro f w p D b c
  refine k2 _ _ (sR fun _ E=>Ym k.v (eh p) (yY (yLen SL_22 e0 b (rdI t)) (yY (ycv (k':=.u64) (by kernel_rfl) (by kernel_rfl) e0) (Ym (iV l) (eh D) (yY (ycv (k':=.u64) (by kernel_rfl) (by kernel_rfl) e0) (bE c fun d F c=>yC (yCall FN_95 (a2 e0 e0)) (math_bits_Mul_ok F b) ?_))))))
  rintro _ w ⟨rfl,b⟩
  refine ⟨_,rfl,?_⟩
  refine Ym (.tuple #[.int .u64 d.1,.int .u64 d.2]) e0 (yY (x_ (.int .u64 d.1) e0) (yY (x_ (.int .u64 d.2) e0) (Ya (.int .u64 d.1) e0 (Ya (.int .u64 d.2) e0 (wK E (sQ fun G H=>sR fun _ I=>Ym (.int .u64 d.1) e0 (yY (ygtr e0 rfl) (Ym (.bool (decide ((0:Int) < d.1))) e0 ?_))))))))
  refine joinW 3 (fun f w=>f 0=k.v∧f 6=.int .u64 d.2∧f 26=.bool ((decide ((0:Int) < d.1)) || (decide ((9223372036854775807:Int) < d.2)))∧St w0 ros rs w) (fun x=>?_) ?_
  ·rcases Bool.eq_false_or_eq_true (decide ((0:Int) < d.1)) with i | i
   ·exact gN i (gN i (yY (pt_ (.bool true) e0 i rfl) (x _ _ ⟨p,rfl,(congrArg Value.bool (orT i)),b⟩)))
   ·exact yG i (m_ (.int .u64 d.2) e0) (yG i (ygtr e0 rfl) (yY (pf_ (.bool (decide ((9223372036854775807:Int) < d.2))) e0 i e0) (x _ _ ⟨p,rfl,(congrArg Value.bool (orF i)),b⟩)))
  rintro f w ⟨J,K,L,b⟩
  refine wK I ?_
  have N:∀ (f:FV) w,f 0=k.v→f 6=.int .u64 d.2→St w0 ros rs w→slices_Repeat_int_j3 d o=some out→G .normal (fr 48 f) w:=by
   intro f w O R b c
   refine H _ _ (sR fun _ S=>Ym (.int .u64 d.2) (eh R) (yY (ycv (k':=.i64) (by kernel_rfl) (by kernel_rfl) e0) (bE c fun c0 T c=>yH (rMk b SL_22 e0 T) fun g w b=>Ya g.v e0 (wK S (sR fun _ U=>Ym g.v e0 ?_)))))
   refine Ym k.v (eh O) (bE c fun V W c=>YV wn rfl (rCp b SL_22 rfl e0 (.inr ⟨rfl,rfl,rfl⟩) e0 (rdI t) W) fun w b=>Ya (iV V.2) e0 (wK U (sQ fun _ X=>blockQ fun Z a0=>bE c fun a1 a3 c=>?_)))
   have a4:∀ (q:LI) (f:FV) w,f 7=g.v→St w0 ros (row 3 I1 g.v q::rs) w→q=a1→Z (.exit 0) (fr 48 f) w:=by
    intro q f w a5 b ho
    subst ho
    refine a0 _ _ _ (X _ _ (sR fun _ a6=>Ym g.v (eh a5) (Ya g.v e0 (wK a6 (wp_ret ?_)))))
    cases c
    exact z _ _ _ (fin1r Tryz.results72 ⟨rfl,rfl⟩ ⟨_,rfl,b⟩)
   refine loopQ (fun s a w=>∃ (r:LI) (j:Int) (f:FV),(r,j)=s∧a=fr 48 f∧f 7=g.v∧f 8=iV j∧St w0 ros (row 3 I1 g.v r::rs) w) a3 ⟨_,_,_,rfl,rfl,rfl,rfl,b⟩ ?_
   rintro _ _ w c1 ⟨r,j,f,rfl,rfl,m,n,b⟩ h a7 c2 a8 a9
   refine seqQ fun c3 b0 b1=>sR fun _ b2=>Ym (iV j) (eh n) (Ym g.v (eh m) (yY (yLen SL_22 e0 b rO0) (yY (ylss e0 e0) (wK b2 ?_))))
   refine cIf e0 h (fun b3 h=>?_) fun b3 h=>?_
   ·refine wp_skip (b0 _ _ (blockQ fun _ b4=>bE h fun c4 b5 h=>bE h fun c5 y h=>bE h fun b6 b7 h=>dR [0,0,0,6,0,0,48,126,255,511] [7,9] 2 folM ?_))
    replace b:=b.drew
    refine Dn [0,1,2,3,4,5,6] [] [7] (yR rfl (m_ (iV j) (eh n)) (yR rfl (m_ g.v (eh m)) (yR rfl (m_ (iV j) (eh n)) (yR rfl (ySl (k2:=.i64) SL_22 e0 b rO0 (.inl (congrArg some e0)) (.inr ⟨rfl,rfl⟩) b5) (yR rfl (m_ g.v (eh m)) (yR rfl (m_ (iV j) (eh n)) (yR rfl (ySl (k1:=.i64) SL_22 e0 b rO0 (.inr ⟨rfl,rfl⟩) (.inl (congrArg some e0)) y) (Rn QSn ?_))))))))
    refine Lc1 rfl ?_
    refine LV wn (rCp b SL_22 rfl e0 (.inl rfl) e0 (rdSub rO0 y) b7) fun w b=>Dn [8] [0] [9] (yR rfl (yadd e0 e0) (Rn (yS rfl (m_ (iV j) (eh n)) QSn) ?_))
    refine Lc1 rfl ?_
    refine Ly wn (a_ (iV (wa .i64 j b6.2)) e0) (Dz [] [] (Rn QSn (b4 _ _ _ ?_)))
    cases h
    exact a8 _ _ _ rfl ⟨_,_,_,rfl,rfl,m,rfl,b⟩
   ·refine wp_exit (b1 _ _ _ rfl ?_)
    cases h
    exact a9 _ _ _ _ rfl rfl (a4 _ _ _ m b (a7 _ rfl))
  refine cB (eh L) c (fun b8 c=>?_) fun b8 c=>?_
  ·cases c
  ·exact wp_skip (N _ _ J K b c)
 refine cIf e0 c (fun b9 c=>?_) fun b9 c=>?_
 ·cases c
 ·exact wp_skip (C _ _ rfl rfl b c)
theorem dissect_units_ok {t:L2} {c:Hdr} {out:L2×LI×L2} (q:dissect_units t=some out) (i:imm S1 c.v t∈ros) (b:St w0 ros rs w):
  Calls Tryz.prog 85 #[.agg #[c.v]] w (fun e w=>∃ (D E F:Hdr),e=.returned (.agg #[D.v,E.v,F.v])∧St w0 (imm S1 D.v out.1::ros) (row 3 I1 E.v out.2.1::row 22 S1 F.v out.2.2::rs) w):=by
 refine enterQ Tryz.func85 rfl Tryz.ntmps85 rfl fun Q R=>sR fun _ S=>yBb (r_box (vals:=[c.v]) b e0 rfl) fun G w b=>yBb (rAl b ZT_28) fun o w b=>wK S (sQ fun _ T=>bE q fun u x q=>?_)
 refine joinN (n:=31) (fun f w=>∃ (j:Nat) (g:Hdr),f 1=(pB G)∧f 2=(pB o)∧f 3=(pB j)∧St w0 ros (box G 26 [c.v]::box o 28 [hnil.v,hnil.v,hnil.v]::row 3 I1 g.v u::box j 28 [c.v,g.v,hnil.v]::rs) w) (fun y=>?_) ?_
 ·refine dR [0,0,0,4,12,30,63,0,255] [1,5,7,8] 4 folM ?_
  replace b:=b.drew
  refine Dn [0,2,3,4] [] [1,7] (yR rfl (lbs_ [c.v] ST_26 e0 b R1) (yR rfl (yFb FL_26_0 e0) (yR rfl (lb_ c.v O_24 e0 b R1) (yR rfl (yLen SL_24 e0 b (rdI i)) (Rn QSn ?_)))))
  refine Lc rfl ?_ (Lc1 rfl ?_)
  ·refine LH wn (rLt (n:=1) (l:=[1]) b SL_22 [iV 1] (bp1 rfl) rfl rfl (mks1 (cs:=[iV 1]) rfl mkI mks0)) fun U w b=>Dn [] [0,2,3,4] [5,7] (Rn (yS rfl (lbs_ [c.v] ST_26 e0 b R2) (yS rfl (yFb FL_26_0 e0) (yS rfl (lb_ c.v O_24 e0 b R2) (yS rfl (yLen SL_24 e0 b (rdI i)) QSn)))) ?_)
   refine Lc rfl ?_ (Lc1 rfl ?_)
   ·replace b:=b.fz
    refine Lk wn (yCall FN_72 (a2 e0 e0)) (slices_Repeat_int_ok x F0 b) ?_
    rintro _ w ⟨d,rfl,b⟩
    refine ⟨_,rfl,?_⟩
    refine Dn [6] [0] [7] (yR rfl (ybuild (us:=[c.v,d.v,hnil.v]) [(0,.agg #[c.v]),(1,d.v)] SO_28 (bp2 e0 e0) rfl) (Rn (yS rfl (lbs_ [c.v] ST_26 e0 b R2) QSn) ?_))
    refine Lc1 rfl ?_
    refine LB wn (rAl b ZT_28) fun H w b=>Dn [] [0,6] [8] (Rn (yS rfl (lbs_ [c.v] ST_26 e0 b R3) (yS rfl (ybuild (us:=[c.v,d.v,hnil.v]) [(0,.agg #[c.v]),(1,d.v)] SO_28 (bp2 e0 e0) rfl) QSn)) ?_)
    refine Lc1 rfl ?_
    exact LT wn (r_stbn (vals':=[c.v,d.v,hnil.v]) (us:=[c.v,d.v,hnil.v]) b ST_28 e0 e0 rfl rfl (one_of rfl) rfl) fun w b=>Dz [] [] (Rn QSn (y _ _ ⟨_,_,rfl,rfl,rfl,((b.pk 4 [3,2,1,0] rfl).facts (allT allI))⟩))
   ·refine LB wn (rAl b ZT_28) fun H w b=>Dn [] [0,2,3,4] [5] (Rn (yS rfl (lbs_ [c.v] ST_26 e0 b R3) (yS rfl (yFb FL_26_0 e0) (yS rfl (lb_ c.v O_24 e0 b R3) (yS rfl (yLen SL_24 e0 b (rdI i)) QSn)))) ?_)
    refine Lc1 rfl ?_
    replace b:=(b.pk 2 [1,0] rfl).fz
    refine Lk wn (yCall FN_72 (a2 e0 e0)) (slices_Repeat_int_ok x F0 b) ?_
    rintro _ w ⟨d,rfl,b⟩
    refine ⟨_,rfl,?_⟩
    refine Dn [6] [0] [8] (yR rfl (ybuild (us:=[c.v,d.v,hnil.v]) [(0,.agg #[c.v]),(1,d.v)] SO_28 (bp2 e0 e0) rfl) (Rn (yS rfl (lbs_ [c.v] ST_26 e0 b R3) QSn) ?_))
    refine Lc1 rfl ?_
    replace b:=b.pk 2 [1,0] rfl
    exact LT wn (r_stbn (vals':=[c.v,d.v,hnil.v]) (us:=[c.v,d.v,hnil.v]) b ST_28 e0 e0 rfl rfl (one_of rfl) rfl) fun w b=>Dz [] [] (Rn QSn (y _ _ ⟨_,_,rfl,rfl,rfl,((b.pk 4 [3,2,1,0] rfl).facts (allT allI))⟩))
  ·refine LB wn (rAl b ZT_28) fun H w b=>Dn [] [0,2,3,4] [1] (Rn (yS rfl (lbs_ [c.v] ST_26 e0 b R2) (yS rfl (yFb FL_26_0 e0) (yS rfl (lb_ c.v O_24 e0 b R2) (yS rfl (yLen SL_24 e0 b (rdI i)) QSn)))) ?_)
   refine Lc1 rfl ?_
   refine LH wn (rLt (n:=1) (l:=[1]) b SL_22 [iV 1] (bp1 rfl) rfl rfl (mks1 (cs:=[iV 1]) rfl mkI mks0)) fun U w b=>Dn [] [0,2,3,4] [5] (Rn (yS rfl (lbs_ [c.v] ST_26 e0 b R3) (yS rfl (yFb FL_26_0 e0) (yS rfl (lb_ c.v O_24 e0 b R3) (yS rfl (yLen SL_24 e0 b (rdI i)) QSn)))) ?_)
   refine Lc1 rfl ?_
   replace b:=b.fz
   refine Lk wn (yCall FN_72 (a2 e0 e0)) (slices_Repeat_int_ok x F0 b) ?_
   rintro _ w ⟨d,rfl,b⟩
   refine ⟨_,rfl,?_⟩
   refine Dn [6] [0] [8] (yR rfl (ybuild (us:=[c.v,d.v,hnil.v]) [(0,.agg #[c.v]),(1,d.v)] SO_28 (bp2 e0 e0) rfl) (Rn (yS rfl (lbs_ [c.v] ST_26 e0 b R3) QSn) ?_))
   refine Lc1 rfl ?_
   replace b:=b.pk 2 [1,0] rfl
   exact LT wn (r_stbn (vals':=[c.v,d.v,hnil.v]) (us:=[c.v,d.v,hnil.v]) b ST_28 e0 e0 rfl rfl (one_of rfl) rfl) fun w b=>Dz [] [] (Rn QSn (y _ _ ⟨_,_,rfl,rfl,rfl,((b.pk 4 [3,2,1,0] rfl).facts (allT allI))⟩))
 rintro f w ⟨j,g,V,W,X,b⟩
 refine T _ _ (sQ fun _ Z=>sR fun _ a0=>yY (yFb FL_26_0 (eh V)) (yY (lb_ c.v O_24 e0 b R0) (yY (yLen SL_24 e0 b (rdI i)) (Ym (iV 0) rfl (wK a0 (blockQ fun a1 a3=>bE q fun a4 a5 q=>?_))))))
 have a6:∀ (z:L2) (p:Hdr) (f:FV) w,f 2=(pB o)→f 3=(pB j)→St w0 ros (box o 28 [hnil.v,hnil.v,hnil.v]::row 3 I1 g.v u::row 22 S1 p.v z::box j 28 [c.v,g.v,p.v]::rs) w→z=a4→a1 (.exit 0) (fr 31 f) w:=by
  intro z p f w I a7 b ho
  subst ho
  refine a3 _ _ _ (Z _ _ (sR fun _ a8=>yY (lbs_ [c.v,g.v,p.v] ST_28 (eh a7) b R3) (yT (r_stbn (vals':=[c.v,g.v,p.v]) (us:=[c.v,g.v,p.v]) b ST_28 (eh I) e0 rfl rfl (one_of rfl) rfl) fun w b=>wK a8 (wp_ret ?_))))
  cases q
  exact R _ _ _ (fin1r Tryz.results85 (rcs2 rfl I b R0 ST_28 rfl) ⟨_,_,_,rfl,((b.pk 4 [1,1] rfl).facts (allC i allI))⟩)
 replace b:=b.rowNh 22 S1
 refine loopQ (fun s a w=>∃ (A:L2) (r:Int) (f:FV) (k:Hdr),(A,r)=s∧a=fr 31 f∧f 2=(pB o)∧f 3=(pB j)∧f 14=c.v∧f 15=iV (t.length:Int)∧f 16=iV r∧St w0 ros (box o 28 [hnil.v,hnil.v,hnil.v]::row 3 I1 g.v u::row 22 S1 k.v A::box j 28 [c.v,g.v,k.v]::rs) w) a5 ⟨_,_,_,_,rfl,rfl,W,X,rfl,rfl,rfl,(b.pk 5 [2,2,0,1] rfl)⟩ ?_
 rintro _ _ w c7 ⟨A,r,f,k,rfl,rfl,J,m,K,L,B,b⟩ h a9 c8 b0 b1
 refine sR fun _ b2=>yY (ylss (eh B) (eh L)) (wK b2 (seqQ fun c9 b5 b6=>?_))
 refine cIf e0 h (fun b7 h=>?_) fun b7 h=>?_
 ·refine wp_skip (b5 _ _ (sQ fun _ c0=>blockQ fun _ c1=>sR fun _ c2=>bE h fun d0 N h=>yY (yIa SL_24 (eh K) (eh B) b (rdI i) N) ?_))
  obtain ⟨C,b⟩:=iLs b i N
  refine yY (yCt O_22 e0 b F1 rfl) (Ya C.v e0 (wK c2 (bE h fun c3 c4 h=>bE h fun d1 c5 h=>dR [0,1,0,0,8,28,60,127,255,511] [2,5,6,7,9] 5 folM ?_)))
  replace b:=b.drew
  refine Dn [0,1,3,4] [] [2] (yR rfl (yFb FL_28_2 (eh m)) (yR rfl (lb_ k.v O_24 e0 b R3) (yR rfl (m_ C.v e0) (yR rfl (yLen SL_22 e0 b (rdI F0)) (Rn QSn ?_)))))
  refine Lc1 rfl ?_
  refine LH wn (rLt (n:=1) (l:=[1]) b SL_22 [iV 1] (bp1 rfl) rfl rfl (mks1 (cs:=[iV 1]) rfl mkI mks0)) fun d2 w b=>Dn [] [0,1,3,4] [5] (Rn (yS rfl (yFb FL_28_2 (eh m)) (yS rfl (lb_ k.v O_24 e0 b R4) (yS rfl (m_ C.v e0) (yS rfl (yLen SL_22 e0 b (rdI F0)) QSn)))) ?_)
  refine Lc1 rfl ?_
  replace b:=b.fz
  refine Lk wn (yCall FN_72 (a2 e0 e0)) (slices_Repeat_int_ok c4 F0 b) ?_
  rintro _ w ⟨O,rfl,b⟩
  refine ⟨_,rfl,?_⟩
  refine Dn [] [0,1] [6] (Rn (yS rfl (yFb FL_28_2 (eh m)) (yS rfl (lb_ k.v O_24 e0 b R4) QSn)) ?_)
  refine Lc1 rfl ?_
  replace b:=b.fz
  refine LH wn (rLt (n:=1) (l:=[c3]) b SL_24 [O.v] (bp1 e0) rfl rfl (mks1 (cs:=[O.v]) rfl (mkS F0) mks0)) fun d3 w b=>Dn [] [0,1] [7] (Rn (yS rfl (yFb FL_28_2 (eh m)) (yS rfl (lb_ k.v O_24 e0 b R4) QSn)) ?_)
  refine Lc1 rfl ?_
  replace b:=b.pk 4 [3,0,0,0] rfl
  refine LH wn (rAp b SL_24 e0 e0 rO1 c5) fun c6 w b=>Dn [8] [] [9] (yR rfl (yFb FL_28_2 (eh m)) (Rn QSn ?_))
  refine Lc1 rfl ?_
  replace b:=b.pk 5 [4,0,0,0,0] rfl
  refine LT wn (r_stb1 (vals':=[c.v,g.v,c6.v]) b O_24 e0 e0 rfl rfl rfl rfl) fun w b=>Dz [] [] (Rn QSn (c1 _ _ _ (c0 _ _ (wR (yY (yadd (eh B) rfl) (Ym (iV (wa .i64 r 1)) e0 (wN ?_)))))))
  cases h
  exact b0 _ _ _ rfl ⟨_,_,_,_,rfl,rfl,J,m,K,L,rfl,((b.pk 5 [3,3,1,0] rfl).facts (allT (allT (allT (allT allI)))))⟩
 ·refine wp_exit (b6 _ _ _ rfl ?_)
  cases h
  exact b1 _ _ _ _ rfl rfl (a6 _ _ _ _ J m b (a9 _ rfl))
theorem dissect_total_ok {j:LI} {h:Hdr} {out:Int} (k:dissect_total j=some out) (l:imm I1 h.v j∈ros) (b:St w0 ros rs w):
  Calls Tryz.prog 96 #[h.v] w (fun e w=>e=.returned (iV out)∧St w0 ros rs w):=by
 refine enterQ Tryz.func96 rfl Tryz.ntmps96 rfl fun Q t=>sR fun _ u=>Ya (iV 0) rfl (wK u (sR fun _ x=>Ya (iV 0) rfl (wK x (sQ fun _ y=>sR fun _ z=>?_))))
 refine Ym h.v e0 (yY (yLen SL_22 e0 b (rdI l)) (Ym (iV 0) rfl (wK z (blockQ fun A B=>bE k fun C D k=>?_))))
 have E:∀ (d:Int) (f:FV) w,f 3=iV d→St w0 ros rs w→d=C→A (.exit 0) (fr 17 f) w:=by
  intro d f w F b ho
  subst ho
  refine B _ _ _ (y _ _ (sR fun _ G=>Ym (iV d) (eh F) (Ya (iV d) e0 (wK G (wp_ret ?_)))))
  cases k
  exact t _ _ _ (fin1r Tryz.results96 ⟨rfl,rfl⟩ ⟨rfl,b⟩)
 refine loopQ (fun s a w=>∃ (g i:Int) (f:FV),(g,i)=s∧a=fr 17 f∧f 3=iV g∧f 6=h.v∧f 7=iV (j.length:Int)∧f 8=iV i∧St w0 ros rs w) D ⟨_,_,_,rfl,rfl,rfl,rfl,rfl,rfl,b⟩ ?_
 rintro _ _ w U ⟨g,i,f,rfl,rfl,o,p,q,m,b⟩ c H V I J
 refine sR fun _ K=>yY (ylss (eh m) (eh q)) (wK K (seqQ fun W L N=>?_))
 refine cIf e0 c (fun O c=>?_) fun O c=>?_
 ·refine wp_skip (L _ _ (sQ fun _ R=>blockQ fun _ S=>sR fun _ T=>bE c fun n r c=>yY (yIa SL_22 (eh p) (eh m) b (rdI l) r) (yY (yI O_3 e0 b (rdI l) r) (Ya (iV n) e0 (wK T (wR (Ym (iV g) (eh o) ?_)))))))
  refine Ym (iV n) e0 (yY (yadd e0 e0) (Ya (iV (wa .i64 g n)) e0 (wN (S _ _ _ (R _ _ (wR (yY (yadd (eh m) rfl) (Ym (iV (wa .i64 i 1)) e0 (wN ?_)))))))))
  cases c
  exact I _ _ _ rfl ⟨_,_,_,rfl,rfl,rfl,p,q,rfl,b⟩
 ·refine wp_exit (N _ _ _ rfl ?_)
  cases c
  exact J _ _ _ _ rfl rfl (E _ _ _ o b (H _ rfl))
theorem graph_levels_ok {b5:L2} {q:Int} {j:Hdr} {out:L2} (p:graph_levels b5 q=some out) (G:imm S1 j.v b5∈ros) (b:St w0 ros rs w):
  Calls Tryz.prog 117 #[.agg #[j.v],iV q] w (fun e w=>∃ (b6:Hdr),e=.returned (b6.v)∧St w0 ros (row 22 S1 b6.v out::rs) w):=by
 refine enterQ Tryz.func117 rfl Tryz.ntmps117 rfl fun Q d2=>sR fun _ d3=>yBb (r_box (vals:=[j.v]) b e0 rfl) fun h w b=>Ya hnil.v rfl (wK d3 (sR fun _ d4=>yY (yFb FL_26_0 e0) (yY (lb_ j.v O_24 e0 b R0) (yY (yLen SL_24 e0 b (rdI G)) (bE p fun n2 d5 p=>?_)))))
 refine yH (rMk b SL_93 e0 d5) fun d w b=>Ya d.v e0 (wK d4 (sR fun _ d6=>Ym d.v e0 (Ym (iV q) e0 (bE p fun n3 b7 p=>yY (yIs SL_93 e0 e0 b rO0 b7) (yT (r_sti (cs:=[.bool true]) b O_4 rfl e0 rfl rfl mkB b7) fun w b=>wN ?_)))))
 refine d6 _ _ (sR fun _ d7=>Ya hnil.v rfl (wK d7 (sQ fun _ d8=>sR fun _ d9=>Ym (iV q) e0 (yH (rLt (n:=1) (l:=[q]) b SL_22 [iV q] (bp1 e0) rfl rfl (mks1 (cs:=[iV q]) rfl mkI mks0)) fun e1 w b=>Ya e1.v e0 (wN ?_)))))
 refine d9 _ _ (blockQ fun e2 e3=>bE p fun e4 e5 p=>?_)
 have e6:∀ (H:L2) (y:Hdr) (f:FV) w,f 6=y.v→St w0 ros (row 22 S1 y.v H::rs) w→H=e4→e2 (.exit 0) (fr 63 f) w:=by
  intro H y f w e7 b ho
  subst ho
  refine e3 _ _ _ (d8 _ _ (sR fun _ e8=>Ym y.v (eh e7) (Ya y.v e0 (wK e8 (wp_ret ?_)))))
  cases p
  exact d2 _ _ _ (fin1r Tryz.results117 ⟨rfl,rfl⟩ ⟨_,rfl,b⟩)
 replace b:=b.rowNh 22 S1
 refine loopQ (fun s a w=>∃ (I:List Bool) (J:L2) (i:LI) (f:FV) (B g:Hdr),(I,J,i)=s∧a=fr 63 f∧f 2=(pB h)∧f 5=d.v∧f 6=B.v∧f 7=g.v∧St w0 ros (box h 26 [j.v]::row 4 rB d.v I::row 22 S1 B.v J::row 3 I1 g.v i::rs) w) e5 ⟨_,_,_,_,_,_,rfl,rfl,rfl,rfl,rfl,rfl,(b.pk 4 [3,2,0,0] rfl)⟩ ?_
 rintro _ _ w n4 ⟨I,J,i,f,B,g,rfl,rfl,e9,f0,b8,K,b⟩ k f1 n5 f2 f3
 refine seqQ fun n6 f4 f5=>sR fun _ f6=>Ym g.v (eh K) (yY (yLen SL_22 e0 b rO3) (yY (ygtr e0 rfl) (wK f6 ?_)))
 refine cIf e0 k (fun f7 k=>?_) fun f7 k=>?_
 ·refine wp_skip (f4 _ _ (blockQ fun _ f8=>sR fun _ f9=>Ym B.v (eh b8) (Ym g.v (eh K) (yH (rLt (n:=1) (l:=[i]) ((b.pk 4 [3,0,0,0] rfl).fz) SL_24 [g.v] (bp1 e0) rfl rfl (mks1 (cs:=[g.v]) rfl (mkS F0) mks0)) fun n7 w b=>bE k fun z g0 k=>yH (rAp (b.pk 4 [3,0,0,0] rfl) SL_24 e0 e0 rO1 g0) fun m w b=>Ya m.v e0 (wN ?_)))))
  refine f9 _ _ (sR fun _ g1=>Ya hnil.v rfl (wK g1 (sQ fun _ g2=>sR fun _ g3=>Ym g.v (eh K) (yY (yLen SL_22 e0 b (rdI F0)) (Ym (iV 0) rfl (wK g3 ?_))))))
  refine blockQ fun g4 g5=>bE k fun g6 g7 k=>?_
  have g8:∀ (L:List Bool) (N:LI) (u:Hdr) (f:FV) w,f 2=(pB h)→f 5=d.v→f 6=m.v→f 8=u.v→St w0 ros (box h 26 [j.v]::row 4 rB d.v L::row 22 S1 m.v z::row 3 I1 u.v N::rs) w→(L,N)=g6→g4 (.exit 2) (fr 63 f) w:=by
   intro L N u f w g9 h0 h1 b9 b ho
   subst ho
   refine g5 _ _ _ (g2 _ _ (sR fun _ h3=>Ym u.v (eh b9) (bE k fun n8 h4 k=>?_)))
   replace b:=b.pk 4 [3,0,0,0] rfl
   refine yC (yCall FN_118 (a1 e0)) (sortI_ok h4 b) ?_
   rintro _ w ⟨rfl,b⟩
   refine ⟨_,rfl,?_⟩
   refine wK h3 (wR (Ym u.v (eh b9) (Ya u.v e0 (wN (f8 _ _ _ ?_)))))
   cases k
   exact f2 _ _ _ rfl ⟨_,_,_,_,_,_,rfl,rfl,g9,h0,h1,rfl,(b.pk 4 [1,1,1,0] rfl)⟩
  replace b:=b.rowNh 3 I1
  refine loopQ (fun s a w=>∃ (O:List Bool) (R:LI) (r:Int) (f:FV) (S:Hdr),(O,R,r)=s∧a=fr 63 f∧f 2=(pB h)∧f 5=d.v∧f 6=m.v∧f 8=S.v∧f 29=g.v∧f 30=iV (i.length:Int)∧f 31=iV r∧St w0 (imm I1 g.v i::ros) (box h 26 [j.v]::row 4 rB d.v O::row 22 S1 m.v z::row 3 I1 S.v R::rs) w) g7 ⟨_,_,_,_,_,rfl,rfl,e9,f0,rfl,rfl,rfl,rfl,rfl,(b.pk 5 [3,3,1,0] rfl)⟩ ?_
  rintro _ _ w n9 ⟨O,R,r,f,S,rfl,rfl,T,c0,c1,c2,c3,c4,U,b⟩ o h6 o0 h7 h8
  refine sR fun _ i0=>yY (ylss (eh U) (eh c4)) (wK i0 (seqQ fun o1 i1 i2=>?_))
  refine cIf e0 o (fun i3 o=>?_) fun i3 o=>?_
  ·refine wp_skip (i1 _ _ (sQ fun _ i4=>blockQ fun _ i5=>sR fun _ i6=>bE o fun c5 c6 o=>yY (yIa SL_22 (eh c3) (eh U) b (rdI F0) c6) (yY (yI O_3 e0 b (rdI F0) c6) (Ya (iV c5) e0 (wK i6 (sR fun _ i7=>?_))))))
   refine yY (yFb FL_26_0 (eh T)) (yY (lb_ j.v O_24 e0 b R0) (Ym (iV c5) e0 (bE o fun C c7 o=>yY (yIa SL_24 e0 e0 b (rdI (mtF G)) c7) ?_)))
   obtain ⟨D,b⟩:=iLs b (mtF G) c7
   refine yY (yCt O_22 e0 b F1 rfl) (yY (yLen SL_22 e0 b (rdI F0)) (Ym (iV 0) rfl (wK i7 (blockQ fun i8 i9=>bE o fun j0 j1 o=>?_))))
   have j2:∀ (V:List Bool) (W:LI) (X:Hdr) (f:FV) w,f 2=(pB h)→f 5=d.v→f 6=m.v→f 8=X.v→f 29=g.v→f 30=iV (i.length:Int)→f 31=iV r→St w0 (imm I1 g.v i::ros) (box h 26 [j.v]::row 4 rB d.v V::row 22 S1 m.v z::row 3 I1 X.v W::rs) w→(V,W)=j0→i8 (.exit 4) (fr 63 f) w:=by
    intro V W X f w j3 j4 j5 j6 j7 j8 j9 b ho
    subst ho
    refine i9 _ _ _ (i5 _ _ _ (i4 _ _ (wR (yY (yadd (eh j9) rfl) (Ym (iV (wa .i64 r 1)) e0 (wN ?_))))))
    cases o
    exact h7 _ _ _ rfl ⟨_,_,_,_,_,rfl,rfl,j3,j4,j5,j6,j7,j8,rfl,b⟩
   refine loopQ (fun s a w=>∃ (Z:List Bool) (a0:LI) (x:Int) (f:FV) (E:Hdr),(Z,a0,x)=s∧a=fr 63 f∧f 2=(pB h)∧f 5=d.v∧f 6=m.v∧f 8=E.v∧f 29=g.v∧f 30=iV (i.length:Int)∧f 31=iV r∧f 39=D.v∧f 40=iV (C.length:Int)∧f 41=iV x∧St w0 (imm I1 g.v i::imm I1 D.v C::ros) (box h 26 [j.v]::row 4 rB d.v Z::row 22 S1 m.v z::row 3 I1 E.v a0::rs) w) j1 ⟨_,_,_,_,_,rfl,rfl,T,c0,c1,c2,c3,c4,U,rfl,rfl,rfl,(b.facts (allC F2 (allC F0 (allT (allT (allT allI))))))⟩ ?_
   rintro _ _ w k0 ⟨Z,a0,x,f,E,rfl,rfl,a2,A,a3,a4,a5,a6,a7,a8,a9,F,b⟩ c k7 o2 k8 k9
   refine sR fun _ l0=>yY (ylss (eh F) (eh a9)) (wK l0 (seqQ fun o3 l1 l2=>?_))
   refine cIf e0 c (fun l3 c=>?_) fun l3 c=>?_
   ·refine wp_skip (l1 _ _ (sQ fun _ l4=>blockQ fun l5 l6=>sR fun _ l7=>bE c fun t c8 c=>yY (yIa SL_22 (eh a8) (eh F) b (rdI F1) c8) (yY (yI O_3 e0 b (rdI F1) c8) (Ya (iV t) e0 (wK l7 (sR fun _ l8=>?_))))))
    refine Ym d.v (eh A) (Ym (iV t) e0 (bE c fun o4 c9 c=>yY (yIa SL_93 e0 e0 b rO1 c9) (yY (yB O_4 e0 b rO1 c9) (yY (ynot e0) (wK l8 ?_)))))
    have d0:∀ (b0:List Bool) (b1:LI) (b2:Hdr) (f:FV) w,f 2=(pB h)→f 5=d.v→f 6=m.v→f 8=b2.v→f 29=g.v→f 30=iV (i.length:Int)→f 31=iV r→f 39=D.v→f 40=iV (C.length:Int)→f 41=iV x→St w0 (imm I1 g.v i::imm I1 D.v C::ros) (box h 26 [j.v]::row 4 rB d.v b0::row 22 S1 m.v z::row 3 I1 b2.v b1::rs) w→graph_levels_j40 x b0 b1=some k0→l5 .normal (fr 63 f) w:=by
     intro b0 b1 b2 f w l9 m0 m1 m2 m3 m4 m5 m6 m7 m8 b p
     refine l6 _ _ _ (l4 _ _ (wR (yY (yadd (eh m8) rfl) (Ym (iV (wa .i64 x 1)) e0 (wN ?_)))))
     cases p
     exact k8 _ _ _ rfl ⟨_,_,_,_,_,rfl,rfl,l9,m0,m1,m2,m3,m4,m5,m6,m7,rfl,b⟩
    rcases iteS c with ⟨b3,c⟩ | ⟨b3,c⟩
    ·exact condF e0 (nF b3) (wp_skip (d0 _ _ _ _ _ a2 A a3 a4 a5 a6 a7 a8 a9 F b c))
    ·refine condT e0 (nT (bfalse b3)) (sR fun _ m9=>Ym d.v (eh A) (Ym (iV t) e0 (bE c fun o5 d1 c=>yY (yIs SL_93 e0 e0 b rO1 d1) (yT (r_sti (cs:=[.bool true]) (b.pk 2 [1,0] rfl) O_4 rfl e0 rfl rfl mkB d1) fun w b=>wK m9 (wR (Ym E.v (eh a4) (Ym (iV t) e0 ?_)))))))
     exact yH (rLt (n:=1) (l:=[t]) b SL_22 [iV t] (bp1 e0) rfl rfl (mks1 (cs:=[iV t]) rfl mkI mks0)) fun o6 w b=>bE c fun o7 n0 c=>yH (rAp (b.pk 5 [4,0,0,0,0] rfl) SL_22 e0 e0 rO1 n0) fun n1 w b=>Ya n1.v e0 (wN (d0 _ _ _ _ _ a2 A a3 rfl a5 a6 a7 a8 a9 F (b.pk 5 [3,2,2,0] rfl) c))
   ·refine wp_exit (l2 _ _ _ rfl ?_)
    cases c
    exact k9 _ _ _ _ rfl rfl (j2 _ _ _ _ _ a2 A a3 a4 a5 a6 a7 (b.facts (allC F0 (allT (allT allI)))) (k7 _ rfl))
  ·refine wp_exit (i2 _ _ _ rfl ?_)
   cases o
   exact h8 _ _ _ _ rfl rfl (g8 _ _ _ _ _ T c0 c1 c2 (b.facts (allT allI)) (h6 _ rfl))
 ·refine wp_exit (f5 _ _ _ rfl ?_)
  cases k
  exact f3 _ _ _ _ rfl rfl (e6 _ _ _ _ b8 (b.pk 4 [2] rfl) (f1 _ rfl))
theorem slices_Grow_int_ok {c:Int} {out:LI} (a:slices_Grow_int c=some out) (b:St w0 ros rs w):
  Calls Tryz.prog 119 #[hnil.v,iV c] w (fun e w=>∃ (i:Hdr),e=.returned (i.v)∧St w0 ros (row 3 I1 i.v out::rs) w):=by
 refine enterQ Tryz.func119 rfl Tryz.ntmps119 rfl fun Q l=>sR fun _ k1=>Ya hnil.v rfl (wK k1 (sQ fun m n=>sR fun _ o=>Ym (iV c) e0 (yY (ylss e0 rfl) (wK o ?_))))
 have p:∀ (f:FV) w,f 0=hnil.v→f 1=iV c→St w0 ros rs w→slices_Grow_int_j1 c=some out→m .normal (fr 27 f) w:=by
  intro f w d q b a
  refine n _ _ (sQ fun r s=>sR fun _ t=>Ym (iV c) (eh q) (Ym hnil.v (eh d) (yY (yCapN (by kernel_rfl:Tryz.prog.underlying 22=some (.slice 3)) e0) (Ym hnil.v (eh d) (yY (yLen SL_22 e0 b rdN) (yY (ysub e0 e0) (yY (ysub e0 e0) (Ya (iV (ws .i64 c (ws .i64 0 0))) e0 (wK t ?_)))))))))
  refine sR fun _ u=>Ym (iV (ws .i64 c (ws .i64 0 0))) e0 (yY (ygtr e0 rfl) (wK u ?_))
  have j:∀ (h:LI) (g:Hdr) (f:FV) w,f 0=g.v→St w0 ros (row 3 I1 g.v h::rs) w→slices_Grow_int_j2 h=some out→r .normal (fr 27 f) w:=by
   intro h g f w x b a
   refine s _ _ (sR fun _ y=>Ym g.v (eh x) (Ya g.v e0 (wK y (wp_ret ?_))))
   cases a
   exact l _ _ _ (fin1r Tryz.results119 ⟨rfl,rfl⟩ ⟨_,rfl,b⟩)
  refine cIf e0 a (fun z a=>?_) fun z a=>?_
  ·refine wR (Ym hnil.v (eh d) (Ym hnil.v (eh d) (yY (yCapN (by kernel_rfl:Tryz.prog.underlying 22=some (.slice 3)) e0) (yY (ySlN SL_22 e0 e0) (Ym (iV (ws .i64 c (ws .i64 0 0))) e0 (bE a fun D A a=>yH (rZn b SL_22 (by kernel_rfl:Tryz.prog.underlying 3=some (.int .i64)) e0 e0 A) fun E w b=>Ym hnil.v (eh d) (yY (yLen SL_22 e0 b rdN) (bE a fun F k a=>yY (ySl (k1:=.i64) (hi:=(0:Int)) SL_22 e0 b rO0 (.inr ⟨rfl,rfl⟩) (.inl (congrArg some e0)) k) ?_))))))))
   obtain ⟨B,eh12,b⟩:=b.resl k
   rw [← eh12]
   exact Ya B.v e0 (wN (j _ _ _ _ rfl b a))
  ·refine wp_skip ?_
   replace b:=b.rowNh 3 I1
   exact j _ _ _ _ d b a
 refine cIf e0 a (fun C a=>?_) fun C a=>?_
 ·cases a
 ·exact wp_skip (p _ _ rfl rfl b a)
end Go.Proofs.YthpeajepbffinaaGreat
