/- Walks: each function computes its model, printed. -/
import Derived.Test.YthpeajepbffinaaGreatSxP
import Derived.Test.YthpeajepbffinaaGreatTy
import Derived.Test.YthpeajepbffinaaGreatM8
import Derived.Test.YthpeajepbffinaaGreatSxV
import Derived.Test.YthpeajepbffinaaGreatSxS
namespace Go.Proofs.YthpeajepbffinaaGreat
open Go Sx M
set_option maxRecDepth 100000
set_option maxHeartbeats 40000000
set_option linter.unusedVariables false
attribute [local irreducible] wpList Code.wp Calls DR QR QS LA LS St
variable {w0:World} {ros:List Fact} {rs:List Res} {w:World}
theorem sparselaw18_smallGraph_ok {c:L2} {j:Int} {h:Hdr} {out:Bool} (k:sparselaw18_smallGraph c j=some out) (m:imm S1 h.v c∈ros) (b:St w0 ros rs w):
  Calls Tryz.prog 25 #[.agg #[h.v],iV j] w (fun e w=>e=.returned (.bool out)∧St w0 ros rs w):=by
 refine enterQ Tryz.func25 rfl Tryz.ntmps25 rfl fun Q o=>sR fun _ C=>yBb (r_box (vals:=[h.v]) b e0 rfl) fun n w b=>Ya (.bool false) rfl (wK C (seqQ fun a4 D E=>sR fun _ F=>yY (yFb FL_26_0 e0) (yY (lb_ h.v O_24 e0 b R0) (yY (yLen SL_24 e0 b (rdI m)) ?_))))
 refine Ym (iV j) e0 (yY (ygtr e0 e0) (Ym (.bool (decide (j < (c.length:Int)))) e0 ?_))
 refine joinW 5 (fun f w=>f 2=(pB n)∧f 16=.bool ((decide (j < (c.length:Int))) && (decide ((c.length:Int)≤200)))∧St w0 ros (box n 26 [h.v]::rs) w) (fun t=>?_) ?_
 ·rcases Bool.eq_false_or_eq_true (decide (j < (c.length:Int))) with d | d
  ·exact yG d (yFb FL_26_0 e0) (yG d (lb_ h.v O_24 e0 b R0) (yG d (yLen SL_24 e0 b (rdI m)) (yG d (yleq e0 rfl) (yY (pt_ (.bool (decide ((c.length:Int)≤200))) e0 d e0) (t _ _ ⟨rfl,(congrArg Value.bool (andT d)),b⟩)))))
  exact gN d (gN d (gN d (gN d (yY (pf_ (.bool false) e0 d rfl) (t _ _ ⟨rfl,(congrArg Value.bool (andF d)),b⟩)))))
 rintro f w ⟨p,G,b⟩
 refine Ym (.bool ((decide (j < (c.length:Int))) && (decide ((c.length:Int)≤200)))) (eh G) ?_
 refine joinW 5 (fun f w=>f 2=(pB n)∧f 22=.bool (((decide (j < (c.length:Int))) && (decide ((c.length:Int)≤200))) || (decide ((400:Int) < (c.length:Int))))∧St w0 ros (box n 26 [h.v]::rs) w) (fun u=>?_) ?_
 ·rcases Bool.eq_false_or_eq_true ((decide (j < (c.length:Int))) && (decide ((c.length:Int)≤200))) with g | g
  ·exact gN g (gN g (gN g (gN g (yY (pt_ (.bool true) e0 g rfl) (u _ _ ⟨p,(congrArg Value.bool (orT g)),b⟩)))))
  exact yG g (yFb FL_26_0 (eh p)) (yG g (lb_ h.v O_24 e0 b R0) (yG g (yLen SL_24 e0 b (rdI m)) (yG g (ygtr e0 rfl) (yY (pf_ (.bool (decide ((400:Int) < (c.length:Int)))) e0 g e0) (u _ _ ⟨p,(congrArg Value.bool (orF g)),b⟩)))))
 rintro f w ⟨H,I,b⟩
 refine wK F (cB (eh I) k (fun J k=>?_) fun J k=>?_)
 ·refine sR fun _ K=>Ya (.bool false) rfl (wK K (wp_ret (E _ _ _ rfl ?_)))
  cases k
  exact o _ _ _ (fin1r Tryz.results25 ⟨rfl,rfl⟩ ⟨rfl,(b.pk 1 [] rfl)⟩)
 refine wp_skip (D _ _ (seqQ fun a5 L N=>sR fun _ O=>Ya (iV 0) rfl (wK O (blockQ fun _ x=>bE k fun a6 R k=>?_))))
 refine loopQ (fun s a w=>∃ (l:Int) (f:FV),l=s∧a=fr 37 f∧f 2=(pB n)∧f 5=iV l∧St w0 ros (box n 26 [h.v]::rs) w) R ⟨_,_,rfl,rfl,H,rfl,b⟩ ?_
 rintro _ _ w a7 ⟨l,f,rfl,rfl,q,r,b⟩ i y a8 S z
 refine seqQ fun a9 T U=>sR fun _ V=>Ym (iV l) (eh r) (yY (yFb FL_26_0 (eh q)) (yY (lb_ h.v O_24 e0 b R0) (yY (yLen SL_24 e0 b (rdI m)) (yY (ylss e0 e0) (wK V ?_)))))
 refine cIf e0 i (fun W i=>?_) fun W i=>?_
 ·refine wp_skip (T _ _ (seqQ fun b0 X Z=>blockQ fun _ A=>sR fun _ a0=>yY (yFb FL_26_0 (eh q)) (yY (lb_ h.v O_24 e0 b R0) (Ym (iV l) (eh r) (bE i fun b1 B i=>yY (yIa SL_24 e0 e0 b (rdI m) B) ?_)))))
  obtain ⟨b2,b⟩:=iLs b m B
  refine yY (yCt O_22 e0 b F1 rfl) (yY (yLen SL_22 e0 b (rdI F0)) (yY (ygtr e0 rfl) (wK a0 ?_)))
  refine cIf e0 i (fun a1 i=>?_) fun a1 i=>?_
  ·refine sR fun _ a2=>Ya (.bool false) rfl (wK a2 (wp_ret (A _ _ _ (Z _ _ _ rfl ?_))))
   cases i
   refine z _ _ _ _ rfl rfl ?_
   obtain rfl:=y _ rfl
   refine x _ _ _ (N _ _ _ rfl ?_)
   cases k
   exact o _ _ _ (fin1r Tryz.results25 ⟨rfl,rfl⟩ ⟨rfl,((b.pk 1 [] rfl).facts (allT (allT allI)))⟩)
  refine wp_skip (A _ _ _ (X _ _ (wR (Ym (iV l) (eh r) (yY (yadd e0 rfl) (Ya (iV (wa .i64 l 1)) e0 (wN ?_)))))))
  cases i
  exact S _ _ _ rfl ⟨_,_,rfl,rfl,q,rfl,(b.facts (allT (allT allI)))⟩
 refine wp_exit (U _ _ _ rfl ?_)
 cases i
 refine z _ _ _ _ rfl rfl ?_
 obtain rfl:=y _ rfl
 refine x _ _ _ (L _ _ (sR fun _ a3=>Ya (.bool true) rfl (wK a3 (wp_ret ?_))))
 cases k
 exact o _ _ _ (fin1r Tryz.results25 ⟨rfl,rfl⟩ ⟨rfl,(b.pk 1 [] rfl)⟩)
theorem graph_ascending_ok {l:LI} {h:Int} {j:Hdr} {out:Bool} (m:graph_ascending l h=some out) (o:imm I1 j.v l∈ros) (b:St w0 ros rs w):
  Calls Tryz.prog 81 #[j.v,iV h] w (fun e w=>e=.returned (.bool out)∧St w0 ros rs w):=by
 refine enterQ Tryz.func81 rfl Tryz.ntmps81 rfl fun Q t=>sR fun _ C=>Ya (.bool false) rfl (wK C (sR fun _ D=>Ya (iV (-1)) rfl (wK D (seqQ fun a7 E F=>sR fun _ G=>?_))))
 refine Ym j.v e0 (yY (yLen SL_22 e0 b (rdI o)) (Ym (iV 0) rfl (wK G (blockQ fun _ u=>bE m fun a8 H m=>?_))))
 refine loopQ (fun s a w=>∃ (i k:Int) (f:FV),(i,k)=s∧a=fr 24 f∧f 1=iV h∧f 5=iV i∧f 8=j.v∧f 9=iV (l.length:Int)∧f 10=iV k∧St w0 ros rs w) H ⟨_,_,_,rfl,rfl,rfl,rfl,rfl,rfl,rfl,b⟩ ?_
 rintro _ _ w a9 ⟨i,k,f,rfl,rfl,p,I,q,r,n,b⟩ c x b0 J y
 refine sR fun _ K=>yY (ylss (eh n) (eh r)) (wK K (seqQ fun b1 L N=>?_))
 refine cIf e0 c (fun O c=>?_) fun O c=>?_
 ·refine wp_skip (L _ _ (seqQ fun b2 R S=>blockQ fun _ z=>sR fun _ T=>bE c fun d A c=>yY (yIa SL_22 (eh q) (eh n) b (rdI o) A) (yY (yI O_3 e0 b (rdI o) A) (Ya (iV d) e0 (wK T (seqQ fun b3 U V=>sQ fun _ W=>?_))))))
  refine wR (Ym (iV d) e0 (Ym (iV i) (eh I) (yY (yleq e0 e0) (Ym (.bool (decide (d≤i))) e0 ?_))))
  refine joinW 4 (fun f w=>f 1=iV h∧f 7=iV d∧f 8=j.v∧f 9=iV (l.length:Int)∧f 10=iV k∧f 21=.bool ((decide (d≤i)) || (decide (h≤d)))∧St w0 ros rs w) (fun B=>?_) ?_
  ·rcases Bool.eq_false_or_eq_true (decide (d≤i)) with g | g
   ·exact gN g (gN g (gN g (yY (pt_ (.bool true) e0 g rfl) (B _ _ ⟨p,rfl,q,r,n,(congrArg Value.bool (orT g)),b⟩))))
   exact yG g (m_ (iV d) e0) (yG g (m_ (iV h) (eh p)) (yG g (ygeq e0 e0) (yY (pf_ (.bool (decide (h≤d))) e0 g e0) (B _ _ ⟨p,rfl,q,r,n,(congrArg Value.bool (orF g)),b⟩))))
  rintro f w ⟨X,Z,a0,a1,a2,a3,b⟩
  refine wK W (cB (eh a3) c (fun a4 c=>?_) fun a4 c=>?_)
  ·refine sR fun _ a5=>Ya (.bool false) rfl (wK a5 (wp_ret (V _ _ _ rfl (z _ _ _ (S _ _ _ rfl ?_)))))
   cases c
   refine y _ _ _ _ rfl rfl ?_
   obtain rfl:=x _ rfl
   refine u _ _ _ (F _ _ _ rfl ?_)
   cases m
   exact t _ _ _ (fin1r Tryz.results81 ⟨rfl,rfl⟩ ⟨rfl,b⟩)
  refine wp_skip (U _ _ (wR (Ym (iV d) (eh Z) (Ya (iV d) e0 (wN (z _ _ _ (R _ _ (wR (yY (yadd (eh a2) rfl) (Ym (iV (wa .i64 k 1)) e0 (wN ?_)))))))))))
  cases c
  exact J _ _ _ rfl ⟨_,_,_,rfl,rfl,X,rfl,a0,a1,rfl,b⟩
 refine wp_exit (N _ _ _ rfl ?_)
 cases c
 refine y _ _ _ _ rfl rfl ?_
 obtain rfl:=x _ rfl
 refine u _ _ _ (E _ _ (sR fun _ a6=>Ya (.bool true) rfl (wK a6 (wp_ret ?_))))
 cases m
 exact t _ _ _ (fin1r Tryz.results81 ⟨rfl,rfl⟩ ⟨rfl,b⟩)
theorem cmp_isNaN_int_ok {a:Int} {out:Bool} (b:cmp_isNaN_int a=some out) (c:St w0 ros rs w):
  Calls Tryz.prog 120 #[iV a] w (fun e w=>e=.returned (.bool out)∧St w0 ros rs w):=by
 refine enterQ Tryz.func120 rfl Tryz.ntmps120 rfl fun Q d=>sR fun _ f=>Ya (.bool false) rfl (wK f (sR fun _ g=>Ym (iV a) e0 (Ym (iV a) e0 (yY (yneq e0 e0) (Ya (.bool (!(decide (a=a)))) e0 (wK g ?_))))))
 refine wp_ret ?_
 cases b
 exact d _ _ _ (fin1r Tryz.results120 ⟨rfl,rfl⟩ ⟨rfl,c⟩)
theorem cmp_Less_int_ok {d g:Int} {out:Bool} (i:cmp_Less_int d g=some out) (a:St w0 ros rs w):
  Calls Tryz.prog 101 #[iV d,iV g] w (fun e w=>e=.returned (.bool out)∧St w0 ros rs w):=by
 refine enterQ Tryz.func101 rfl Tryz.ntmps101 rfl fun Q m=>sR fun _ n=>Ya (.bool false) rfl (wK n (sR fun _ o=>Ym (iV d) e0 (bE i fun p q i=>yC (yCall FN_120 (a1 e0)) (cmp_isNaN_int_ok q a) ?_)))
 rintro _ w ⟨rfl,a⟩
 refine ⟨_,rfl,?_⟩
 refine Ym (.bool p) e0 (bE i fun j h i=>?_)
 refine joinW 4 (fun f w=>f 0=iV d∧f 1=iV g∧f 11=.bool j∧St w0 ros rs w) (fun k=>?_) ?_
 ·rcases iteS h with ⟨c,h⟩ | ⟨c,h⟩
  ·refine yG c (m_ (iV g) e0) (bE h fun r s h=>Yc (wG c) rfl (yCall FN_120 (a1 e0)) (cmp_isNaN_int_ok s a) ?_)
   rintro _ w ⟨rfl,a⟩
   refine ⟨_,rfl,?_⟩
   refine yG c (ynot e0) (yY (pt_ (.bool (!r)) e0 c e0) ?_)
   cases h
   exact k _ _ ⟨rfl,rfl,rfl,a⟩
  refine gN (bfalse c) (gN (bfalse c) (gN (bfalse c) (yY (pf_ (.bool false) e0 (bfalse c) rfl) ?_)))
  cases h
  exact k _ _ ⟨rfl,rfl,rfl,a⟩
 rintro f w ⟨t,u,v,a⟩
 refine Ym (.bool j) (eh v) ?_
 refine joinW 4 (fun f w=>f 16=.bool (j || (decide (d < g)))∧St w0 ros rs w) (fun l=>?_) ?_
 ·rcases Bool.eq_false_or_eq_true j with b | b
  ·exact gN b (gN b (gN b (yY (pt_ (.bool true) e0 b rfl) (l _ _ ⟨(congrArg Value.bool (orT b)),a⟩))))
  exact yG b (m_ (iV d) (eh t)) (yG b (m_ (iV g) (eh u)) (yG b (ylss e0 e0) (yY (pf_ (.bool (decide (d < g))) e0 b e0) (l _ _ ⟨(congrArg Value.bool (orF b)),a⟩))))
 rintro f w ⟨x,a⟩
 refine Ya (.bool (j || (decide (d < g)))) (eh x) (wK o (wp_ret ?_))
 cases i
 exact m _ _ _ (fin1r Tryz.results101 ⟨rfl,rfl⟩ ⟨rfl,a⟩)
theorem slices_isNaN_int_ok {a:Int} {out:Bool} (b:slices_isNaN_int a=some out) (c:St w0 ros rs w):
  Calls Tryz.prog 102 #[iV a] w (fun e w=>e=.returned (.bool out)∧St w0 ros rs w):=by
 refine enterQ Tryz.func102 rfl Tryz.ntmps102 rfl fun Q d=>sR fun _ f=>Ya (.bool false) rfl (wK f (sR fun _ g=>Ym (iV a) e0 (Ym (iV a) e0 (yY (yneq e0 e0) (Ya (.bool (!(decide (a=a)))) e0 (wK g ?_))))))
 refine wp_ret ?_
 cases b
 exact d _ _ _ (fin1r Tryz.results102 ⟨rfl,rfl⟩ ⟨rfl,c⟩)
theorem slices_BinarySearch_int_ok {i:LI} {l:Int} {n:Hdr} {out:Int×Bool} (o:slices_BinarySearch_int i l=some out) (p:imm I1 n.v i∈ros) (b:St w0 ros rs w):
  Calls Tryz.prog 84 #[n.v,iV l] w (fun e w=>e=.returned (.tuple #[iV out.1,.bool out.2])∧St w0 ros rs w):=by
 refine enterQ Tryz.func84 rfl Tryz.ntmps84 rfl fun Q R=>sR fun _ S=>Ya (iV 0) rfl (Ya (.bool false) rfl (wK S (sR fun _ T=>Ym n.v e0 (yY (yLen SL_22 e0 b (rdI p)) (Ya (iV (i.length:Int)) e0 (wK T ?_))))))
 refine sR fun _ U=>Ym (iV (i.length:Int)) e0 (Ya (iV 0) rfl (Ya (iV (i.length:Int)) e0 (wK U (sQ fun _ V=>blockQ fun _ W=>bE o fun d3 X o=>?_))))
 refine loopQ (fun s a w=>∃ (c j:Int) (f:FV),(c,j)=s∧a=fr 54 f∧f 0=n.v∧f 1=iV l∧f 6=iV (i.length:Int)∧f 7=iV c∧f 8=iV j∧St w0 ros rs w) X ⟨_,_,_,rfl,rfl,rfl,rfl,rfl,rfl,rfl,b⟩ ?_
 rintro _ _ w Z ⟨c,j,f,rfl,rfl,u,x,y,q,z,b⟩ h a0 d4 a3 a4
 refine seqQ fun d5 a5 a6=>sR fun _ a7=>Ym (iV c) (eh q) (Ym (iV j) (eh z) (yY (ylss e0 e0) (wK a7 ?_)))
 refine cIf e0 h (fun a8 h=>?_) fun a8 h=>?_
 ·refine wp_skip (a5 _ _ (blockQ fun a9 b0=>sR fun _ b1=>Ym (iV c) (eh q) (Ym (iV j) (eh z) (yY (yadd e0 e0) (yY (ycv (k':=.u64) (by kernel_rfl) (by kernel_rfl) e0) (yY (yshrc e0 rfl) (yY (ycv (k':=.i64) (by kernel_rfl) (by kernel_rfl) e0) (Ya (iV (wc .i64 (wsrc .u64 (wc .u64 (wa .i64 c j)) 1))) e0 (wK b1 ?_)))))))))
  refine sR fun _ b2=>Ym n.v (eh u) (Ym (iV (wc .i64 (wsrc .u64 (wc .u64 (wa .i64 c j)) 1))) e0 (bE h fun d6 C h=>yY (yIa SL_22 e0 e0 b (rdI p) C) (yY (yI O_3 e0 b (rdI p) C) (Ym (iV l) (eh x) (bE h fun d7 b3 h=>yC (yCall FN_101 (a2 e0 e0)) (cmp_Less_int_ok b3 b) ?_)))))
  rintro _ w ⟨rfl,b⟩
  refine ⟨_,rfl,?_⟩
  refine wK b2 ?_
  have D:∀ (A B:Int) (f:FV) w,f 0=n.v→f 1=iV l→f 6=iV (i.length:Int)→f 7=iV A→f 8=iV B→St w0 ros rs w→slices_BinarySearch_int_j11 A B=some Z→a9 .normal (fr 54 f) w:=by
   intro A B f w b4 b5 b6 b7 b8 b o
   refine b0 _ _ _ ?_
   cases o
   exact a3 _ _ _ rfl ⟨_,_,_,rfl,rfl,b4,b5,b6,b7,b8,b⟩
  refine cB e0 h (fun b9 h=>?_) fun b9 h=>?_
  ·exact wR (Ym (iV (wc .i64 (wsrc .u64 (wc .u64 (wa .i64 c j)) 1))) e0 (yY (yadd e0 rfl) (Ya (iV (wa .i64 (wc .i64 (wsrc .u64 (wc .u64 (wa .i64 c j)) 1)) 1)) e0 (wN (D _ _ _ _ u x y rfl z b h)))))
  exact wR (Ym (iV (wc .i64 (wsrc .u64 (wc .u64 (wa .i64 c j)) 1))) e0 (Ya (iV (wc .i64 (wsrc .u64 (wc .u64 (wa .i64 c j)) 1))) e0 (wN (D _ _ _ _ u x y q rfl b h))))
 refine wp_exit (a6 _ _ _ rfl ?_)
 cases h
 refine a4 _ _ _ _ rfl rfl ?_
 obtain rfl:=a0 _ rfl
 refine W _ _ _ (V _ _ (sR fun _ c0=>Ym (iV c) (eh q) (Ym (iV c) (eh q) (Ym (iV (i.length:Int)) (eh y) (yY (ylss e0 e0) (Ym (.bool (decide (c < (i.length:Int)))) e0 (bE o fun E m o=>?_)))))))
 refine joinW 18 (fun f w=>f 31=iV c∧f 53=.bool E∧St w0 ros rs w) (fun F=>?_) ?_
 ·rcases iteS m with ⟨d,m⟩ | ⟨d,m⟩
  ·refine yG (dT d) (m_ n.v (eh u)) (yG (dT d) (m_ (iV c) (eh q)) (bE m fun G H m=>yG (dT d) (yIa SL_22 e0 e0 b (rdI p) H) (yG (dT d) (yI O_3 e0 b (rdI p) H) (yG (dT d) (m_ (iV l) (eh x)) (yG (dT d) (yeql e0 e0) (yG (dT d) (m_ (.bool (decide (G=l))) e0) (bE m fun I k m=>?_)))))))
   refine joinW 10 (fun f w=>f 31=iV c∧f 35=.bool (decide (c < (i.length:Int)))∧f 52=.bool I∧St w0 ros rs w) (fun J=>?_) ?_
   ·rcases iteS k with ⟨g,k⟩ | ⟨g,k⟩
    ·refine gN (dT g) (gN (dT g) (gN (dT g) (gN (dT g) (gN (dT g) (gN (dT g) (Gn (wxu rfl rfl rfl) rfl (Gn (wxu rfl rfl rfl) rfl (gN (dT g) (yG (dT d) (pt_ (.bool true) e0 (dT g) rfl) ?_)))))))))
     cases k
     exact J _ _ ⟨rfl,rfl,rfl,b⟩
    refine yG (dF g) (m_ n.v (eh u)) (yG (dF g) (m_ (iV c) (eh q)) (bE k fun d8 K k=>yG (dF g) (yIa SL_22 e0 e0 b (rdI p) K) (yG (dF g) (yI O_3 e0 b (rdI p) K) (bE k fun c1 c2 k=>Yc (wG (dF g)) rfl (yCall FN_102 (a1 e0)) (slices_isNaN_int_ok c2 b) ?_))))
    rintro _ w ⟨rfl,b⟩
    refine ⟨_,rfl,?_⟩
    refine yG (dF g) (m_ (.bool c1) e0) (bE k fun L r k=>?_)
    refine joinW 3 (fun f w=>f 31=iV c∧f 35=.bool (decide (c < (i.length:Int)))∧f 42=.bool (decide (G=l))∧f 51=.bool L∧St w0 ros rs w) (fun N=>?_) ?_
    ·rcases iteS r with ⟨t,r⟩ | ⟨t,r⟩
     ·refine yG t (m_ (iV l) (eh x)) (bE r fun c3 c4 r=>Yc (wG t) rfl (yCall FN_102 (a1 e0)) (slices_isNaN_int_ok c4 b) ?_)
      rintro _ w ⟨rfl,b⟩
      refine ⟨_,rfl,?_⟩
      refine yG (dF g) (pt_ (.bool c3) e0 t e0) ?_
      cases r
      exact N _ _ ⟨rfl,rfl,rfl,rfl,b⟩
     refine gN (bfalse t) (gN (bfalse t) (yG (dF g) (pf_ (.bool false) e0 (bfalse t) rfl) ?_))
     cases r
     exact N _ _ ⟨rfl,rfl,rfl,rfl,b⟩
    rintro f w ⟨c5,O,c6,c7,b⟩
    refine Y (wg rfl rfl O (dT d)) rfl (pf_ (.bool L) (eh c6) (dF g) (eh c7)) ?_
    cases k
    exact J _ _ ⟨c5,O,rfl,b⟩
   rintro f w ⟨c8,c9,d0,b⟩
   refine yY (pt_ (.bool I) (eh c9) (dT d) (eh d0)) ?_
   cases m
   exact F _ _ ⟨c8,rfl,b⟩
  refine gN (dF d) (gN (dF d) (gN (dF d) (gN (dF d) (gN (dF d) (gN (dF d) (gN (dF d) (Gn (wxu rfl rfl rfl) rfl (Gn (wxu rfl rfl rfl) rfl (Gn (wxu rfl rfl rfl) rfl (Gn (wxu rfl rfl rfl) rfl (Gn (wxu rfl rfl rfl) rfl (Gn (wxu rfl rfl rfl) rfl (Gn (wxu rfl rfl rfl) rfl ?_)))))))))))))
  refine Gn (wxu rfl rfl rfl) rfl (Gn (wxu rfl rfl rfl) rfl (gN (dF d) (yY (pf_ (.bool false) e0 (dF d) rfl) ?_)))
  cases m
  exact F _ _ ⟨rfl,rfl,b⟩
 rintro f w ⟨d1,d2,b⟩
 refine Ya (iV c) (eh d1) (Ya (.bool E) (eh d2) (wK c0 (wp_ret ?_)))
 cases o
 exact R _ _ _ (fin2r Tryz.results84 ⟨rfl,rfl⟩ ⟨rfl,rfl⟩ ⟨rfl,b⟩)
theorem graph_joined_ok {h:L2} {f g:Int} {d:Hdr} {out:Bool} (c:graph_joined h f g=some out) (i:imm S1 d.v h∈ros) (a:St w0 ros rs w):
  Calls Tryz.prog 82 #[.agg #[d.v],iV f,iV g] w (fun e w=>e=.returned (.bool out)∧St w0 ros rs w):=by
 refine enterQ Tryz.func82 rfl Tryz.ntmps82 rfl fun Q k=>sR fun _ l=>yBb (r_box (vals:=[d.v]) a e0 rfl) fun p w a=>Ya (.bool false) rfl (wK l (sR fun _ m=>yY (yFb FL_26_0 e0) (yY (lb_ d.v O_24 e0 a R0) (Ym (iV f) e0 (bE c fun q j c=>?_)))))
 refine yY (yIa SL_24 e0 e0 a (rdI i) j) ?_
 obtain ⟨r,a⟩:=iLs a i j
 refine yY (yCt O_22 e0 a F1 rfl) (Ym (iV g) e0 (bE c fun b n c=>yC (yCall FN_84 (a2 e0 e0)) (slices_BinarySearch_int_ok n F0 a) ?_))
 rintro _ w ⟨rfl,a⟩
 refine ⟨_,rfl,?_⟩
 refine Ym (.tuple #[iV b.1,.bool b.2]) e0 (yY (x_ (iV b.1) e0) (yY (x_ (.bool b.2) e0) (Ya (iV b.1) e0 (Ya (.bool b.2) e0 (wK m (sR fun _ o=>Ym (.bool b.2) e0 (Ya (.bool b.2) e0 (wK o (wp_ret ?_)))))))))
 cases c
 exact k _ _ _ (fin1r Tryz.results82 ⟨rfl,rfl⟩ ⟨rfl,((a.pk 1 [] rfl).facts (allT (allT allI)))⟩)
theorem graph_Check_ok {h:L2} {c:Hdr} {out:Int} (i:graph_Check h=some out) (l:imm S1 c.v h∈ros) (b:St w0 ros rs w):
  Calls Tryz.prog 51 #[.agg #[c.v]] w (fun e w=>e=.returned (iV out)∧St w0 ros rs w):=by
 refine enterQ Tryz.func51 rfl Tryz.ntmps51 rfl fun Q t=>sR fun _ b2=>yBb (r_box (vals:=[c.v]) b e0 rfl) fun o w b=>Ya (iV 0) rfl (wK b2 (sR fun _ b4=>yY (yFb FL_26_0 e0) (yY (lb_ c.v O_24 e0 b R0) (yY (yLen SL_24 e0 b (rdI l)) (Ya (iV (h.length:Int)) e0 ?_)))))
 refine wK b4 (seqQ fun h6 b5 b6=>sR fun _ b7=>Ym (iV (h.length:Int)) e0 (yY (ygtr e0 rfl) (wK b7 ?_)))
 refine cIf e0 i (fun b8 i=>?_) fun b8 i=>?_
 ·refine sR fun _ b9=>Ya (iV 6) rfl (wK b9 (wp_ret (b6 _ _ _ rfl ?_)))
  cases i
  exact t _ _ _ (fin1r Tryz.results51 ⟨rfl,rfl⟩ ⟨rfl,(b.pk 1 [] rfl)⟩)
 refine wp_skip (b5 _ _ (seqQ fun h7 c0 c1=>sR fun _ c2=>yY (yFb FL_26_0 e0) (yY (lb_ c.v O_24 e0 b R0) (yY (yLen SL_24 e0 b (rdI l)) (Ym (iV 0) rfl (wK c2 (blockQ fun _ F=>bE i fun h8 c3 i=>?_)))))))
 refine loopQ (fun s a w=>∃ (m:Int) (f:FV),m=s∧a=fr 55 f∧f 1=(pB o)∧f 3=iV (h.length:Int)∧f 16=c.v∧f 17=iV (h.length:Int)∧f 18=iV m∧St w0 ros (box o 26 [c.v]::rs) w) c3 ⟨_,_,rfl,rfl,rfl,rfl,rfl,rfl,rfl,b⟩ ?_
 rintro _ _ w h9 ⟨m,f,rfl,rfl,q,z,A,B,r,b⟩ d G i0 c5 H
 refine sR fun _ c6=>yY (ylss (eh r) (eh B)) (wK c6 (seqQ fun i1 c7 c8=>?_))
 refine cIf e0 d (fun c9 d=>?_) fun c9 d=>?_
 ·refine wp_skip (c7 _ _ (seqQ fun i2 d0 d1=>blockQ fun _ I=>sR fun _ d2=>Ym (iV m) (eh r) (bE d fun i3 J d=>yY (yIa SL_24 (eh A) (eh r) b (rdI l) J) ?_)))
  obtain ⟨K,b⟩:=iLs b l J
  refine yY (yCt O_22 e0 b F1 rfl) (Ya (iV m) e0 (Ya K.v e0 (wK d2 (sR fun _ d3=>Ym K.v e0 (Ym (iV (h.length:Int)) (eh z) (bE d fun d4 d5 d=>yC (yCall FN_81 (a2 e0 e0)) (graph_ascending_ok d5 F0 b) ?_))))))
  rintro _ w ⟨rfl,b⟩
  refine ⟨_,rfl,?_⟩
  refine yY (ynot e0) (Ym (.bool (!d4)) e0 (bE d fun d6 p d=>?_))
  refine joinW 5 (fun f w=>f 1=(pB o)∧f 3=iV (h.length:Int)∧f 16=c.v∧f 17=iV (h.length:Int)∧f 18=iV m∧f 32=.bool d6∧St w0 ros (box o 26 [c.v]::rs) w) (fun L=>?_) ?_
  ·rcases iteS p with ⟨j,p⟩ | ⟨j,p⟩
   ·refine yG (nF j) (lbs_ [c.v] ST_26 (eh q) b R0) (yG (nF j) (m_ (iV m) e0) (yG (nF j) (m_ (iV m) e0) (bE p fun d7 d8 p=>Yc (wG (nF j)) rfl (yCall FN_82 (a3 e0 e0 e0)) (graph_joined_ok d8 (F_2 l) b) ?_)))
    rintro _ w ⟨rfl,b⟩
    refine ⟨_,rfl,?_⟩
    refine yY (pf_ (.bool d7) e0 (nF j) e0) ?_
    cases p
    exact L _ _ ⟨q,z,A,B,r,rfl,(b.facts (allT (allT allI)))⟩
   refine gN (nT (bfalse j)) (gN (nT (bfalse j)) (gN (nT (bfalse j)) (gN (nT (bfalse j)) (yY (pt_ (.bool true) e0 (nT (bfalse j)) rfl) ?_))))
   cases p
   exact L _ _ ⟨q,z,A,B,r,rfl,(b.facts (allT (allT allI)))⟩
  rintro f w ⟨d9,e1,e2,e3,e4,e5,b⟩
  refine wK d3 (cB (eh e5) d (fun e6 d=>?_) fun e6 d=>?_)
  ·refine sR fun _ e7=>Ya (iV 1) rfl (wK e7 (wp_ret (I _ _ _ (d1 _ _ _ rfl ?_))))
   cases d
   refine H _ _ _ _ rfl rfl ?_
   obtain rfl:=G _ rfl
   refine F _ _ _ (c1 _ _ _ rfl ?_)
   cases i
   exact t _ _ _ (fin1r Tryz.results51 ⟨rfl,rfl⟩ ⟨rfl,(b.pk 1 [] rfl)⟩)
  refine wp_skip (I _ _ _ (d0 _ _ (wR (yY (yadd (eh e4) rfl) (Ym (iV (wa .i64 m 1)) e0 (wN ?_))))))
  cases d
  exact c5 _ _ _ rfl ⟨_,_,rfl,rfl,d9,e1,e2,e3,rfl,b⟩
 refine wp_exit (c8 _ _ _ rfl ?_)
 cases d
 refine H _ _ _ _ rfl rfl ?_
 obtain rfl:=G _ rfl
 refine F _ _ _ (c0 _ _ (seqQ fun i4 e8 e9=>sR fun _ f0=>yY (yFb FL_26_0 (eh q)) (yY (lb_ c.v O_24 e0 b R0) (yY (yLen SL_24 e0 b (rdI l)) (Ym (iV 0) rfl (wK f0 (blockQ fun _ N=>bE i fun i5 f1 i=>?_)))))))
 refine loopQ (fun s a w=>∃ (n:Int) (f:FV),n=s∧a=fr 55 f∧f 1=(pB o)∧f 35=c.v∧f 36=iV (h.length:Int)∧f 37=iV n∧St w0 ros (box o 26 [c.v]::rs) w) f1 ⟨_,_,rfl,rfl,q,rfl,rfl,rfl,b⟩ ?_
 rintro _ _ w i6 ⟨n,f,rfl,rfl,f2,O,R,u,b⟩ k S i7 f3 T
 refine sR fun _ f4=>yY (ylss (eh u) (eh R)) (wK f4 (seqQ fun i8 f5 f6=>?_))
 refine cIf e0 k (fun f7 k=>?_) fun f7 k=>?_
 ·refine wp_skip (f5 _ _ (seqQ fun i9 f8 f9=>blockQ fun _ U=>sR fun _ g0=>Ym (iV n) (eh u) (bE k fun V W k=>yY (yIa SL_24 (eh O) (eh u) b (rdI l) W) ?_)))
  obtain ⟨x,b⟩:=iLs b l W
  refine yY (yCt O_22 e0 b F1 rfl) (Ya (iV n) e0 (Ya x.v e0 (wK g0 (sR fun _ g1=>Ym x.v e0 (yY (yLen SL_22 e0 b (rdI F0)) (Ym (iV 0) rfl (wK g1 (blockQ fun _ X=>bE k fun j0 g2 k=>?_))))))))
  refine loopQ (fun s a w=>∃ (y:Int) (f:FV),y=s∧a=fr 55 f∧f 1=(pB o)∧f 6=iV n∧f 35=c.v∧f 36=iV (h.length:Int)∧f 37=iV n∧f 42=x.v∧f 43=iV (V.length:Int)∧f 44=iV y∧St w0 (imm I1 x.v V::ros) (box o 26 [c.v]::rs) w) g2 ⟨_,_,rfl,rfl,f2,rfl,O,R,u,rfl,rfl,rfl,(b.facts (allC F0 (allT (allT allI))))⟩ ?_
  rintro _ _ w j1 ⟨y,f,rfl,rfl,C,Z,a0,a1,a4,a5,a6,D,b⟩ g a7 j2 g3 a8
  refine sR fun _ g4=>yY (ylss (eh D) (eh a6)) (wK g4 (seqQ fun j3 g5 g6=>?_))
  refine cIf e0 g (fun g7 g=>?_) fun g7 g=>?_
  ·refine wp_skip (g5 _ _ (seqQ fun j5 g8 g9=>blockQ fun _ a9=>sR fun _ h0=>bE g fun b0 b1 g=>yY (yIa SL_22 (eh a5) (eh D) b (rdI F0) b1) (yY (yI O_3 e0 b (rdI F0) b1) (Ya (iV b0) e0 (wK h0 (sR fun _ h1=>?_))))))
   refine yY (lbs_ [c.v] ST_26 (eh C) b R0) (Ym (iV b0) e0 (Ym (iV n) (eh Z) (bE g fun j6 h3 g=>yC (yCall FN_82 (a3 e0 e0 e0)) (graph_joined_ok h3 (mtF l) b) ?_)))
   rintro _ w ⟨rfl,b⟩
   refine ⟨_,rfl,?_⟩
   refine yY (ynot e0) (wK h1 ?_)
   rcases iteS g with ⟨E,g⟩ | ⟨E,g⟩
   ·refine condF e0 (nF E) (wp_skip (a9 _ _ _ (g8 _ _ (wR (yY (yadd (eh D) rfl) (Ym (iV (wa .i64 y 1)) e0 (wN ?_)))))))
    cases g
    exact g3 _ _ _ rfl ⟨_,_,rfl,rfl,C,Z,a0,a1,a4,a5,a6,rfl,b⟩
   refine condT e0 (nT (bfalse E)) (sR fun _ h4=>Ya (iV 1) rfl (wK h4 (wp_ret (a9 _ _ _ (g9 _ _ _ rfl ?_)))))
   cases g
   refine a8 _ _ _ _ rfl rfl ?_
   obtain rfl:=a7 _ rfl
   refine X _ _ _ (U _ _ _ (f9 _ _ _ rfl ?_))
   cases k
   refine T _ _ _ _ rfl rfl ?_
   obtain rfl:=S _ rfl
   refine N _ _ _ (e9 _ _ _ rfl ?_)
   cases i
   exact t _ _ _ (fin1r Tryz.results51 ⟨rfl,rfl⟩ ⟨rfl,((b.pk 1 [] rfl).facts (allT allI))⟩)
  refine wp_exit (g6 _ _ _ rfl ?_)
  cases g
  refine a8 _ _ _ _ rfl rfl ?_
  obtain rfl:=a7 _ rfl
  refine X _ _ _ (U _ _ _ (f8 _ _ (wR (yY (yadd (eh a4) rfl) (Ym (iV (wa .i64 n 1)) e0 (wN ?_))))))
  cases k
  exact f3 _ _ _ rfl ⟨_,_,rfl,rfl,C,a0,a1,rfl,(b.facts (allT allI))⟩
 refine wp_exit (f6 _ _ _ rfl ?_)
 cases k
 refine T _ _ _ _ rfl rfl ?_
 obtain rfl:=S _ rfl
 refine N _ _ _ (e8 _ _ (sR fun _ h5=>Ya (iV 0) rfl (wK h5 (wp_ret ?_))))
 cases i
 exact t _ _ _ (fin1r Tryz.results51 ⟨rfl,rfl⟩ ⟨rfl,(b.pk 1 [] rfl)⟩)
theorem math_bits_Mul64_ok {a b:Int} {out:Int×Int} (c:math_bits_Mul64 a b=some out) (d:St w0 ros rs w):
  Calls Tryz.prog 116 #[.int .u64 a,.int .u64 b] w (fun e w=>e=.returned (.tuple #[.int .u64 out.1,.int .u64 out.2])∧St w0 ros rs w):=by
 refine enterQ Tryz.func116 rfl Tryz.ntmps116 rfl fun Q f=>sR fun _ g=>Ya (.int .u64 0) rfl (Ya (.int .u64 0) rfl (wK g (sR fun _ h=>Ym (.int .u64 a) e0 (yY (yand e0 rfl) (Ya (.int .u64 (wand .u64 a 4294967295)) e0 (wK h ?_))))))
 refine sR fun _ i=>Ym (.int .u64 a) e0 (yY (yshrc e0 rfl) (Ya (.int .u64 (wsrc .u64 a 32)) e0 (wK i (sR fun _ j=>Ym (.int .u64 b) e0 (yY (yand e0 rfl) (Ya (.int .u64 (wand .u64 b 4294967295)) e0 (wK j ?_)))))))
 refine sR fun _ k=>Ym (.int .u64 b) e0 (yY (yshrc e0 rfl) (Ya (.int .u64 (wsrc .u64 b 32)) e0 (wK k (sR fun _ l=>Ym (.int .u64 (wand .u64 a 4294967295)) e0 (Ym (.int .u64 (wand .u64 b 4294967295)) e0 (yY (ymul e0 e0) (Ya (.int .u64 (wm .u64 (wand .u64 a 4294967295) (wand .u64 b 4294967295))) e0 (wN ?_))))))))
 refine l _ _ (sR fun _ m=>Ym (.int .u64 (wsrc .u64 a 32)) e0 (Ym (.int .u64 (wand .u64 b 4294967295)) e0 (yY (ymul e0 e0) (Ym (.int .u64 (wm .u64 (wand .u64 a 4294967295) (wand .u64 b 4294967295))) e0 (yY (yshrc e0 rfl) (yY (yadd e0 e0) (Ya (.int .u64 (wa .u64 (wm .u64 (wsrc .u64 a 32) (wand .u64 b 4294967295)) (wsrc .u64 (wm .u64 (wand .u64 a 4294967295) (wand .u64 b 4294967295)) 32))) e0 (wK m (sR fun _ n=>?_)))))))))
 refine Ym (.int .u64 (wa .u64 (wm .u64 (wsrc .u64 a 32) (wand .u64 b 4294967295)) (wsrc .u64 (wm .u64 (wand .u64 a 4294967295) (wand .u64 b 4294967295)) 32))) e0 (yY (yand e0 rfl) (Ya (.int .u64 (wand .u64 (wa .u64 (wm .u64 (wsrc .u64 a 32) (wand .u64 b 4294967295)) (wsrc .u64 (wm .u64 (wand .u64 a 4294967295) (wand .u64 b 4294967295)) 32)) 4294967295)) e0 (wK n (sR fun _ o=>Ym (.int .u64 (wa .u64 (wm .u64 (wsrc .u64 a 32) (wand .u64 b 4294967295)) (wsrc .u64 (wm .u64 (wand .u64 a 4294967295) (wand .u64 b 4294967295)) 32))) e0 (yY (yshrc e0 rfl) (Ya (.int .u64 (wsrc .u64 (wa .u64 (wm .u64 (wsrc .u64 a 32) (wand .u64 b 4294967295)) (wsrc .u64 (wm .u64 (wand .u64 a 4294967295) (wand .u64 b 4294967295)) 32)) 32)) e0 (wK o (sR fun _ p=>?_))))))))
 refine Ym (.int .u64 (wand .u64 (wa .u64 (wm .u64 (wsrc .u64 a 32) (wand .u64 b 4294967295)) (wsrc .u64 (wm .u64 (wand .u64 a 4294967295) (wand .u64 b 4294967295)) 32)) 4294967295)) e0 (Ym (.int .u64 (wand .u64 a 4294967295)) e0 (Ym (.int .u64 (wsrc .u64 b 32)) e0 (yY (ymul e0 e0) (yY (yadd e0 e0) (Ya (.int .u64 (wa .u64 (wand .u64 (wa .u64 (wm .u64 (wsrc .u64 a 32) (wand .u64 b 4294967295)) (wsrc .u64 (wm .u64 (wand .u64 a 4294967295) (wand .u64 b 4294967295)) 32)) 4294967295) (wm .u64 (wand .u64 a 4294967295) (wsrc .u64 b 32)))) e0 (wK p (sR fun _ q=>Ym (.int .u64 (wsrc .u64 a 32)) e0 (Ym (.int .u64 (wsrc .u64 b 32)) e0 (yY (ymul e0 e0) (Ym (.int .u64 (wsrc .u64 (wa .u64 (wm .u64 (wsrc .u64 a 32) (wand .u64 b 4294967295)) (wsrc .u64 (wm .u64 (wand .u64 a 4294967295) (wand .u64 b 4294967295)) 32)) 32)) e0 ?_))))))))))
 refine yY (yadd e0 e0) (Ym (.int .u64 (wa .u64 (wand .u64 (wa .u64 (wm .u64 (wsrc .u64 a 32) (wand .u64 b 4294967295)) (wsrc .u64 (wm .u64 (wand .u64 a 4294967295) (wand .u64 b 4294967295)) 32)) 4294967295) (wm .u64 (wand .u64 a 4294967295) (wsrc .u64 b 32)))) e0 (yY (yshrc e0 rfl) (yY (yadd e0 e0) (Ya (.int .u64 (wa .u64 (wa .u64 (wm .u64 (wsrc .u64 a 32) (wsrc .u64 b 32)) (wsrc .u64 (wa .u64 (wm .u64 (wsrc .u64 a 32) (wand .u64 b 4294967295)) (wsrc .u64 (wm .u64 (wand .u64 a 4294967295) (wand .u64 b 4294967295)) 32)) 32)) (wsrc .u64 (wa .u64 (wand .u64 (wa .u64 (wm .u64 (wsrc .u64 a 32) (wand .u64 b 4294967295)) (wsrc .u64 (wm .u64 (wand .u64 a 4294967295) (wand .u64 b 4294967295)) 32)) 4294967295) (wm .u64 (wand .u64 a 4294967295) (wsrc .u64 b 32))) 32))) e0 (wK q (sR fun _ r=>Ym (.int .u64 a) e0 (Ym (.int .u64 b) e0 (yY (ymul e0 e0) (Ya (.int .u64 (wm .u64 a b)) e0 (wN ?_))))))))))
 refine r _ _ (wp_ret ?_)
 cases c
 exact f _ _ _ (fin2r Tryz.results116 ⟨rfl,rfl⟩ ⟨rfl,rfl⟩ ⟨rfl,d⟩)
theorem math_bits_Mul_ok {b c:Int} {out:Int×Int} (d:math_bits_Mul b c=some out) (f:St w0 ros rs w):
  Calls Tryz.prog 95 #[.int .u64 b,.int .u64 c] w (fun e w=>e=.returned (.tuple #[.int .u64 out.1,.int .u64 out.2])∧St w0 ros rs w):=by
 refine enterQ Tryz.func95 rfl Tryz.ntmps95 rfl fun Q g=>sR fun _ h=>Ya (.int .u64 0) rfl (Ya (.int .u64 0) rfl (wK h (sQ fun _ i=>condF rfl rfl (wp_skip (i _ _ (sR fun _ j=>Ym (.int .u64 b) e0 ?_))))))
 refine Ym (.int .u64 c) e0 (bE d fun a k d=>yC (yCall FN_116 (a2 e0 e0)) (math_bits_Mul64_ok k f) ?_)
 rintro _ w ⟨rfl,f⟩
 refine ⟨_,rfl,?_⟩
 refine Ym (.tuple #[.int .u64 a.1,.int .u64 a.2]) e0 (yY (x_ (.int .u64 a.1) e0) (yY (x_ (.int .u64 a.2) e0) (Ya (.int .u64 a.1) e0 (Ya (.int .u64 a.2) e0 (wK j (sR fun _ l=>Ym (.int .u64 a.1) e0 (Ym (.int .u64 a.2) e0 (Ya (.int .u64 a.1) e0 (Ya (.int .u64 a.2) e0 (wN ?_))))))))))
 refine l _ _ (wp_ret ?_)
 cases d
 exact g _ _ _ (fin2r Tryz.results95 ⟨rfl,rfl⟩ ⟨rfl,rfl⟩ ⟨rfl,f⟩)
theorem slices_Repeat_int_ok {o:LI} {l:Int} {k:Hdr} {out:LI} (c:slices_Repeat_int o l=some out) (r:imm I1 k.v o∈ros) (b:St w0 ros rs w):
  Calls Tryz.prog 72 #[k.v,iV l] w (fun e w=>∃ (t:Hdr),e=.returned (t.v)∧St w0 ros (row 3 I1 t.v out::rs) w):=by
 refine enterQ Tryz.func72 rfl Tryz.ntmps72 rfl fun Q y=>sR fun _ k1=>Ya hnil.v rfl (wK k1 (sQ fun z k2=>sR fun _ A=>Ym (iV l) e0 (yY (ylss e0 rfl) (wK A ?_))))
 have B:∀ (f:FV) w,f 0=k.v→f 1=iV l→St w0 ros rs w→slices_Repeat_int_j1 o l=some out→z .normal (fr 48 f) w:=by
  intro f w p C b c
  refine k2 _ _ (sR fun _ D=>Ym k.v (eh p) (yY (yLen SL_22 e0 b (rdI r)) (yY (ycv (k':=.u64) (by kernel_rfl) (by kernel_rfl) e0) (Ym (iV l) (eh C) (yY (ycv (k':=.u64) (by kernel_rfl) (by kernel_rfl) e0) (bE c fun d E c=>yC (yCall FN_95 (a2 e0 e0)) (math_bits_Mul_ok E b) ?_))))))
  rintro _ w ⟨rfl,b⟩
  refine ⟨_,rfl,?_⟩
  refine Ym (.tuple #[.int .u64 d.1,.int .u64 d.2]) e0 (yY (x_ (.int .u64 d.1) e0) (yY (x_ (.int .u64 d.2) e0) (Ya (.int .u64 d.1) e0 (Ya (.int .u64 d.2) e0 (wK D (sQ fun F G=>sR fun _ H=>Ym (.int .u64 d.1) e0 (yY (ygtr e0 rfl) (Ym (.bool (decide ((0:Int) < d.1))) e0 ?_))))))))
  refine joinW 3 (fun f w=>f 0=k.v∧f 6=.int .u64 d.2∧f 26=.bool ((decide ((0:Int) < d.1)) || (decide ((9223372036854775807:Int) < d.2)))∧St w0 ros rs w) (fun u=>?_) ?_
  ·rcases Bool.eq_false_or_eq_true (decide ((0:Int) < d.1)) with h | h
   ·exact gN h (gN h (yY (pt_ (.bool true) e0 h rfl) (u _ _ ⟨p,rfl,(congrArg Value.bool (orT h)),b⟩)))
   exact yG h (m_ (.int .u64 d.2) e0) (yG h (ygtr e0 rfl) (yY (pf_ (.bool (decide ((9223372036854775807:Int) < d.2))) e0 h e0) (u _ _ ⟨p,rfl,(congrArg Value.bool (orF h)),b⟩)))
  rintro f w ⟨I,J,K,b⟩
  refine wK H ?_
  have L:∀ (f:FV) w,f 0=k.v→f 6=.int .u64 d.2→St w0 ros rs w→slices_Repeat_int_j3 d o=some out→F .normal (fr 48 f) w:=by
   intro f w N O b c
   refine G _ _ (sR fun _ R=>Ym (.int .u64 d.2) (eh O) (yY (ycv (k':=.i64) (by kernel_rfl) (by kernel_rfl) e0) (bE c fun b5 S c=>yH (rMk b SL_22 e0 S) fun i w b=>Ya i.v e0 (wK R (sR fun _ T=>Ym i.v e0 ?_)))))
   refine Ym k.v (eh N) (bE c fun U V c=>YV wn rfl (rCp b SL_22 rfl e0 (.inr ⟨rfl,rfl,rfl⟩) e0 (rdI r) V) fun w b=>Ya (iV U.2) e0 (wK T (sQ fun _ W=>blockQ fun _ X=>bE c fun b6 Z c=>?_)))
   refine loopQ (fun s a w=>∃ (q:LI) (j:Int) (f:FV),(q,j)=s∧a=fr 48 f∧f 7=i.v∧f 8=iV j∧St w0 ros (row 3 I1 i.v q::rs) w) Z ⟨_,_,_,rfl,rfl,rfl,rfl,b⟩ ?_
   rintro _ _ w b7 ⟨q,j,f,rfl,rfl,m,n,b⟩ g a0 b8 a1 a3
   refine seqQ fun b9 a4 a5=>sR fun _ a6=>Ym (iV j) (eh n) (Ym i.v (eh m) (yY (yLen SL_22 e0 b rO0) (yY (ylss e0 e0) (wK a6 ?_))))
   refine cIf e0 g (fun a7 g=>?_) fun a7 g=>?_
   ·refine wp_skip (a4 _ _ (blockQ fun _ a8=>bE g fun c0 a9 g=>bE g fun c1 x g=>bE g fun b0 b1 g=>dR [0,0,0,6,0,0,48,126,255,511] [7,9] 2 folM ?_))
    replace b:=b.drew
    refine Dn [0,1,2,3,4,5,6] [] [7] (yR rfl (m_ (iV j) (eh n)) (yR rfl (m_ i.v (eh m)) (yR rfl (m_ (iV j) (eh n)) (yR rfl (ySl (k2:=.i64) SL_22 e0 b rO0 (.inl (congrArg some e0)) (.inr ⟨rfl,rfl⟩) a9) (yR rfl (m_ i.v (eh m)) (yR rfl (m_ (iV j) (eh n)) (yR rfl (ySl (k1:=.i64) SL_22 e0 b rO0 (.inr ⟨rfl,rfl⟩) (.inl (congrArg some e0)) x) (Rn QSn ?_))))))))
    refine Lc1 rfl ?_
    refine LV wn (rCp b SL_22 rfl e0 (.inl rfl) e0 (rdSub rO0 x) b1) fun w b=>Dn [8] [0] [9] (yR rfl (yadd e0 e0) (Rn (yS rfl (m_ (iV j) (eh n)) QSn) ?_))
    refine Lc1 rfl ?_
    refine Ly wn (a_ (iV (wa .i64 j b0.2)) e0) (Dz [] [] (Rn QSn (a8 _ _ _ ?_)))
    cases g
    exact a1 _ _ _ rfl ⟨_,_,_,rfl,rfl,m,rfl,b⟩
   refine wp_exit (a5 _ _ _ rfl ?_)
   cases g
   refine a3 _ _ _ _ rfl rfl ?_
   obtain rfl:=a0 _ rfl
   refine X _ _ _ (W _ _ (sR fun _ b2=>Ym i.v (eh m) (Ya i.v e0 (wK b2 (wp_ret ?_)))))
   cases c
   exact y _ _ _ (fin1r Tryz.results72 ⟨rfl,rfl⟩ ⟨_,rfl,b⟩)
  refine cB (eh K) c (fun b3 c=>?_) fun b3 c=>?_
  ·cases c
  exact wp_skip (L _ _ I J b c)
 refine cIf e0 c (fun b4 c=>?_) fun b4 c=>?_
 ·cases c
 exact wp_skip (B _ _ rfl rfl b c)
theorem dissect_units_ok {r:L2} {c:Hdr} {out:L2×LI×L2} (m:dissect_units r=some out) (i:imm S1 c.v r∈ros) (b:St w0 ros rs w):
  Calls Tryz.prog 85 #[.agg #[c.v]] w (fun e w=>∃ (B C D:Hdr),e=.returned (.agg #[B.v,C.v,D.v])∧St w0 (imm S1 B.v out.1::ros) (row 3 I1 C.v out.2.1::row 22 S1 D.v out.2.2::rs) w):=by
 refine enterQ Tryz.func85 rfl Tryz.ntmps85 rfl fun Q L=>sR fun _ N=>yBb (r_box (vals:=[c.v]) b e0 rfl) fun E w b=>yBb (rAl b ZT_28) fun p w b=>wK N (sQ fun _ O=>bE m fun F t m=>?_)
 refine joinN (n:=31) (fun f w=>∃ (o:Nat) (j:Hdr),f 1=(pB E)∧f 2=(pB p)∧f 3=(pB o)∧St w0 ros (box E 26 [c.v]::box p 28 [hnil.v,hnil.v,hnil.v]::row 3 I1 j.v F::box o 28 [c.v,j.v,hnil.v]::rs) w) (fun u=>?_) ?_
 ·refine dR [0,0,0,4,12,30,63,0,255] [1,5,7,8] 4 folM ?_
  replace b:=b.drew
  refine Dn [0,2,3,4] [] [1,7] (yR rfl (lbs_ [c.v] ST_26 e0 b R1) (yR rfl (yFb FL_26_0 e0) (yR rfl (lb_ c.v O_24 e0 b R1) (yR rfl (yLen SL_24 e0 b (rdI i)) (Rn QSn ?_)))))
  refine Lc rfl ?_ (Lc1 rfl ?_)
  ·refine LH wn (rLt (n:=1) (l:=[1]) b SL_22 [iV 1] (bp1 rfl) rfl rfl (mks1 (cs:=[iV 1]) rfl mkI mks0)) fun R w b=>Dn [] [0,2,3,4] [5,7] (Rn (yS rfl (lbs_ [c.v] ST_26 e0 b R2) (yS rfl (yFb FL_26_0 e0) (yS rfl (lb_ c.v O_24 e0 b R2) (yS rfl (yLen SL_24 e0 b (rdI i)) QSn)))) ?_)
   refine Lc rfl ?_ (Lc1 rfl ?_)
   ·replace b:=b.fz
    refine Lk wn (yCall FN_72 (a2 e0 e0)) (slices_Repeat_int_ok t F0 b) ?_
    rintro _ w ⟨d,rfl,b⟩
    refine ⟨_,rfl,?_⟩
    refine Dn [6] [0] [7] (yR rfl (ybuild (us:=[c.v,d.v,hnil.v]) [(0,.agg #[c.v]),(1,d.v)] SO_28 (bp2 e0 e0) rfl) (Rn (yS rfl (lbs_ [c.v] ST_26 e0 b R2) QSn) ?_))
    refine Lc1 rfl ?_
    refine LB wn (rAl b ZT_28) fun G w b=>Dn [] [0,6] [8] (Rn (yS rfl (lbs_ [c.v] ST_26 e0 b R3) (yS rfl (ybuild (us:=[c.v,d.v,hnil.v]) [(0,.agg #[c.v]),(1,d.v)] SO_28 (bp2 e0 e0) rfl) QSn)) ?_)
    refine Lc1 rfl ?_
    exact LT wn (r_stbn (vals':=[c.v,d.v,hnil.v]) (us:=[c.v,d.v,hnil.v]) b ST_28 e0 e0 rfl rfl (one_of rfl) rfl) fun w b=>Dz [] [] (Rn QSn (u _ _ ⟨_,_,rfl,rfl,rfl,((b.pk 4 [3,2,1,0] rfl).facts (allT allI))⟩))
   refine LB wn (rAl b ZT_28) fun G w b=>Dn [] [0,2,3,4] [5] (Rn (yS rfl (lbs_ [c.v] ST_26 e0 b R3) (yS rfl (yFb FL_26_0 e0) (yS rfl (lb_ c.v O_24 e0 b R3) (yS rfl (yLen SL_24 e0 b (rdI i)) QSn)))) ?_)
   refine Lc1 rfl ?_
   replace b:=(b.pk 2 [1,0] rfl).fz
   refine Lk wn (yCall FN_72 (a2 e0 e0)) (slices_Repeat_int_ok t F0 b) ?_
   rintro _ w ⟨d,rfl,b⟩
   refine ⟨_,rfl,?_⟩
   refine Dn [6] [0] [8] (yR rfl (ybuild (us:=[c.v,d.v,hnil.v]) [(0,.agg #[c.v]),(1,d.v)] SO_28 (bp2 e0 e0) rfl) (Rn (yS rfl (lbs_ [c.v] ST_26 e0 b R3) QSn) ?_))
   refine Lc1 rfl ?_
   replace b:=b.pk 2 [1,0] rfl
   exact LT wn (r_stbn (vals':=[c.v,d.v,hnil.v]) (us:=[c.v,d.v,hnil.v]) b ST_28 e0 e0 rfl rfl (one_of rfl) rfl) fun w b=>Dz [] [] (Rn QSn (u _ _ ⟨_,_,rfl,rfl,rfl,((b.pk 4 [3,2,1,0] rfl).facts (allT allI))⟩))
  refine LB wn (rAl b ZT_28) fun G w b=>Dn [] [0,2,3,4] [1] (Rn (yS rfl (lbs_ [c.v] ST_26 e0 b R2) (yS rfl (yFb FL_26_0 e0) (yS rfl (lb_ c.v O_24 e0 b R2) (yS rfl (yLen SL_24 e0 b (rdI i)) QSn)))) ?_)
  refine Lc1 rfl ?_
  refine LH wn (rLt (n:=1) (l:=[1]) b SL_22 [iV 1] (bp1 rfl) rfl rfl (mks1 (cs:=[iV 1]) rfl mkI mks0)) fun R w b=>Dn [] [0,2,3,4] [5] (Rn (yS rfl (lbs_ [c.v] ST_26 e0 b R3) (yS rfl (yFb FL_26_0 e0) (yS rfl (lb_ c.v O_24 e0 b R3) (yS rfl (yLen SL_24 e0 b (rdI i)) QSn)))) ?_)
  refine Lc1 rfl ?_
  replace b:=b.fz
  refine Lk wn (yCall FN_72 (a2 e0 e0)) (slices_Repeat_int_ok t F0 b) ?_
  rintro _ w ⟨d,rfl,b⟩
  refine ⟨_,rfl,?_⟩
  refine Dn [6] [0] [8] (yR rfl (ybuild (us:=[c.v,d.v,hnil.v]) [(0,.agg #[c.v]),(1,d.v)] SO_28 (bp2 e0 e0) rfl) (Rn (yS rfl (lbs_ [c.v] ST_26 e0 b R3) QSn) ?_))
  refine Lc1 rfl ?_
  replace b:=b.pk 2 [1,0] rfl
  exact LT wn (r_stbn (vals':=[c.v,d.v,hnil.v]) (us:=[c.v,d.v,hnil.v]) b ST_28 e0 e0 rfl rfl (one_of rfl) rfl) fun w b=>Dz [] [] (Rn QSn (u _ _ ⟨_,_,rfl,rfl,rfl,((b.pk 4 [3,2,1,0] rfl).facts (allT allI))⟩))
 rintro f w ⟨o,j,S,T,U,b⟩
 refine O _ _ (sQ fun _ V=>sR fun _ W=>yY (yFb FL_26_0 (eh S)) (yY (lb_ c.v O_24 e0 b R0) (yY (yLen SL_24 e0 b (rdI i)) (Ym (iV 0) rfl (wK W (blockQ fun _ X=>bE m fun c0 Z m=>?_))))))
 replace b:=b.rowNh 22 S1
 refine loopQ (fun s a w=>∃ (x:L2) (q:Int) (f:FV) (h:Hdr),(x,q)=s∧a=fr 31 f∧f 2=(pB p)∧f 3=(pB o)∧f 14=c.v∧f 15=iV (r.length:Int)∧f 16=iV q∧St w0 ros (box p 28 [hnil.v,hnil.v,hnil.v]::row 3 I1 j.v F::row 22 S1 h.v x::box o 28 [c.v,j.v,h.v]::rs) w) Z ⟨_,_,_,_,rfl,rfl,T,U,rfl,rfl,rfl,(b.pk 5 [2,2,0,1] rfl)⟩ ?_
 rintro _ _ w c1 ⟨x,q,f,h,rfl,rfl,y,k,H,I,z,b⟩ g a0 c2 a1 a3
 refine sR fun _ a4=>yY (ylss (eh z) (eh I)) (wK a4 (seqQ fun c3 a5 a6=>?_))
 refine cIf e0 g (fun a7 g=>?_) fun a7 g=>?_
 ·refine wp_skip (a5 _ _ (sQ fun _ a8=>blockQ fun _ a9=>sR fun _ b0=>bE g fun c4 J g=>yY (yIa SL_24 (eh H) (eh z) b (rdI i) J) ?_))
  obtain ⟨A,b⟩:=iLs b i J
  refine yY (yCt O_22 e0 b F1 rfl) (Ya A.v e0 (wK b0 (bE g fun b1 b2 g=>bE g fun c5 b5 g=>dR [0,1,0,0,8,28,60,127,255,511] [2,5,6,7,9] 5 folM ?_)))
  replace b:=b.drew
  refine Dn [0,1,3,4] [] [2] (yR rfl (yFb FL_28_2 (eh k)) (yR rfl (lb_ h.v O_24 e0 b R3) (yR rfl (m_ A.v e0) (yR rfl (yLen SL_22 e0 b (rdI F0)) (Rn QSn ?_)))))
  refine Lc1 rfl ?_
  refine LH wn (rLt (n:=1) (l:=[1]) b SL_22 [iV 1] (bp1 rfl) rfl rfl (mks1 (cs:=[iV 1]) rfl mkI mks0)) fun c6 w b=>Dn [] [0,1,3,4] [5] (Rn (yS rfl (yFb FL_28_2 (eh k)) (yS rfl (lb_ h.v O_24 e0 b R4) (yS rfl (m_ A.v e0) (yS rfl (yLen SL_22 e0 b (rdI F0)) QSn)))) ?_)
  refine Lc1 rfl ?_
  replace b:=b.fz
  refine Lk wn (yCall FN_72 (a2 e0 e0)) (slices_Repeat_int_ok b2 F0 b) ?_
  rintro _ w ⟨K,rfl,b⟩
  refine ⟨_,rfl,?_⟩
  refine Dn [] [0,1] [6] (Rn (yS rfl (yFb FL_28_2 (eh k)) (yS rfl (lb_ h.v O_24 e0 b R4) QSn)) ?_)
  refine Lc1 rfl ?_
  replace b:=b.fz
  refine LH wn (rLt (n:=1) (l:=[b1]) b SL_24 [K.v] (bp1 e0) rfl rfl (mks1 (cs:=[K.v]) rfl (mkS F0) mks0)) fun c7 w b=>Dn [] [0,1] [7] (Rn (yS rfl (yFb FL_28_2 (eh k)) (yS rfl (lb_ h.v O_24 e0 b R4) QSn)) ?_)
  refine Lc1 rfl ?_
  replace b:=b.pk 4 [3,0,0,0] rfl
  refine LH wn (rAp b SL_24 e0 e0 rO1 b5) fun b6 w b=>Dn [8] [] [9] (yR rfl (yFb FL_28_2 (eh k)) (Rn QSn ?_))
  refine Lc1 rfl ?_
  replace b:=b.pk 5 [4,0,0,0,0] rfl
  refine LT wn (r_stb1 (vals':=[c.v,j.v,b6.v]) b O_24 e0 e0 rfl rfl rfl rfl) fun w b=>Dz [] [] (Rn QSn (a9 _ _ _ (a8 _ _ (wR (yY (yadd (eh z) rfl) (Ym (iV (wa .i64 q 1)) e0 (wN ?_)))))))
  cases g
  exact a1 _ _ _ rfl ⟨_,_,_,_,rfl,rfl,y,k,H,I,rfl,((b.pk 5 [3,3,1,0] rfl).facts (allT (allT (allT (allT allI)))))⟩
 refine wp_exit (a6 _ _ _ rfl ?_)
 cases g
 refine a3 _ _ _ _ rfl rfl ?_
 obtain rfl:=a0 _ rfl
 refine X _ _ _ (V _ _ (sR fun _ b7=>yY (lbs_ [c.v,j.v,h.v] ST_28 (eh k) b R3) (yT (r_stbn (vals':=[c.v,j.v,h.v]) (us:=[c.v,j.v,h.v]) b ST_28 (eh y) e0 rfl rfl (one_of rfl) rfl) fun w b=>wK b7 (wp_ret ?_))))
 cases m
 exact L _ _ _ (fin1r Tryz.results85 (rcs2 rfl y b R0 ST_28 rfl) ⟨_,_,_,rfl,((b.pk 4 [1,1] rfl).facts (allC i allI))⟩)
theorem dissect_total_ok {i:LI} {g:Hdr} {out:Int} (j:dissect_total i=some out) (k:imm I1 g.v i∈ros) (b:St w0 ros rs w):
  Calls Tryz.prog 96 #[g.v] w (fun e w=>e=.returned (iV out)∧St w0 ros rs w):=by
 refine enterQ Tryz.func96 rfl Tryz.ntmps96 rfl fun Q r=>sR fun _ t=>Ya (iV 0) rfl (wK t (sR fun _ u=>Ya (iV 0) rfl (wK u (sQ fun _ x=>sR fun _ y=>?_))))
 refine Ym g.v e0 (yY (yLen SL_22 e0 b (rdI k)) (Ym (iV 0) rfl (wK y (blockQ fun _ z=>bE j fun N A j=>?_))))
 refine loopQ (fun s a w=>∃ (c h:Int) (f:FV),(c,h)=s∧a=fr 17 f∧f 3=iV c∧f 6=g.v∧f 7=iV (i.length:Int)∧f 8=iV h∧St w0 ros rs w) A ⟨_,_,_,rfl,rfl,rfl,rfl,rfl,rfl,b⟩ ?_
 rintro _ _ w O ⟨c,h,f,rfl,rfl,n,o,p,l,b⟩ d B R C D
 refine sR fun _ E=>yY (ylss (eh l) (eh p)) (wK E (seqQ fun S F G=>?_))
 refine cIf e0 d (fun H d=>?_) fun H d=>?_
 ·refine wp_skip (F _ _ (sQ fun _ I=>blockQ fun _ J=>sR fun _ K=>bE d fun m q d=>yY (yIa SL_22 (eh o) (eh l) b (rdI k) q) (yY (yI O_3 e0 b (rdI k) q) (Ya (iV m) e0 (wK K (wR (Ym (iV c) (eh n) ?_)))))))
  refine Ym (iV m) e0 (yY (yadd e0 e0) (Ya (iV (wa .i64 c m)) e0 (wN (J _ _ _ (I _ _ (wR (yY (yadd (eh l) rfl) (Ym (iV (wa .i64 h 1)) e0 (wN ?_)))))))))
  cases d
  exact C _ _ _ rfl ⟨_,_,_,rfl,rfl,rfl,o,p,rfl,b⟩
 refine wp_exit (G _ _ _ rfl ?_)
 cases d
 refine D _ _ _ _ rfl rfl ?_
 obtain rfl:=B _ rfl
 refine z _ _ _ (x _ _ (sR fun _ L=>Ym (iV c) (eh n) (Ya (iV c) e0 (wK L (wp_ret ?_)))))
 cases j
 exact r _ _ _ (fin1r Tryz.results96 ⟨rfl,rfl⟩ ⟨rfl,b⟩)
theorem graph_levels_ok {a7:L2} {p:Int} {k:Hdr} {out:L2} (m:graph_levels a7 p=some out) (E:imm S1 k.v a7∈ros) (b:St w0 ros rs w):
  Calls Tryz.prog 117 #[.agg #[k.v],iV p] w (fun e w=>∃ (a8:Hdr),e=.returned (a8.v)∧St w0 ros (row 22 S1 a8.v out::rs) w):=by
 refine enterQ Tryz.func117 rfl Tryz.ntmps117 rfl fun Q c3=>sR fun _ c4=>yBb (r_box (vals:=[k.v]) b e0 rfl) fun o w b=>Ya hnil.v rfl (wK c4 (sR fun _ c5=>yY (yFb FL_26_0 e0) (yY (lb_ k.v O_24 e0 b R0) (yY (yLen SL_24 e0 b (rdI E)) (bE m fun j7 c6 m=>?_)))))
 refine yH (rMk b SL_93 e0 c6) fun g w b=>Ya g.v e0 (wK c5 (sR fun _ c7=>Ym g.v e0 (Ym (iV p) e0 (bE m fun j8 a9 m=>yY (yIs SL_93 e0 e0 b rO0 a9) (yT (r_sti (cs:=[.bool true]) b O_4 rfl e0 rfl rfl mkB a9) fun w b=>wN ?_)))))
 refine c7 _ _ (sR fun _ c8=>Ya hnil.v rfl (wK c8 (sQ fun _ c9=>sR fun _ d0=>Ym (iV p) e0 (yH (rLt (n:=1) (l:=[p]) b SL_22 [iV p] (bp1 e0) rfl rfl (mks1 (cs:=[iV p]) rfl mkI mks0)) fun d1 w b=>Ya d1.v e0 (wN ?_)))))
 refine d0 _ _ (blockQ fun _ d2=>bE m fun j9 d3 m=>?_)
 replace b:=b.rowNh 22 S1
 refine loopQ (fun s a w=>∃ (F:List Bool) (G:L2) (j:LI) (f:FV) (t d:Hdr),(F,G,j)=s∧a=fr 63 f∧f 2=(pB o)∧f 5=g.v∧f 6=t.v∧f 7=d.v∧St w0 ros (box o 26 [k.v]::row 4 rB g.v F::row 22 S1 t.v G::row 3 I1 d.v j::rs) w) d3 ⟨_,_,_,_,_,_,rfl,rfl,rfl,rfl,rfl,rfl,(b.pk 4 [3,2,0,0] rfl)⟩ ?_
 rintro _ _ w k0 ⟨F,G,j,f,t,d,rfl,rfl,d4,d5,b0,H,b⟩ h d6 k7 d7 d8
 refine seqQ fun k8 d9 e1=>sR fun _ e2=>Ym d.v (eh H) (yY (yLen SL_22 e0 b rO3) (yY (ygtr e0 rfl) (wK e2 ?_)))
 refine cIf e0 h (fun e3 h=>?_) fun e3 h=>?_
 ·refine wp_skip (d9 _ _ (blockQ fun _ e4=>sR fun _ e5=>Ym t.v (eh b0) (Ym d.v (eh H) (yH (rLt (n:=1) (l:=[j]) ((b.pk 4 [3,0,0,0] rfl).fz) SL_24 [d.v] (bp1 e0) rfl rfl (mks1 (cs:=[d.v]) rfl (mkS F0) mks0)) fun k9 w b=>bE h fun I e6 h=>yH (rAp (b.pk 4 [3,0,0,0] rfl) SL_24 e0 e0 rO1 e6) fun q w b=>Ya q.v e0 (wN ?_)))))
  refine e5 _ _ (sR fun _ e7=>Ya hnil.v rfl (wK e7 (sQ fun _ e8=>sR fun _ e9=>Ym d.v (eh H) (yY (yLen SL_22 e0 b (rdI F0)) (Ym (iV 0) rfl (wK e9 ?_))))))
  refine blockQ fun _ f0=>bE h fun l0 f1 h=>?_
  replace b:=b.rowNh 3 I1
  refine loopQ (fun s a w=>∃ (J:List Bool) (K:LI) (u:Int) (f:FV) (x:Hdr),(J,K,u)=s∧a=fr 63 f∧f 2=(pB o)∧f 5=g.v∧f 6=q.v∧f 8=x.v∧f 29=d.v∧f 30=iV (j.length:Int)∧f 31=iV u∧St w0 (imm I1 d.v j::ros) (box o 26 [k.v]::row 4 rB g.v J::row 22 S1 q.v I::row 3 I1 x.v K::rs) w) f1 ⟨_,_,_,_,_,rfl,rfl,d4,d5,rfl,rfl,rfl,rfl,rfl,(b.pk 5 [3,3,1,0] rfl)⟩ ?_
  rintro _ _ w l1 ⟨J,K,u,f,x,rfl,rfl,L,b1,b2,N,b3,b5,O,b⟩ i f2 l2 f3 f4
  refine sR fun _ f5=>yY (ylss (eh O) (eh b5)) (wK f5 (seqQ fun l3 f6 f7=>?_))
  refine cIf e0 i (fun f8 i=>?_) fun f8 i=>?_
  ·refine wp_skip (f6 _ _ (sQ fun _ f9=>blockQ fun _ g0=>sR fun _ g1=>bE i fun b6 b7 i=>yY (yIa SL_22 (eh b3) (eh O) b (rdI F0) b7) (yY (yI O_3 e0 b (rdI F0) b7) (Ya (iV b6) e0 (wK g1 (sR fun _ g2=>?_))))))
   refine yY (yFb FL_26_0 (eh L)) (yY (lb_ k.v O_24 e0 b R0) (Ym (iV b6) e0 (bE i fun A b8 i=>yY (yIa SL_24 e0 e0 b (rdI (mtF E)) b8) ?_)))
   obtain ⟨B,b⟩:=iLs b (mtF E) b8
   refine yY (yCt O_22 e0 b F1 rfl) (yY (yLen SL_22 e0 b (rdI F0)) (Ym (iV 0) rfl (wK g2 (blockQ fun _ g3=>bE i fun l4 g4 i=>?_))))
   refine loopQ (fun s a w=>∃ (R:List Bool) (S:LI) (y:Int) (f:FV) (C:Hdr),(R,S,y)=s∧a=fr 63 f∧f 2=(pB o)∧f 5=g.v∧f 6=q.v∧f 8=C.v∧f 29=d.v∧f 30=iV (j.length:Int)∧f 31=iV u∧f 39=B.v∧f 40=iV (A.length:Int)∧f 41=iV y∧St w0 (imm I1 d.v j::imm I1 B.v A::ros) (box o 26 [k.v]::row 4 rB g.v R::row 22 S1 q.v I::row 3 I1 C.v S::rs) w) g4 ⟨_,_,_,_,_,rfl,rfl,L,b1,b2,N,b3,b5,O,rfl,rfl,rfl,(b.facts (allC F2 (allC F0 (allT (allT (allT allI))))))⟩ ?_
   rintro _ _ w g5 ⟨R,S,y,f,C,rfl,rfl,T,z,U,V,W,X,Z,a0,a2,D,b⟩ c g6 l5 g7 g8
   refine sR fun _ g9=>yY (ylss (eh D) (eh a2)) (wK g9 (seqQ fun l6 h0 h1=>?_))
   refine cIf e0 c (fun h3 c=>?_) fun h3 c=>?_
   ·refine wp_skip (h0 _ _ (sQ fun _ h4=>blockQ fun h6 h7=>sR fun _ h8=>bE c fun r b9 c=>yY (yIa SL_22 (eh a0) (eh D) b (rdI F1) b9) (yY (yI O_3 e0 b (rdI F1) b9) (Ya (iV r) e0 (wK h8 (sR fun _ i0=>?_))))))
    refine Ym g.v (eh z) (Ym (iV r) e0 (bE c fun l7 c0 c=>yY (yIa SL_93 e0 e0 b rO1 c0) (yY (yB O_4 e0 b rO1 c0) (yY (ynot e0) (wK i0 ?_)))))
    have c1:∀ (a3:List Bool) (a4:LI) (a5:Hdr) (f:FV) w,f 2=(pB o)→f 5=g.v→f 6=q.v→f 8=a5.v→f 29=d.v→f 30=iV (j.length:Int)→f 31=iV u→f 39=B.v→f 40=iV (A.length:Int)→f 41=iV y→St w0 (imm I1 d.v j::imm I1 B.v A::ros) (box o 26 [k.v]::row 4 rB g.v a3::row 22 S1 q.v I::row 3 I1 a5.v a4::rs) w→graph_levels_j40 y a3 a4=some g5→h6 .normal (fr 63 f) w:=by
     intro a3 a4 a5 f w i1 i2 i3 i4 i5 i6 i7 i8 i9 j0 b m
     refine h7 _ _ _ (h4 _ _ (wR (yY (yadd (eh j0) rfl) (Ym (iV (wa .i64 y 1)) e0 (wN ?_)))))
     cases m
     exact g7 _ _ _ rfl ⟨_,_,_,_,_,rfl,rfl,i1,i2,i3,i4,i5,i6,i7,i8,i9,rfl,b⟩
    rcases iteS c with ⟨a6,c⟩ | ⟨a6,c⟩
    ·exact condF e0 (nF a6) (wp_skip (c1 _ _ _ _ _ T z U V W X Z a0 a2 D b c))
    refine condT e0 (nT (bfalse a6)) (sR fun _ j1=>Ym g.v (eh z) (Ym (iV r) e0 (bE c fun l8 c2 c=>yY (yIs SL_93 e0 e0 b rO1 c2) (yT (r_sti (cs:=[.bool true]) (b.pk 2 [1,0] rfl) O_4 rfl e0 rfl rfl mkB c2) fun w b=>wK j1 (wR (Ym C.v (eh V) (Ym (iV r) e0 ?_)))))))
    exact yH (rLt (n:=1) (l:=[r]) b SL_22 [iV r] (bp1 e0) rfl rfl (mks1 (cs:=[iV r]) rfl mkI mks0)) fun l9 w b=>bE c fun m0 j2 c=>yH (rAp (b.pk 5 [4,0,0,0,0] rfl) SL_22 e0 e0 rO1 j2) fun j3 w b=>Ya j3.v e0 (wN (c1 _ _ _ _ _ T z U rfl W X Z a0 a2 D (b.pk 5 [3,2,2,0] rfl) c))
   refine wp_exit (h1 _ _ _ rfl ?_)
   cases c
   refine g8 _ _ _ _ rfl rfl ?_
   obtain rfl:=g6 _ rfl
   refine g3 _ _ _ (g0 _ _ _ (f9 _ _ (wR (yY (yadd (eh Z) rfl) (Ym (iV (wa .i64 u 1)) e0 (wN ?_))))))
   cases i
   exact f3 _ _ _ rfl ⟨_,_,_,_,_,rfl,rfl,T,z,U,V,W,X,rfl,(b.facts (allC F0 (allT (allT allI))))⟩
  refine wp_exit (f7 _ _ _ rfl ?_)
  cases i
  refine f4 _ _ _ _ rfl rfl ?_
  obtain rfl:=f2 _ rfl
  refine f0 _ _ _ (e8 _ _ (sR fun _ j4=>Ym x.v (eh N) (bE h fun m1 j5 h=>?_)))
  replace b:=b.pk 4 [3,0,0,0] rfl
  refine yC (yCall FN_118 (a1 e0)) (sortI_ok j5 b) ?_
  rintro _ w ⟨rfl,b⟩
  refine ⟨_,rfl,?_⟩
  refine wK j4 (wR (Ym x.v (eh N) (Ya x.v e0 (wN (e4 _ _ _ ?_)))))
  cases h
  exact d7 _ _ _ rfl ⟨_,_,_,_,_,_,rfl,rfl,L,b1,b2,rfl,((b.pk 4 [1,1,1,0] rfl).facts (allT allI))⟩
 refine wp_exit (e1 _ _ _ rfl ?_)
 cases h
 refine d8 _ _ _ _ rfl rfl ?_
 obtain rfl:=d6 _ rfl
 refine d2 _ _ _ (c9 _ _ (sR fun _ j6=>Ym t.v (eh b0) (Ya t.v e0 (wK j6 (wp_ret ?_)))))
 cases m
 exact c3 _ _ _ (fin1r Tryz.results117 ⟨rfl,rfl⟩ ⟨_,rfl,(b.pk 4 [2] rfl)⟩)
end Go.Proofs.YthpeajepbffinaaGreat
