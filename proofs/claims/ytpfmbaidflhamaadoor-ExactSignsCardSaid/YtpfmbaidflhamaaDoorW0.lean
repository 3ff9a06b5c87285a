/- Walks: each function computes its model, printed. -/
import Derived.Test.YtpfmbaidflhamaaDoorSxX
import Derived.Test.YtpfmbaidflhamaaDoorTy
import Derived.Test.YtpfmbaidflhamaaDoorM4
import Derived.Test.YtpfmbaidflhamaaDoorSxY
namespace Go.Proofs.YtpfmbaidflhamaaDoor
open Go Sx M
set_option maxRecDepth 100000
set_option maxHeartbeats 40000000
set_option linter.unusedVariables false
attribute [local irreducible] wpList Code.wp Calls DR QR QS LA LS St
variable {w0:World} {ros:List Fact} {rs:List Res} {w:World}
theorem sparseref01_trim_ok {u:LI} {d:Hdr} {out:LI} (m:sparseref01_trim u=some out) (o:imm (rI .u32) d.v u∈ros) (b:St w0 ros rs w):
  Calls Tryd.prog 70 #[d.v] w (fun e w=>∃ (C:Hdr),e=.returned (C.v)∧St w0 ros (row 58 (rI .u32) C.v out::rs) w):=by
 refine enterQ Tryd.func70 rfl Tryd.ntmps70 rfl fun Q L=>sR fun _ N=>Ya hnil.v rfl (wK N (sR fun _ O=>Ym d.v e0 (yY (yLen SL_32 e0 b (rdI o)) (Ya (iV (u.length:Int)) e0 (wK O (sQ fun _ R=>?_))))))
 refine blockQ fun S T=>bE m fun U V m=>?_
 have W:∀ (p:Int) (f:FV) w,f 0=d.v→f 3=iV p→St w0 ros rs w→p=U→S (.exit 0) (fr 33 f) w:=by
  intro p f w X Z b ho
  subst ho
  refine T _ _ _ (R _ _ (sR fun _ a0=>Ya hnil.v rfl (wK a0 (sQ fun _ a1=>sR fun _ a2=>Ya (iV 0) rfl (wK a2 (blockQ fun a3 a4=>?_))))))
  refine bE m fun a5 a6 m=>?_
  have a7:∀ (x:LI) (q:Hdr) (f:FV) w,f 4=q.v→St w0 ros (row 58 (rI .u32) q.v x::rs) w→x=a5→a3 (.exit 2) (fr 33 f) w:=by
   intro x q f w a8 b ho
   subst ho
   refine a4 _ _ _ (a1 _ _ (sR fun _ a9=>Ym q.v (eh a8) (Ya q.v e0 (wK a9 (wp_ret ?_)))))
   cases m
   exact L _ _ _ (fin1r Tryd.results70 ⟨rfl,rfl⟩ ⟨_,rfl,b⟩)
  replace b:=b.rowNh 58 (rI .u32)
  refine loopQ (fun s a w=>∃ (y:LI) (i:Int) (f:FV) (r:Hdr),(y,i)=s∧a=fr 33 f∧f 0=d.v∧f 3=iV p∧f 4=r.v∧f 5=iV i∧St w0 ros (row 58 (rI .u32) r.v y::rs) w) a6 ⟨_,_,_,_,rfl,rfl,X,Z,rfl,rfl,b⟩ ?_
  rintro _ _ w d2 ⟨y,i,f,r,rfl,rfl,D,E,F,z,b⟩ g b0 d3 b1 b2
  refine seqQ fun d4 b3 b4=>sR fun _ b5=>Ym (iV i) (eh z) (Ym (iV p) (eh E) (yY (ylss e0 e0) (wK b5 ?_)))
  refine cIf e0 g (fun b6 g=>?_) fun b6 g=>?_
  ·refine wp_skip (b3 _ _ (sQ fun _ b7=>blockQ fun _ b8=>wR (Ym r.v (eh F) (Ym d.v (eh D) (Ym (iV i) (eh z) (bE g fun A G g=>yY (yIa SL_32 e0 e0 b (rdI o) G) (yY (yI O_58 e0 b (rdI o) G) (yH (rLt (n:=1) (l:=[A]) b SL_32 [.int .u32 A] (bp1 e0) rfl rfl (mks1 (cs:=[.int .u32 A]) rfl mkI mks0)) fun d5 w b=>bE g fun d6 b9 g=>?_))))))))
   refine yH (rAp (b.k10) SL_32 e0 e0 rO1 b9) fun c0 w b=>Ya c0.v e0 (wN (b8 _ _ _ (b7 _ _ (wR (Ym (iV i) (eh z) (yY (yadd e0 rfl) (Ya (iV (wa .i64 i 1)) e0 (wN ?_))))))))
   cases g
   exact b1 _ _ _ rfl ⟨_,_,_,_,rfl,rfl,D,E,rfl,rfl,(b.k11)⟩
  ·refine wp_exit (b4 _ _ _ rfl ?_)
   cases g
   exact b2 _ _ _ _ rfl rfl (a7 _ _ _ _ F b (b0 _ rfl))
 refine loopQ (fun s a w=>∃ (h:Int) (f:FV),h=s∧a=fr 33 f∧f 0=d.v∧f 3=iV h∧St w0 ros rs w) V ⟨_,_,rfl,rfl,rfl,rfl,b⟩ ?_
 rintro _ _ w d7 ⟨h,f,rfl,rfl,B,t,b⟩ j c1 d8 c2 c3
 refine seqQ fun d9 c4 c5=>sR fun _ c6=>Ym (iV h) (eh t) (yY (ygtr e0 rfl) (Ym (.bool (decide ((0:Int) < h))) e0 (bE j fun c7 k j=>?_)))
 refine joinW 7 (fun f w=>f 0=d.v∧f 3=iV h∧f 17=.bool c7∧St w0 ros rs w) (fun H=>?_) ?_
 ·rcases iteS k with ⟨c,k⟩ | ⟨c,k⟩
  ·refine yG (dT c) (m_ d.v (eh B)) (yG (dT c) (m_ (iV h) (eh t)) (yG (dT c) (ysub e0 rfl) (bE k fun c8 I k=>yG (dT c) (yIa SL_32 e0 e0 b (rdI o) I) (yG (dT c) (yI O_58 e0 b (rdI o) I) (yG (dT c) (yeql e0 rfl) (yY (pt_ (.bool (decide (c8=0))) e0 (dT c) e0) ?_))))))
   cases k
   exact H _ _ ⟨B,t,rfl,b⟩
  ·refine gN (dF c) (gN (dF c) (gN (dF c) (gN (dF c) (gN (dF c) (gN (dF c) (yY (pf_ (.bool false) e0 (dF c) rfl) ?_))))))
   cases k
   exact H _ _ ⟨B,t,rfl,b⟩
 rintro f w ⟨J,K,c9,b⟩
 refine wK c6 (cB (eh c9) j (fun d0 j=>?_) fun d0 j=>?_)
 ·refine wp_skip (c4 _ _ (blockQ fun _ d1=>wR (Ym (iV h) (eh K) (yY (ysub e0 rfl) (Ya (iV (ws .i64 h 1)) e0 (wN (d1 _ _ _ ?_)))))))
  cases j
  exact c2 _ _ _ rfl ⟨_,_,rfl,rfl,J,rfl,b⟩
 ·refine wp_exit (c5 _ _ _ rfl ?_)
  cases j
  exact c3 _ _ _ _ rfl rfl (W _ _ _ J K b (c1 _ rfl))
theorem sparseref01_make1_ok {c:Bool} {j:LI} {h:Hdr} {out:Bool×LI} (i:sparseref01_make1 c j=some out) (o:imm (rI .u32) h.v j∈ros) (a:St w0 ros rs w):
  Calls Tryd.prog 54 #[.bool c,h.v] w (fun e w=>∃ (k:Hdr),e=.returned (.agg #[.bool out.1,k.v])∧St w0 ros (row 58 (rI .u32) k.v out.2::rs) w):=by
 refine enterQ Tryd.func54 rfl Tryd.ntmps54 rfl fun Q p=>sR fun _ q=>yBb (rAl a ZT_34) fun l w a=>wK q (sR fun _ r=>Ym h.v e0 (bE i fun g s i=>yC (yCall FN_70 (a1 e0)) (sparseref01_trim_ok s o a) ?_))
 rintro _ w ⟨d,rfl,a⟩
 refine ⟨_,rfl,?_⟩
 refine Ya d.v e0 (wK r (sR fun _ t=>Ym (.bool c) e0 (Ym (.bool c) e0 ?_)))
 refine joinW 4 (fun f w=>f 1=d.v∧f 4=(pB l)∧f 12=.bool (c && (decide ((0:Int) < (g.length:Int))))∧St w0 ros (row 58 (rI .u32) d.v g::box l 34 [.bool false,hnil.v]::rs) w) (fun m=>?_) ?_
 ·rcases Bool.eq_false_or_eq_true c with b | b
  ·exact yG b (m_ d.v e0) (yG b (yLen SL_32 e0 a rO0) (yG b (ygtr e0 rfl) (yY (pt_ (.bool (decide ((0:Int) < (g.length:Int)))) e0 b e0) (m _ _ ⟨rfl,rfl,(congrArg Value.bool (andT b)),a⟩))))
  ·exact gN b (gN b (gN b (yY (pf_ (.bool false) e0 b rfl) (m _ _ ⟨rfl,rfl,(congrArg Value.bool (andF b)),a⟩))))
 rintro f w ⟨u,n,x,a⟩
 refine Ym d.v (eh u) (yY (ybuild (us:=[.bool (c && (decide ((0:Int) < (g.length:Int)))),d.v]) [(0,.bool (c && (decide ((0:Int) < (g.length:Int))))),(1,d.v)] SO_34 (bp2 (eh x) e0) rfl) (yT (r_stbn (vals':=[.bool (c && (decide ((0:Int) < (g.length:Int)))),d.v]) (us:=[.bool (c && (decide ((0:Int) < (g.length:Int)))),d.v]) (a.k10) ST_34 (eh n) e0 rfl rfl (one_of rfl) rfl) fun w a=>wK t (wp_ret ?_)))
 cases i
 exact p _ _ _ (fin1r Tryd.results54 (rcs2 rfl n a R0 ST_34 rfl) ⟨_,rfl,(a.k12)⟩)
theorem sparseref01_FromInt_ok {c:Int} {out:Bool×LI} (d:sparseref01_FromInt c=some out) (a:St w0 ros rs w):
  Calls Tryd.prog 35 #[iV c] w (fun e w=>∃ (g:Hdr),e=.returned (.agg #[.bool out.1,g.v])∧St w0 ros (row 58 (rI .u32) g.v out.2::rs) w):=by
 refine enterQ Tryd.func35 rfl Tryd.ntmps35 rfl fun Q p=>sR fun _ q=>yBb (rAl a ZT_34) fun h w a=>wK q (sR fun _ r=>Ym (iV c) e0 (yY (ycv (k':=.u64) (by kernel_rfl) (by kernel_rfl) e0) (Ya (.int .u64 (wc .u64 c)) e0 (wK r ?_))))
 refine sQ fun s t=>sR fun _ u=>Ym (iV c) e0 (yY (ylss e0 rfl) (wK u ?_))
 have i:∀ (b:Int) (f:FV) w,f 0=iV c→f 2=(pB h)→f 3=.int .u64 b→St w0 ros (box h 34 [.bool false,hnil.v]::rs) w→sparseref01_FromInt_j1 c b=some out→s .normal (fr 22 f) w:=by
  intro b f w x j k a d
  refine t _ _ (sR fun _ y=>Ym (iV c) (eh x) (yY (ylss e0 rfl) (Ym (.int .u64 b) (eh k) (yY (ycv (k':=.u32) (by kernel_rfl) (by kernel_rfl) e0) (Ym (.int .u64 b) (eh k) (yY (yshrc e0 rfl) (yY (ycv (k':=.u32) (by kernel_rfl) (by kernel_rfl) e0) (yH (rLt (n:=2) (l:=[wc .u32 b,wc .u32 (wsrc .u64 b 32)]) a SL_32 [.int .u32 (wc .u32 b),.int .u32 (wc .u32 (wsrc .u64 b 32))] (bp2 e0 e0) rfl rfl (mks1 (cs:=[.int .u32 (wc .u32 b)]) rfl mkI (mks1 (cs:=[.int .u32 (wc .u32 (wsrc .u64 b 32))]) rfl mkI mks0))) fun B w a=>bE d fun m z d=>?_))))))))
  replace a:=a.fz
  refine yC (yCall FN_54 (a2 e0 e0)) (sparseref01_make1_ok z F0 a) ?_
  rintro _ w ⟨o,rfl,a⟩
  refine ⟨_,rfl,?_⟩
  refine yT (r_stbn (vals':=[.bool m.1,o.v]) (us:=[.bool m.1,o.v]) (a.k10) ST_34 (eh j) e0 rfl rfl (one_of rfl) rfl) fun w a=>wK y (wp_ret ?_)
  cases d
  exact p _ _ _ (fin1r Tryd.results35 (rcs2 rfl j a R0 ST_34 rfl) ⟨_,rfl,((a.k12).facts (allT allI))⟩)
 refine cIf e0 d (fun A d=>?_) fun A d=>?_
 ·exact wR (Ym (iV c) e0 (yY (yadd e0 rfl) (yY (yneg e0) (yY (ycv (k':=.u64) (by kernel_rfl) (by kernel_rfl) e0) (yY (yadd e0 rfl) (Ya (.int .u64 (wa .u64 (wc .u64 (wneg .i64 (wa .i64 c 1))) 1)) e0 (wN (i _ _ _ rfl rfl rfl a d))))))))
 ·exact wp_skip (i _ _ _ rfl rfl rfl a d)
theorem sparselaw08_num_ok {b:Int} {out:Bool×LI} (c:sparselaw08_num b=some out) (a:St w0 ros rs w):
  Calls Tryd.prog 14 #[iV b] w (fun e w=>∃ (d:Hdr),e=.returned (.agg #[.bool out.1,d.v])∧St w0 ros (row 58 (rI .u32) d.v out.2::rs) w):=by
 refine enterQ Tryd.func14 rfl Tryd.ntmps14 rfl fun Q h=>sR fun _ i=>yBb (rAl a ZT_34) fun l w a=>wK i (sR fun _ j=>Ym (iV b) e0 (bE c fun f k c=>yC (yCall FN_35 (a1 e0)) (sparseref01_FromInt_ok k a) ?_))
 rintro _ w ⟨g,rfl,a⟩
 refine ⟨_,rfl,?_⟩
 refine yT (r_stbn (vals':=[.bool f.1,g.v]) (us:=[.bool f.1,g.v]) (a.k10) ST_34 e0 e0 rfl rfl (one_of rfl) rfl) fun w a=>wK j (wp_ret ?_)
 cases c
 exact h _ _ _ (fin1r Tryd.results14 (rcs2 rfl rfl a R0 ST_34 rfl) ⟨_,rfl,(a.k12)⟩)
theorem exact_columns_ok {f:List (List (Bool×LI))} {c:Hdr} {out:Int} (b:exact_columns f=some out) (d:imm (rS (rP rB (rS (rI .u32)))) c.v f∈ros) (a:St w0 ros rs w):
  Calls Tryd.prog 42 #[c.v] w (fun e w=>e=.returned (iV out)∧St w0 ros rs w):=by
 refine enterQ Tryd.func42 rfl Tryd.ntmps42 rfl fun Q g=>sR fun _ i=>Ya (iV 0) rfl (wK i (seqQ fun q j k=>sR fun _ l=>Ym c.v e0 (yY (yLen SL_25 e0 a (rdI d)) (yY (yeql e0 rfl) (wK l ?_)))))
 refine cIf e0 b (fun m b=>?_) fun m b=>?_
 ·refine sR fun _ n=>Ya (iV 0) rfl (wK n (wp_ret (k _ _ _ rfl ?_)))
  cases b
  exact g _ _ _ (fin1r Tryd.results42 ⟨rfl,rfl⟩ ⟨rfl,a⟩)
 ·refine wp_skip (j _ _ (sR fun _ o=>Ym c.v e0 (bE b fun p h b=>yY (yIa SL_25 e0 rfl a (rdI d) h) ?_)))
  obtain ⟨r,a⟩:=iLs a d h
  refine yY (yCt O_31 e0 a F1 rfl) (yY (yLen SL_31 e0 a (rdI F0)) (Ya (iV (p.length:Int)) e0 (wK o (wp_ret ?_))))
  cases b
  exact g _ _ _ (fin1r Tryd.results42 ⟨rfl,rfl⟩ ⟨rfl,(a.facts (allT (allT allI)))⟩)
theorem exact_check_1_ok {b:List (Bool×LI)} {a:Int} {c:Hdr} {d:Nat} {out:Bool} (g:exact_check_1 b a=some out) (h:imm (rP rB (rS (rI .u32))) c.v b∈ros) (f:St w0 ros (box d 3 [iV a]::rs) w):
  Calls Tryd.prog 59 #[c.v,(pB d)] w (fun e w=>e=.returned (.bool out)∧St w0 ros (box d 3 [iV a]::rs) w):=by
 refine enterQ Tryd.func59 rfl Tryd.ntmps59 rfl fun Q i=>sR fun _ j=>Ya (.bool false) rfl (wK j (sR fun _ k=>Ym c.v e0 (yY (yLen SL_31 e0 f (rdI h)) (yY (lb_ (iV a) O_3 e0 f R0) (yY (yneq e0 e0) (Ya (.bool (!(decide ((b.length:Int)=a)))) e0 (wN ?_)))))))
 refine k _ _ (wp_ret ?_)
 cases g
 exact i _ _ _ (fin1r Tryd.results59 ⟨rfl,rfl⟩ ⟨rfl,f⟩)
theorem slices_IndexFunc_apiBig_ok {k:List (List (Bool×LI))} {h:Int} {i:Hdr} {g:Nat} {out:Int} (j:slices_IndexFunc_apiBig k h=some out) (l:imm (rS (rP rB (rS (rI .u32)))) i.v k∈ros) (b:St w0 ros (box g 3 [iV h]::rs) w):
  Calls Tryd.prog 76 #[i.v,.func (.func 59) #[] #[(pB g)]] w (fun e w=>e=.returned (iV out)∧St w0 ros (box g 3 [iV h]::rs) w):=by
 refine enterQ Tryd.func76 rfl Tryd.ntmps76 rfl fun Q o=>sR fun _ C=>Ya (iV 0) rfl (wK C (seqQ fun a2 D E=>sR fun _ F=>Ym i.v e0 (yY (yLen SL_25 e0 b (rdI l)) (Ym (iV 0) rfl (wK F ?_)))))
 refine blockQ fun p q=>bE j fun r G j=>?_
 have H:∀ (f:FV) w,St w0 ros (box g 3 [iV h]::rs) w→.inl ()=r→p (.exit 0) (fr 19 f) w:=by
  intro f w b ho
  subst ho
  refine q _ _ _ (D _ _ (sR fun _ I=>Ya (iV (-1)) rfl (wK I (wp_ret ?_))))
  cases j
  exact o _ _ _ (fin1r Tryd.results76 ⟨rfl,rfl⟩ ⟨rfl,b⟩)
 have J:∀ (m:Int) (f:FV) w,f 4=iV m→St w0 ros (box g 3 [iV h]::rs) w→.inr m=r→p .ret (fr 19 f) w:=by
  intro m f w K b ho
  subst ho
  refine q _ _ _ (E _ _ _ rfl ?_)
  cases j
  exact o _ _ _ (fin1r Tryd.results76 ⟨rfl,K⟩ ⟨rfl,b⟩)
 refine loopQ (fun s a w=>∃ (d:Int) (f:FV),d=s∧a=fr 19 f∧f 0=i.v∧f 1=.func (.func 59) #[] #[(pB g)]∧f 7=iV (k.length:Int)∧f 8=iV d∧St w0 ros (box g 3 [iV h]::rs) w) G ⟨_,_,rfl,rfl,rfl,rfl,rfl,rfl,b⟩ ?_
 rintro _ _ w a3 ⟨d,f,rfl,rfl,t,u,x,n,b⟩ c y a4 L z
 refine sR fun _ N=>yY (ylss (eh n) (eh x)) (wK N (seqQ fun a5 O R=>?_))
 refine cIf e0 c (fun S c=>?_) fun S c=>?_
 ·refine wp_skip (O _ _ (seqQ fun a6 T U=>blockQ fun _ A=>sR fun _ V=>Ym (iV d) (eh n) (Ya (iV d) e0 (wK V (sR fun _ W=>Ym (.func (.func 59) #[] #[(pB g)]) (eh u) (Ym i.v (eh t) ?_))))))
  refine Ym (iV d) e0 (bE c fun a7 B c=>yY (yIa SL_25 e0 e0 b (rdI l) B) ?_)
  obtain ⟨a8,b⟩:=iLs b l B
  refine yY (yCt O_31 e0 b F1 rfl) (bE c fun a9 X c=>yC (yCallw FN_59 e0 (a1 e0)) (exact_check_1_ok X F0 b) ?_)
  rintro _ w ⟨rfl,b⟩
  refine ⟨_,rfl,?_⟩
  refine wK W (cB e0 c (fun Z c=>?_) fun Z c=>?_)
  ·refine sR fun _ a0=>Ym (iV d) e0 (Ya (iV d) e0 (wK a0 (wp_ret (A _ _ _ (U _ _ _ rfl ?_)))))
   cases c
   exact z _ _ _ _ rfl rfl (J _ _ _ rfl (b.facts (allT (allT allI))) (y _ rfl))
  ·refine wp_skip (A _ _ _ (T _ _ (wR (yY (yadd (eh n) rfl) (Ym (iV (wa .i64 d 1)) e0 (wN ?_))))))
   cases c
   exact L _ _ _ rfl ⟨_,_,rfl,rfl,t,u,x,rfl,(b.facts (allT (allT allI)))⟩
 ·refine wp_exit (R _ _ _ rfl ?_)
  cases c
  exact z _ _ _ _ rfl rfl (H _ _ b (y _ rfl))
theorem slices_ContainsFunc_apiBig_ok {g:List (List (Bool×LI))} {b:Int} {c:Hdr} {a:Nat} {out:Bool} (d:slices_ContainsFunc_apiBig g b=some out) (h:imm (rS (rP rB (rS (rI .u32)))) c.v g∈ros) (f:St w0 ros (box a 3 [iV b]::rs) w):
  Calls Tryd.prog 58 #[c.v,.func (.func 59) #[] #[(pB a)]] w (fun e w=>e=.returned (.bool out)∧St w0 ros (box a 3 [iV b]::rs) w):=by
 refine enterQ Tryd.func58 rfl Tryd.ntmps58 rfl fun Q i=>sR fun _ j=>Ya (.bool false) rfl (wK j (sR fun _ k=>Ym c.v e0 (Ym (.func (.func 59) #[] #[(pB a)]) e0 (bE d fun l m d=>yC (yCall FN_76 (a2 e0 e0)) (slices_IndexFunc_apiBig_ok m h f) ?_))))
 rintro _ w ⟨rfl,f⟩
 refine ⟨_,rfl,?_⟩
 refine yY (ygeq e0 rfl) (Ya (.bool (decide ((0:Int)≤l))) e0 (wK k (wp_ret ?_)))
 cases d
 exact i _ _ _ (fin1r Tryd.results58 ⟨rfl,rfl⟩ ⟨rfl,f⟩)
theorem exact_check_ok {d:List (List (Bool×LI))} {g:Hdr} {out:Int} (b:exact_check d=some out) (i:imm (rS (rP rB (rS (rI .u32)))) g.v d∈ros) (a:St w0 ros rs w):
  Calls Tryd.prog 41 #[g.v] w (fun e w=>e=.returned (iV out)∧St w0 ros rs w):=by
 refine enterQ Tryd.func41 rfl Tryd.ntmps41 rfl fun Q j=>sR fun _ n=>Ya (iV 0) rfl (wK n (sR fun _ o=>Ym g.v e0 (bE b fun h p b=>yC (yCall FN_42 (a1 e0)) (exact_columns_ok p i a) ?_)))
 rintro _ w ⟨rfl,a⟩
 refine ⟨_,rfl,?_⟩
 refine yBb (rAl a ZT_3) fun q w a=>yT (r_stb1 (vals':=[iV h]) a O_3 e0 e0 rfl rfl rfl rfl) fun w a=>wK o (seqQ fun E r l=>blockQ fun _ k=>sR fun _ s=>Ym g.v e0 (yY (ymf (vf:=#[]) (vc:=#[(pB q)]) a0 (a1 e0)) (bE b fun t u b=>yC (yCall FN_58 (a2 e0 e0)) (slices_ContainsFunc_apiBig_ok u i a) ?_)))
 rintro _ w ⟨rfl,a⟩
 refine ⟨_,rfl,?_⟩
 refine Ya (.bool t) e0 (wK s (cB e0 b (fun x b=>?_) fun x b=>?_))
 ·refine sR fun _ y=>Ya (iV 5) rfl (wK y (wp_ret (k _ _ _ (l _ _ _ rfl ?_))))
  cases b
  exact j _ _ _ (fin1r Tryd.results41 ⟨rfl,rfl⟩ ⟨rfl,(a.k13)⟩)
 ·refine sR fun _ z=>Ym g.v e0 (yY (yLen SL_25 e0 a (rdI i)) (yY (ygtr e0 rfl) (Ym (.bool (decide ((16:Int) < (d.length:Int)))) e0 ?_)))
  refine joinW 3 (fun f w=>f 17=.bool ((decide ((16:Int) < (d.length:Int))) || (decide ((16:Int) < h)))∧St w0 ros rs w) (fun m=>?_) ?_
  ·rcases Bool.eq_false_or_eq_true (decide ((16:Int) < (d.length:Int))) with c | c
   ·exact gN c (gN c (yY (pt_ (.bool true) e0 c rfl) (m _ _ ⟨(congrArg Value.bool (orT c)),(a.k13)⟩)))
   ·exact yG c (lb_ (iV h) O_3 e0 a R0) (yG c (ygtr e0 rfl) (yY (pf_ (.bool (decide ((16:Int) < h))) e0 c e0) (m _ _ ⟨(congrArg Value.bool (orF c)),(a.k13)⟩)))
  rintro f w ⟨A,a⟩
  refine Ya (.bool ((decide ((16:Int) < (d.length:Int))) || (decide ((16:Int) < h)))) (eh A) (wK z (cB e0 b (fun B b=>?_) fun B b=>?_))
  ·refine sR fun _ C=>Ya (iV 6) rfl (wK C (wp_ret (k _ _ _ (l _ _ _ rfl ?_))))
   cases b
   exact j _ _ _ (fin1r Tryd.results41 ⟨rfl,rfl⟩ ⟨rfl,a⟩)
  ·refine wp_skip (k _ _ _ (r _ _ (sR fun _ D=>Ya (iV 0) rfl (wK D (wp_ret ?_)))))
   cases b
   exact j _ _ _ (fin1r Tryd.results41 ⟨rfl,rfl⟩ ⟨rfl,a⟩)
theorem exact_square_ok {i:List (List (Bool×LI))} {h:Hdr} {out:Int} (c:exact_square i=some out) (j:imm (rS (rP rB (rS (rI .u32)))) h.v i∈ros) (b:St w0 ros rs w):
  Calls Tryd.prog 24 #[h.v] w (fun e w=>e=.returned (iV out)∧St w0 ros rs w):=by
 refine enterQ Tryd.func24 rfl Tryd.ntmps24 rfl fun Q k=>sR fun _ m=>Ya (iV 0) rfl (wK m (sR fun _ n=>Ym h.v e0 (bE c fun g o c=>yC (yCall FN_41 (a1 e0)) (exact_check_ok o j b) ?_)))
 rintro _ w ⟨rfl,b⟩
 refine ⟨_,rfl,?_⟩
 refine Ya (iV g) e0 (wK n (seqQ fun C p q=>sR fun _ r=>Ym (iV g) e0 (yY (yeql e0 rfl) (Ym (.bool (decide (g=0))) e0 (bE c fun s d c=>?_)))))
 refine joinW 6 (fun f w=>f 3=iV g∧f 14=.bool s∧St w0 ros rs w) (fun l=>?_) ?_
 ·rcases iteS d with ⟨a,d⟩ | ⟨a,d⟩
  ·refine yG (dT a) (m_ h.v e0) (yG (dT a) (yLen SL_25 e0 b (rdI j)) (yG (dT a) (m_ h.v e0) (bE d fun t u d=>Yc (wG (dT a)) rfl (yCall FN_42 (a1 e0)) (exact_columns_ok u j b) ?_)))
   rintro _ w ⟨rfl,b⟩
   refine ⟨_,rfl,?_⟩
   refine yG (dT a) (yneq e0 e0) (yY (pt_ (.bool (!(decide ((i.length:Int)=t)))) e0 (dT a) e0) ?_)
   cases d
   exact l _ _ ⟨rfl,rfl,b⟩
  ·refine gN (dF a) (gN (dF a) (gN (dF a) (gN (dF a) (gN (dF a) (yY (pf_ (.bool false) e0 (dF a) rfl) ?_)))))
   cases d
   exact l _ _ ⟨rfl,rfl,b⟩
 rintro f w ⟨x,y,b⟩
 refine wK r (cB (eh y) c (fun z c=>?_) fun z c=>?_)
 ·refine sR fun _ A=>Ya (iV 5) rfl (wK A (wp_ret (q _ _ _ rfl ?_)))
  cases c
  exact k _ _ _ (fin1r Tryd.results24 ⟨rfl,rfl⟩ ⟨rfl,b⟩)
 ·refine wp_skip (p _ _ (sR fun _ B=>Ym (iV g) (eh x) (Ya (iV g) e0 (wK B (wp_ret ?_)))))
  cases c
  exact k _ _ _ (fin1r Tryd.results24 ⟨rfl,rfl⟩ ⟨rfl,b⟩)
theorem slices_Clone_uint32_ok {f:LI} {c:Hdr} {out:LI} (b:slices_Clone_uint32 f=some out) (g:imm (rI .u32) c.v f∈ros) (a:St w0 ros rs w):
  Calls Tryd.prog 29 #[c.v] w (fun e w=>∃ (h:Hdr),e=.returned (h.v)∧St w0 ros (row 58 (rI .u32) h.v out::rs) w):=by
 refine enterQ Tryd.func29 rfl Tryd.ntmps29 rfl fun Q i=>sR fun _ j=>Ya hnil.v rfl (wK j (seqQ fun t k m=>sR fun _ o=>Ym c.v e0 (yY (yenil SL_32 e0 rfl) (wK o ?_))))
 rcases nilS c with d | d
 ·refine condT e0 d ?_
  obtain rfl:=nilE d g a
  replace b:=nilM b
  refine sR fun _ p=>Ya hnil.v rfl (wK p (wp_ret (m _ _ _ rfl ?_)))
  cases b
  replace a:=a.rowNh 58 (rI .u32)
  exact i _ _ _ (fin1r Tryd.results29 ⟨rfl,rfl⟩ ⟨_,rfl,a⟩)
 ·refine condF e0 d (wp_skip (k _ _ (sR fun _ q=>yH (rLt (n:=0) (l:=[]) a SL_32 [] bp0 rfl rfl mks0) fun u w a=>Ym c.v e0 (bE b fun x r b=>yH (rAp a SL_32 e0 e0 (rdI g) r) fun s w a=>Ya s.v e0 (wK q ?_)))))
  refine wp_ret ?_
  cases b
  exact i _ _ _ (fin1r Tryd.results29 ⟨rfl,rfl⟩ ⟨_,rfl,a⟩)
theorem integer_trim_ok {n:LI} {d:Hdr} {out:LI} (j:integer_trim n=some out) (k:imm (rI .u32) d.v n∈ros) (b:St w0 ros rs w):
  Calls Tryd.prog 30 #[d.v] w (fun e w=>∃ (p:Hdr),e=.returned (p.v)∧St w0 (imm (rI .u32) p.v out::ros) rs w):=by
 refine enterQ Tryd.func30 rfl Tryd.ntmps30 rfl fun Q y=>sR fun _ k1=>Ya hnil.v rfl (wK k1 (sR fun _ z=>Ym d.v e0 (yY (yLen SL_32 e0 b (rdI k)) (Ya (iV (n.length:Int)) e0 (wK z (sQ fun _ A=>?_))))))
 refine blockQ fun B C=>bE j fun D E j=>?_
 have F:∀ (l:Int) (f:FV) w,f 0=d.v→f 3=iV l→St w0 ros rs w→l=D→B (.exit 0) (fr 21 f) w:=by
  intro l f w G H b ho
  subst ho
  refine C _ _ _ (A _ _ (sR fun _ I=>Ym d.v (eh G) (Ym (iV l) (eh H) (bE j fun X q j=>yY (ySl (k1:=.i64) SL_32 e0 b (rdI k) (.inr ⟨rfl,rfl⟩) (.inl (congrArg some e0)) q) ?_))))
  replace b:=b.sub k q
  refine Ya ((subH d 1 0 l).v) e0 (wK I (wp_ret ?_))
  cases j
  exact y _ _ _ (fin1r Tryd.results30 ⟨rfl,rfl⟩ ⟨_,rfl,b⟩)
 refine loopQ (fun s a w=>∃ (g:Int) (f:FV),g=s∧a=fr 21 f∧f 0=d.v∧f 3=iV g∧St w0 ros rs w) E ⟨_,_,rfl,rfl,rfl,rfl,b⟩ ?_
 rintro _ _ w Z ⟨g,f,rfl,rfl,o,m,b⟩ h J a0 K L
 refine seqQ fun a1 N O=>sR fun _ R=>Ym (iV g) (eh m) (yY (ygtr e0 rfl) (Ym (.bool (decide ((0:Int) < g))) e0 (bE h fun S i h=>?_)))
 refine joinW 7 (fun f w=>f 0=d.v∧f 3=iV g∧f 15=.bool S∧St w0 ros rs w) (fun r=>?_) ?_
 ·rcases iteS i with ⟨c,i⟩ | ⟨c,i⟩
  ·refine yG (dT c) (m_ d.v (eh o)) (yG (dT c) (m_ (iV g) (eh m)) (yG (dT c) (ysub e0 rfl) (bE i fun T t i=>yG (dT c) (yIa SL_32 e0 e0 b (rdI k) t) (yG (dT c) (yI O_58 e0 b (rdI k) t) (yG (dT c) (yeql e0 rfl) (yY (pt_ (.bool (decide (T=0))) e0 (dT c) e0) ?_))))))
   cases i
   exact r _ _ ⟨o,m,rfl,b⟩
  ·refine gN (dF c) (gN (dF c) (gN (dF c) (gN (dF c) (gN (dF c) (gN (dF c) (yY (pf_ (.bool false) e0 (dF c) rfl) ?_))))))
   cases i
   exact r _ _ ⟨o,m,rfl,b⟩
 rintro f w ⟨u,x,U,b⟩
 refine wK R (cB (eh U) h (fun V h=>?_) fun V h=>?_)
 ·refine wp_skip (N _ _ (blockQ fun _ W=>wR (Ym (iV g) (eh x) (yY (ysub e0 rfl) (Ya (iV (ws .i64 g 1)) e0 (wN (W _ _ _ ?_)))))))
  cases h
  exact K _ _ _ rfl ⟨_,_,rfl,rfl,u,rfl,b⟩
 ·refine wp_exit (O _ _ _ rfl ?_)
  cases h
  exact L _ _ _ _ rfl rfl (F _ _ _ u x b (J _ rfl))
theorem integer_big_ok {b:Bool} {g:LI} {f:Hdr} {out:Bool×LI} (c:integer_big b g=some out) (j:imm (rI .u32) f.v g∈ros) (a:St w0 ros rs w):
  Calls Tryd.prog 28 #[.bool b,f.v] w (fun e w=>∃ (h:Hdr),e=.returned (.agg #[.bool out.1,h.v])∧St w0 (imm (rI .u32) h.v out.2::ros) rs w):=by
 refine enterQ Tryd.func28 rfl Tryd.ntmps28 rfl fun Q i=>sR fun _ k=>yBb (rAl a ZT_34) fun t w a=>wK k (sR fun _ l=>Ym f.v e0 (bE c fun u m c=>yC (yCall FN_30 (a1 e0)) (integer_trim_ok m j a) ?_))
 rintro _ w ⟨d,rfl,a⟩
 refine ⟨_,rfl,?_⟩
 refine Ya d.v e0 (wK l (seqQ fun x n o=>sR fun _ p=>Ym d.v e0 (yY (yLen SL_32 e0 a (rdI F0)) (yY (yeql e0 rfl) (wK p ?_)))))
 refine cIf e0 c (fun q c=>?_) fun q c=>?_
 ·refine sR fun _ r=>yY (ybuild (us:=[.bool false,hnil.v]) [] SO_34 bp0 rfl) (yT (r_stbn (vals':=[.bool false,hnil.v]) (us:=[.bool false,hnil.v]) a ST_34 e0 e0 rfl rfl (one_of rfl) rfl) fun w a=>wK r (wp_ret (o _ _ _ rfl ?_)))
  cases c
  replace a:=a.immNh (rI .u32)
  exact i _ _ _ (fin1r Tryd.results28 (rcs2 rfl rfl a R0 ST_34 rfl) ⟨_,rfl,((a.k13).facts (allC F0 (allT (allT allI))))⟩)
 ·refine wp_skip (n _ _ (sR fun _ s=>Ym (.bool b) e0 (Ym d.v e0 (yY (ybuild (us:=[.bool b,d.v]) [(0,.bool b),(1,d.v)] SO_34 (bp2 e0 e0) rfl) (yT (r_stbn (vals':=[.bool b,d.v]) (us:=[.bool b,d.v]) a ST_34 e0 e0 rfl rfl (one_of rfl) rfl) fun w a=>wK s (wp_ret ?_))))))
  cases c
  exact i _ _ _ (fin1r Tryd.results28 (rcs2 rfl rfl a R0 ST_34 rfl) ⟨_,rfl,(a.k13)⟩)
theorem integer_Norm_ok {b:Bool} {f:LI} {d:Hdr} {out:Bool×LI} (c:integer_Norm b f=some out) (j:imm (rI .u32) d.v f∈ros) (a:St w0 ros rs w):
  Calls Tryd.prog 51 #[.agg #[.bool b,d.v]] w (fun e w=>∃ (g:Hdr),e=.returned (.agg #[.bool out.1,g.v])∧St w0 (imm (rI .u32) g.v out.2::ros) rs w):=by
 refine enterQ Tryd.func51 rfl Tryd.ntmps51 rfl fun Q k=>sR fun _ l=>yBb (r_box (vals:=[.bool b,d.v]) a e0 rfl) fun p w a=>yBb (rAl a ZT_34) fun q w a=>wK l (sQ fun _ m=>bE c fun r n c=>bE c fun h o c=>dR [0,1,0,4,12,31,63] [4,5,6] 3 folM ?_)
 replace a:=a.drew
 refine Dn [0,1,2,3] [] [4] (yR rfl (yFb FL_34_0 e0) (yR rfl (lb_ (.bool b) O_4 e0 a R1) (yR rfl (yFb FL_34_1 e0) (yR rfl (lb_ d.v O_32 e0 a R1) (Rn QSn ?_)))))
 refine Lc1 rfl ?_
 refine Lk wn (yCall FN_29 (a1 e0)) (slices_Clone_uint32_ok n j a) ?_
 rintro _ w ⟨s,rfl,a⟩
 refine ⟨_,rfl,?_⟩
 refine Dn [] [0,1] [5] (Rn (yS rfl (yFb FL_34_0 e0) (yS rfl (lb_ (.bool b) O_4 e0 a R2) QSn)) ?_)
 refine Lc1 rfl ?_
 replace a:=a.fz
 refine Lk wn (yCall FN_28 (a2 e0 e0)) (integer_big_ok o F0 a) ?_
 rintro _ w ⟨i,rfl,a⟩
 refine ⟨_,rfl,?_⟩
 refine Dn [] [] [6] (Rn QSn ?_)
 refine Lc1 rfl ?_
 refine LT wn (r_stbn (vals':=[.bool h.1,i.v]) (us:=[.bool h.1,i.v]) a ST_34 e0 e0 rfl rfl (one_of rfl) rfl) fun w a=>Dz [] [] (Rn QSn (m _ _ (wp_ret ?_)))
 cases c
 exact k _ _ _ (fin1r Tryd.results51 (rcs2 rfl rfl a R0 ST_34 rfl) ⟨_,rfl,((a.k14).facts (allC F0 (allT (allT allI))))⟩)
end Go.Proofs.YtpfmbaidflhamaaDoor
