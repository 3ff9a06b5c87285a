/- Walks: each function computes its model, printed. -/
import Derived.Test.YtpfmbaidflhamaaGreatDoorW5
namespace Go.Proofs.YtpfmbaidflhamaaGreatDoor
open Go Sx M
set_option maxRecDepth 100000
set_option maxHeartbeats 40000000
set_option linter.unusedVariables false
attribute [local irreducible] wpList Code.wp Calls DR QR QS LA LS St
variable {w0:World} {ros:List Fact} {rs:List Res} {w:World}
theorem sparseref08_fracs_ok {H:List (List (Bool×LI))} {h:Hdr} {out:(List (List (Bool×LI×Bool×LI)))} (C:sparseref08_fracs H=some out) (q:imm (rS (rP rB (rS (rI .u32)))) h.v H∈ros) (b:St w0 ros rs w):
  Calls Tryz.prog 56 #[h.v] w (fun e w=>∃ (I:Hdr) (J:List Hdr),e=.returned (I.v)∧St w0 ros (row 81 rH I.v J::fam 80 (rP rB (rP (rS (rI .u32)) (rP rB (rS (rI .u32))))) J out::rs) w):=by
 refine enterQ Tryz.func56 rfl Tryz.ntmps56 rfl fun Q W=>sR fun _ X=>Ya hnil.v rfl (wK X (sR fun _ Z=>Ya hnil.v rfl (wK Z (sQ fun _ a0=>sR fun _ a2=>?_))))
 refine Ya (iV 0) rfl (wK a2 (blockQ fun a3 a4=>bE C fun a5 a6 C=>?_))
 have a7:∀ (D:List (List (Bool×LI×Bool×LI))) (r:Hdr) (E:List Hdr) (f:FV) w,f 3=r.v→St w0 ros (row 81 rH r.v E::fam 80 (rP rB (rP (rS (rI .u32)) (rP rB (rS (rI .u32))))) E D::rs) w→D=a5→a3 (.exit 0) (fr 40 f) w:=by
  intro D r E f w a8 b ho
  subst ho
  refine a4 _ _ _ (a0 _ _ (sR fun _ a9=>Ym r.v (eh a8) (Ya r.v e0 (wK a9 (wp_ret ?_)))))
  cases C
  exact W _ _ _ (fin1r Tryz.results56 ⟨rfl,rfl⟩ ⟨_,_,rfl,b⟩)
 replace b:=((b.rowNh 81 rH).fNew 80 (rP rB (rP (rS (rI .u32)) (rP rB (rS (rI .u32)))))).k11
 refine loopQ (fun s a w=>∃ (t:List (List (Bool×LI×Bool×LI))) (d:Int) (f:FV) (i:Hdr) (j:List Hdr),(t,d)=s∧a=fr 40 f∧f 0=h.v∧f 3=i.v∧f 4=iV d∧St w0 ros (row 81 rH i.v j::fam 80 (rP rB (rP (rS (rI .u32)) (rP rB (rS (rI .u32))))) j t::rs) w) a6 ⟨_,_,_,_,_,rfl,rfl,rfl,rfl,rfl,b⟩ ?_
 rintro _ _ w e9 ⟨t,d,f,i,j,rfl,rfl,K,L,N,b⟩ g b0 f0 b1 b2
 refine seqQ fun f1 b3 b4=>sR fun _ b5=>Ym (iV d) (eh N) (Ym h.v (eh K) (yY (yLen SL_22 e0 b (rdI q)) (yY (ylss e0 e0) (wK b5 ?_))))
 refine cIf e0 g (fun b6 g=>?_) fun b6 g=>?_
 ·refine wp_skip (b3 _ _ (sQ fun _ b7=>blockQ fun _ b8=>sR fun _ b9=>Ya hnil.v rfl (wK b9 (sQ fun _ c0=>sR fun _ c1=>Ya (iV 0) rfl (wN ?_)))))
  refine c1 _ _ (blockQ fun c2 c3=>bE g fun c4 c5 g=>?_)
  have c6:∀ (u:List (Bool×LI×Bool×LI)) (k:Hdr) (f:FV) w,f 0=h.v→f 3=i.v→f 4=iV d→f 5=k.v→St w0 ros (row 81 rH i.v j::fam 80 (rP rB (rP (rS (rI .u32)) (rP rB (rS (rI .u32))))) j t::row 80 (rP rB (rP (rS (rI .u32)) (rP rB (rS (rI .u32))))) k.v u::rs) w→u=c4→c2 (.exit 2) (fr 40 f) w:=by
   intro u k f w c7 c8 c9 d0 b ho
   subst ho
   refine c3 _ _ _ (c0 _ _ (wR (Ym i.v (eh c8) (Ym k.v (eh d0) (yH (rLt (n:=1) (l:=[k]) b SLH_75 [k.v] (bp1 e0) rfl rfl (mks1 rfl (mkF rfl) mks0)) fun f2 w b=>bE g fun f3 O g=>?_)))))
   replace b:=b.k11
   obtain ⟨f4,ey191,d1⟩:=app_rep O (b.famL R2) (show [k].length=[u].length from rfl)
   refine yH (rAp b SLH_75 e0 e0 rO1 d1) fun d2 w b=>?_
   replace b:=(b.k15).fPush
   rw [← ey191,← (app_some O).1] at b
   refine Ya d2.v e0 (wN (b8 _ _ _ (b7 _ _ (wR (Ym (iV d) (eh c9) (yY (yadd e0 rfl) (Ya (iV (wa .i64 d 1)) e0 (wN ?_))))))))
   cases g
   exact b1 _ _ _ rfl ⟨_,_,_,_,_,rfl,rfl,c7,rfl,rfl,(b.k16)⟩
  replace b:=b.rowNh 80 (rP rB (rP (rS (rI .u32)) (rP rB (rS (rI .u32)))))
  refine loopQ (fun s a w=>∃ (F:List (Bool×LI×Bool×LI)) (m:Int) (f:FV) (x:Hdr),(F,m)=s∧a=fr 40 f∧f 0=h.v∧f 3=i.v∧f 4=iV d∧f 5=x.v∧f 6=iV m∧St w0 ros (row 81 rH i.v j::fam 80 (rP rB (rP (rS (rI .u32)) (rP rB (rS (rI .u32))))) j t::row 80 (rP rB (rP (rS (rI .u32)) (rP rB (rS (rI .u32))))) x.v F::rs) w) c5 ⟨_,_,_,_,rfl,rfl,K,L,N,rfl,rfl,(b.k19)⟩ ?_
  rintro _ _ w f5 ⟨F,m,f,x,rfl,rfl,y,R,z,S,G,b⟩ c d3 f6 d4 d5
  refine seqQ fun f7 d6 d7=>sR fun _ d8=>Ym (iV m) (eh G) (Ym h.v (eh y) (Ym (iV d) (eh z) (bE c fun f8 T c=>yY (yIa SL_22 e0 e0 b (rdI q) T) ?_)))
  obtain ⟨f9,b⟩:=iLs b q T
  refine yY (yCt O_32 e0 b F1 rfl) (yY (yLen SL_32 e0 b (rdI F0)) (yY (ylss e0 e0) (wK d8 ?_)))
  refine cIf e0 c (fun d9 c=>?_) fun d9 c=>?_
  ·refine wp_skip (d6 _ _ (sQ fun _ e1=>blockQ fun _ e2=>wR (Ym x.v (eh S) (Ym h.v (eh y) (Ym (iV d) (eh z) (bE c fun g0 U c=>yY (yIa SL_22 e0 e0 b (rdI (F_2 q)) U) ?_))))))
   obtain ⟨g1,b⟩:=iLs b (F_2 q) U
   refine yY (yCt O_32 e0 b F1 rfl) (Ym (iV m) (eh G) (bE c fun e3 V c=>yY (yIa SL_32 e0 e0 b (rdI F0) V) ?_))
   obtain ⟨g2,g3,b⟩:=iLd b F0 V
   obtain ⟨g4,g5,rfl,b⟩:=b.eltP
   obtain ⟨rfl,b⟩:=b.eltB
   obtain ⟨e4,rfl,b⟩:=b.eltS
   refine yY (yCtn (cs:=[.bool e3.1,e4.v]) ST_31 rfl e0 b F1) (bE c fun o e5 c=>yC (yCall FN_78 (a1 e0)) (sparseref01_Norm_ok e5 F0 b) ?_)
   rintro _ w ⟨A,rfl,b⟩
   refine ⟨_,rfl,?_⟩
   refine bE c fun p e6 c=>yC (yCall FN_84 (a1 rfl)) (sparseref01_FromInt_ok e6 b) ?_
   rintro _ w ⟨B,rfl,b⟩
   refine ⟨_,rfl,?_⟩
   refine yY (ybuild (us:=[.bool o.1,A.v,.bool p.1,B.v]) [(0,.agg #[.bool o.1,A.v]),(1,.agg #[.bool p.1,B.v])] SO_80 (bp2 e0 e0) rfl) (yH (rLt (n:=1) (l:=[(o.1,o.2,p.1,p.2)]) (((b.k11).fz).fz) SL_81 [.agg #[.bool o.1,A.v,.bool p.1,B.v]] (bp1 e0) rfl rfl (mks1 (cs:=[.bool o.1,A.v,.bool p.1,B.v]) rfl (mkP mkB (mkP (mkS F1) (mkP mkB (mkS F0)))) mks0)) fun g6 w b=>bE c fun g7 e7 c=>yH (rAp (b.k17) SL_81 e0 e0 rO1 e7) fun e8 w b=>Ya e8.v e0 (wN (e2 _ _ _ (e1 _ _ (wR (Ym (iV m) (eh G) (yY (yadd e0 rfl) (Ya (iV (wa .i64 m 1)) e0 ?_))))))))
   refine wN ?_
   cases c
   exact d4 _ _ _ rfl ⟨_,_,_,_,rfl,rfl,y,R,z,rfl,rfl,((b.k18).facts (allT (allT (allT (allT (allT (allT (allT (allT allI)))))))))⟩
  ·refine wp_exit (d7 _ _ _ rfl ?_)
   cases c
   exact d5 _ _ _ _ rfl rfl (c6 _ _ _ _ y R z S (b.facts (allT (allT allI))) (d3 _ rfl))
 ·refine wp_exit (b4 _ _ _ rfl ?_)
  cases g
  exact b2 _ _ _ _ rfl rfl (a7 _ _ _ _ _ L b (b0 _ rfl))
theorem sparseref01_Sign_ok {d:Bool} {j:LI} {f:Hdr} {out:Int} (b:sparseref01_Sign d j=some out) (l:imm (rI .u32) f.v j∈ros) (a:St w0 ros rs w):
  Calls Tryz.prog 34 #[.agg #[.bool d,f.v]] w (fun e w=>e=.returned (iV out)∧St w0 ros rs w):=by
 refine enterQ Tryz.func34 rfl Tryz.ntmps34 rfl fun Q g=>sR fun _ m=>yBb (r_box (vals:=[.bool d,f.v]) a e0 rfl) fun z w a=>Ya (iV 0) rfl (wK m (sR fun _ n=>yY (lbs_ [.bool d,f.v] ST_31 e0 a R0) (bE b fun c o b=>yC (yCall FN_78 (a1 e0)) (sparseref01_Norm_ok o l a) ?_)))
 rintro _ w ⟨h,rfl,a⟩
 refine ⟨_,rfl,?_⟩
 refine yT (r_stbn (vals':=[.bool c.1,h.v]) (us:=[.bool c.1,h.v]) (a.k11) ST_31 e0 e0 rfl rfl (one_of rfl) rfl) fun w a=>wK n (seqQ fun A p k=>blockQ fun _ i=>sR fun _ q=>yY (yFb FL_31_1 e0) (yY (lb_ h.v O_29 e0 a R0) (yY (yLen SL_29 e0 a rO1) (yY (yeql e0 rfl) (Ya (.bool (decide ((c.2.length:Int)=0))) e0 (wN ?_))))))
 refine q _ _ ?_
 refine cIf e0 b (fun r b=>?_) fun r b=>?_
 ·refine sR fun _ s=>Ya (iV 0) rfl (wK s (wp_ret (i _ _ _ (k _ _ _ rfl ?_))))
  cases b
  exact g _ _ _ (fin1r Tryz.results34 ⟨rfl,rfl⟩ ⟨rfl,(a.k14)⟩)
 ·refine sR fun _ t=>yY (yFb FL_31_0 e0) (yY (lb_ (.bool c.1) O_4 e0 a R0) (Ya (.bool c.1) e0 (wK t (cB e0 b (fun u b=>?_) fun u b=>?_))))
  ·refine sR fun _ x=>Ya (iV (-1)) rfl (wK x (wp_ret (i _ _ _ (k _ _ _ rfl ?_))))
   cases b
   exact g _ _ _ (fin1r Tryz.results34 ⟨rfl,rfl⟩ ⟨rfl,(a.k14)⟩)
  ·refine wp_skip (i _ _ _ (p _ _ (sR fun _ y=>Ya (iV 1) rfl (wK y (wp_ret ?_)))))
   cases b
   exact g _ _ _ (fin1r Tryz.results34 ⟨rfl,rfl⟩ ⟨rfl,(a.k14)⟩)
theorem sparseref08_zero_ok {b:Bool} {h:LI} {d:Bool} {i:LI} {c f:Hdr} {out:Bool} (g:sparseref08_zero b h d i=some out) (j:imm (rI .u32) c.v h∈ros) (p:imm (rI .u32) f.v i∈ros) (a:St w0 ros rs w):
  Calls Tryz.prog 106 #[.agg #[.bool b,c.v,.bool d,f.v]] w (fun e w=>e=.returned (.bool out)∧St w0 ros rs w):=by
 refine enterQ Tryz.func106 rfl Tryz.ntmps106 rfl fun Q k=>sR fun _ l=>yBb (r_box (vals:=[.bool b,c.v,.bool d,f.v]) a e0 rfl) fun q w a=>Ya (.bool false) rfl (wK l (sR fun _ m=>yY (yFb FL_80_0 e0) (yY (lbs_ [.bool b,c.v] ST_31 e0 a R0) (bE g fun n o g=>yC (yCall FN_34 (a1 e0)) (sparseref01_Sign_ok o j a) ?_))))
 rintro _ w ⟨rfl,a⟩
 refine ⟨_,rfl,?_⟩
 refine yY (yeql e0 rfl) (Ya (.bool (decide (n=0))) e0 (wK m (wp_ret ?_)))
 cases g
 exact k _ _ _ (fin1r Tryz.results106 ⟨rfl,rfl⟩ ⟨rfl,(a.k10)⟩)
theorem sparseref01_Neg_ok {b:Bool} {f:LI} {c:Hdr} {out:Bool×LI} (d:sparseref01_Neg b f=some out) (j:imm (rI .u32) c.v f∈ros) (a:St w0 ros rs w):
  Calls Tryz.prog 71 #[.agg #[.bool b,c.v]] w (fun e w=>∃ (g:Hdr),e=.returned (.agg #[.bool out.1,g.v])∧St w0 ros (row 103 (rI .u32) g.v out.2::rs) w):=by
 refine enterQ Tryz.func71 rfl Tryz.ntmps71 rfl fun Q k=>sR fun _ l=>yBb (r_box (vals:=[.bool b,c.v]) a e0 rfl) fun o w a=>yBb (rAl a ZT_31) fun p w a=>wK l (sR fun _ m=>yY (yFb FL_31_0 e0) (yY (lb_ (.bool b) O_4 e0 a R1) (yY (ynot e0) ?_)))
 refine yY (yFb FL_31_1 e0) (yY (lb_ c.v O_29 e0 a R1) (bE d fun h n d=>yC (yCall FN_110 (a2 e0 e0)) (sparseref01_make1_ok n j a) ?_))
 rintro _ w ⟨i,rfl,a⟩
 refine ⟨_,rfl,?_⟩
 refine yT (r_stbn (vals':=[.bool h.1,i.v]) (us:=[.bool h.1,i.v]) (a.k11) ST_31 e0 e0 rfl rfl (one_of rfl) rfl) fun w a=>wK m (wp_ret ?_)
 cases d
 exact k _ _ _ (fin1r Tryz.results71 (rcs2 rfl rfl a R0 ST_31 rfl) ⟨_,rfl,(a.k1u)⟩)
theorem sparseref01_Abs_ok {c:Bool} {f:LI} {b:Hdr} {out:Bool×LI} (d:sparseref01_Abs c f=some out) (j:imm (rI .u32) b.v f∈ros) (a:St w0 ros rs w):
  Calls Tryz.prog 72 #[.agg #[.bool c,b.v]] w (fun e w=>∃ (g:Hdr),e=.returned (.agg #[.bool out.1,g.v])∧St w0 ros (row 103 (rI .u32) g.v out.2::rs) w):=by
 refine enterQ Tryz.func72 rfl Tryz.ntmps72 rfl fun Q k=>sR fun _ l=>yBb (r_box (vals:=[.bool c,b.v]) a e0 rfl) fun o w a=>yBb (rAl a ZT_31) fun p w a=>wK l (sR fun _ m=>yY (yFb FL_31_1 e0) (yY (lb_ b.v O_29 e0 a R1) (bE d fun h n d=>?_)))
 refine yC (yCall FN_110 (a2 rfl e0)) (sparseref01_make1_ok n j a) ?_
 rintro _ w ⟨i,rfl,a⟩
 refine ⟨_,rfl,?_⟩
 refine yT (r_stbn (vals':=[.bool h.1,i.v]) (us:=[.bool h.1,i.v]) (a.k11) ST_31 e0 e0 rfl rfl (one_of rfl) rfl) fun w a=>wK m (wp_ret ?_)
 cases d
 exact k _ _ _ (fin1r Tryz.results72 (rcs2 rfl rfl a R0 ST_31 rfl) ⟨_,rfl,(a.k1u)⟩)
theorem sparseref01_shl_ok {y:LI} {k:Int} {m:Hdr} {out:LI} (g:sparseref01_shl y k=some out) (q:imm (rI .u32) m.v y∈ros) (b:St w0 ros rs w):
  Calls Tryz.prog 158 #[m.v,iV k] w (fun e w=>∃ (z:Hdr),e=.returned (z.v)∧St w0 ros (row 103 (rI .u32) z.v out::rs) w):=by
 refine enterQ Tryz.func158 rfl Tryz.ntmps158 rfl fun Q E=>sR fun _ F=>Ya hnil.v rfl (wK F (sR fun _ G=>Ym (iV k) e0 (yY (yquoc e0 rfl (by decide)) (bE g fun b4 H g=>yH (rMk b SL_29 e0 H) fun I w b=>Ya I.v e0 ?_))))
 refine wK G (sR fun _ J=>Ya (.int .u64 0) rfl (wK J (sQ fun _ K=>sR fun _ L=>Ya (iV 0) rfl (wK L (blockQ fun N O=>?_)))))
 refine bE g fun R S g=>?_
 have T:∀ (r:LI) (h:Int) (o:Hdr) (f:FV) w,f 5=o.v→f 6=.int .u64 h→St w0 ros (row 103 (rI .u32) o.v r::rs) w→(r,h)=R→N (.exit 0) (fr 39 f) w:=by
  intro r h o f w U V b ho
  subst ho
  refine O _ _ _ (K _ _ (sR fun _ W=>Ym o.v (eh U) (Ym (.int .u64 h) (eh V) (yY (ycv (k':=.u32) (by kernel_rfl) (by kernel_rfl) e0) (yH (rLt (n:=1) (l:=[wc .u32 h]) b SL_29 [.int .u32 (wc .u32 h)] (bp1 e0) rfl rfl (mks1 (cs:=[.int .u32 (wc .u32 h)]) rfl mkI mks0)) fun b5 w b=>bE g fun b6 X g=>yH (rAp (b.k11) SL_29 e0 e0 rO1 X) fun Z w b=>Ya Z.v e0 (wN ?_))))))
  refine W _ _ (wp_ret ?_)
  cases g
  exact E _ _ _ (fin1r Tryz.results158 ⟨rfl,rfl⟩ ⟨_,rfl,(b.k12)⟩)
 refine loopQ (fun s a w=>∃ (t:LI) (c i:Int) (f:FV) (p:Hdr),(t,c,i)=s∧a=fr 39 f∧f 0=m.v∧f 1=iV k∧f 5=p.v∧f 6=.int .u64 c∧f 7=iV i∧St w0 ros (row 103 (rI .u32) p.v t::rs) w) S ⟨_,_,_,_,_,rfl,rfl,rfl,rfl,rfl,rfl,rfl,b⟩ ?_
 rintro _ _ w b7 ⟨t,c,i,f,p,rfl,rfl,u,A,B,C,x,b⟩ d a0 b8 a1 a2
 refine seqQ fun b9 a3 a4=>sR fun _ a5=>Ym (iV i) (eh x) (Ym m.v (eh u) (yY (yLen SL_29 e0 b (rdI q)) (yY (ylss e0 e0) (wK a5 ?_))))
 refine cIf e0 d (fun a6 d=>?_) fun a6 d=>?_
 ·refine wp_skip (a3 _ _ (sQ fun _ a7=>blockQ fun _ a8=>sR fun _ a9=>Ym (.int .u64 c) (eh C) (Ym m.v (eh u) (Ym (iV i) (eh x) (bE d fun c0 D d=>yY (yIa SL_29 e0 e0 b (rdI q) D) (yY (yI O_103 e0 b (rdI q) D) (yY (ycv (k':=.u64) (by kernel_rfl) (by kernel_rfl) e0) (Ym (iV k) (eh A) ?_))))))))
  refine yY (yremc e0 rfl (by decide)) (bE d fun j b0 d=>yY (yshl e0 e0 b0) (yY (yor e0 e0) (Ya (.int .u64 (wor .u64 c j)) e0 (wK a9 (sR fun _ b1=>Ym p.v (eh B) (Ym (.int .u64 (wor .u64 c j)) e0 (yY (ycv (k':=.u32) (by kernel_rfl) (by kernel_rfl) e0) (yH (rLt (n:=1) (l:=[wc .u32 (wor .u64 c j)]) b SL_29 [.int .u32 (wc .u32 (wor .u64 c j))] (bp1 e0) rfl rfl (mks1 (cs:=[.int .u32 (wc .u32 (wor .u64 c j))]) rfl mkI mks0)) fun c1 w b=>?_))))))))
  refine bE d fun c2 b2 d=>yH (rAp (b.k11) SL_29 e0 e0 rO1 b2) fun b3 w b=>Ya b3.v e0 (wK b1 (wR (Ym (.int .u64 (wor .u64 c j)) e0 (yY (yshrc e0 rfl) (Ya (.int .u64 (wsrc .u64 (wor .u64 c j) 32)) e0 (wN (a8 _ _ _ (a7 _ _ (wR ?_)))))))))
  refine Ym (iV i) (eh x) (yY (yadd e0 rfl) (Ya (iV (wa .i64 i 1)) e0 (wN ?_)))
  cases d
  exact a1 _ _ _ rfl ⟨_,_,_,_,_,rfl,rfl,u,A,rfl,rfl,rfl,(b.k12)⟩
 ·refine wp_exit (a4 _ _ _ rfl ?_)
  cases d
  exact a2 _ _ _ _ rfl rfl (T _ _ _ _ _ B C b (a0 _ rfl))
theorem sparseref01_take_ok {p h:LI} {m q:Int} {d r:Hdr} {out:LI×Bool} (c:sparseref01_take p h m q=some out) (D:imm (rI .u32) r.v h∈ros) (b:St w0 ros (row 103 (rI .u32) d.v p::rs) w):
  Calls Tryz.prog 159 #[d.v,r.v,iV m,.int .u64 q] w (fun e w=>e=.returned (.bool out.2)∧St w0 ros (row 103 (rI .u32) d.v out.1::rs) w):=by
 refine enterQ Tryz.func159 rfl Tryz.ntmps159 rfl fun Q R=>sR fun _ a8=>Ya (.bool false) rfl (wK a8 (sR fun _ a9=>Ym r.v e0 (yY (yLen SL_29 e0 b (rdI D)) (Ya (iV (h.length:Int)) e0 (wK a9 (sQ fun _ b0=>?_))))))
 refine wR (Ym (iV (h.length:Int)) e0 (yY (yadd e0 rfl) (bE c fun h0 b1 c=>yH (rMk b SL_29 e0 b1) fun i w b=>Ya i.v e0 (wK b0 (sR fun _ b2=>Ya (.int .u64 0) rfl (Ya (.int .u64 0) rfl (wN ?_)))))))
 refine b2 _ _ (sQ fun _ b3=>sR fun _ b4=>Ya (iV 0) rfl (wK b4 (blockQ fun b5 b6=>bE c fun b7 b8 c=>?_)))
 have b9:∀ (A:LI) (B:Int) (f:FV) w,f 0=d.v→f 2=iV m→f 9=iV (h.length:Int)→f 10=i.v→f 11=.int .u64 B→St w0 ros (row 103 (rI .u32) d.v p::row 103 (rI .u32) i.v A::rs) w→(A,B)=b7→b5 (.exit 0) (fr 75 f) w:=by
  intro A B f w c0 c1 c2 c3 c4 b ho
  subst ho
  refine b6 _ _ _ (b3 _ _ (seqQ fun h1 c5 c6=>sR fun _ c7=>Ym (.int .u64 B) (eh c4) (yY (yneq e0 rfl) (wK c7 ?_))))
  rcases iteS c with ⟨E,c⟩ | ⟨E,c⟩
  ·refine condF e0 (nF (dT E)) (wp_skip (c5 _ _ (sQ fun _ c8=>sR fun _ c9=>Ya (iV 0) rfl (wK c9 (blockQ fun d0 d1=>bE c fun d2 d3 c=>?_)))))
   have d4:∀ (F:LI) (f:FV) w,St w0 ros (row 103 (rI .u32) d.v F::rs) w→F=d2→d0 (.exit 2) (fr 75 f) w:=by
    intro F f w b ho
    subst ho
    refine d1 _ _ _ (c8 _ _ (sR fun _ d5=>Ya (.bool true) rfl (wK d5 (wp_ret ?_))))
    cases c
    exact R _ _ _ (fin1r Tryz.results159 ⟨rfl,rfl⟩ ⟨rfl,b⟩)
   refine loopQ (fun s a w=>∃ (G:LI) (o:Int) (f:FV),(G,o)=s∧a=fr 75 f∧f 0=d.v∧f 2=iV m∧f 9=iV (h.length:Int)∧f 10=i.v∧f 15=iV o∧St w0 ros (row 103 (rI .u32) d.v G::row 103 (rI .u32) i.v A::rs) w) d3 ⟨_,_,_,rfl,rfl,c0,c1,c2,c3,rfl,b⟩ ?_
   rintro _ _ w h3 ⟨G,o,f,rfl,rfl,S,T,U,V,C,b⟩ n d6 h5 d7 d8
   refine seqQ fun h6 d9 e1=>sR fun _ e2=>Ym (iV o) (eh C) (Ym (iV (h.length:Int)) (eh U) (yY (yleq e0 e0) (wK e2 ?_)))
   refine cIf e0 n (fun e3 n=>?_) fun e3 n=>?_
   ·refine wp_skip (d9 _ _ (sQ fun _ e4=>blockQ fun _ e5=>wR (Ym d.v (eh S) (Ym (iV o) (eh C) (Ym (iV m) (eh T) (yY (yadd e0 e0) (Ym i.v (eh V) (Ym (iV o) (eh C) (bE n fun e6 W n=>yY (yIa SL_29 e0 e0 b rO1 W) (yY (yI O_103 e0 b rO1 W) ?_))))))))))
    refine bE n fun h8 X n=>yY (yIs SL_29 e0 e0 b rO0 X) (yT (r_sti (cs:=[.int .u32 e6]) b O_103 rfl e0 e0 rfl mkI X) fun w b=>wN (e5 _ _ _ (e4 _ _ (wR (Ym (iV o) (eh C) (yY (yadd e0 rfl) (Ya (iV (wa .i64 o 1)) e0 (wN ?_))))))))
    cases n
    exact d7 _ _ _ rfl ⟨_,_,_,rfl,rfl,S,T,U,V,rfl,b⟩
   ·refine wp_exit (e1 _ _ _ rfl ?_)
    cases n
    exact d8 _ _ _ _ rfl rfl (d4 _ _ _ (b.k12) (d6 _ rfl))
  ·refine condT e0 (nT (dF E)) (sR fun _ e7=>Ya (.bool false) rfl (wK e7 (wp_ret (c6 _ _ _ rfl ?_))))
   cases c
   exact R _ _ _ (fin1r Tryz.results159 ⟨rfl,rfl⟩ ⟨rfl,(b.k12)⟩)
 refine loopQ (fun s a w=>∃ (t:LI) (j u g:Int) (f:FV),(t,j,u,g)=s∧a=fr 75 f∧f 0=d.v∧f 1=r.v∧f 2=iV m∧f 3=.int .u64 q∧f 9=iV (h.length:Int)∧f 10=i.v∧f 11=.int .u64 j∧f 12=.int .u64 u∧f 13=iV g∧St w0 ros (row 103 (rI .u32) d.v p::row 103 (rI .u32) i.v t::rs) w) b8 ⟨_,_,_,_,_,rfl,rfl,rfl,rfl,rfl,rfl,rfl,rfl,rfl,rfl,rfl,(b.k11)⟩ ?_
 rintro _ _ w e8 ⟨t,j,u,g,f,rfl,rfl,H,I,J,K,x,L,N,Z,y,b⟩ k e9 h9 f0 f1
 refine seqQ fun i0 f2 f3=>sR fun _ f4=>Ym (iV g) (eh y) (Ym (iV (h.length:Int)) (eh x) (yY (yleq e0 e0) (wK f4 ?_)))
 refine cIf e0 k (fun f5 k=>?_) fun f5 k=>?_
 ·refine wp_skip (f2 _ _ (sQ fun _ f6=>blockQ fun _ f7=>sQ fun f8 f9=>sR fun _ g0=>Ym (iV g) (eh y) (Ym (iV (h.length:Int)) (eh x) (yY (ylss e0 e0) (wK g0 ?_)))))
  have a0:∀ (l:Int) (f:FV) w,f 0=d.v→f 1=r.v→f 2=iV m→f 3=.int .u64 q→f 9=iV (h.length:Int)→f 10=i.v→f 11=.int .u64 j→f 12=.int .u64 l→f 13=iV g→St w0 ros (row 103 (rI .u32) d.v p::row 103 (rI .u32) i.v t::rs) w→sparseref01_take_j5 p g m t j l=some e8→f8 .normal (fr 75 f) w:=by
   intro l f w a1 g1 a2 g2 g3 a3 g4 a4 O b c
   refine f9 _ _ (sR fun _ g5=>Ym d.v (eh a1) (Ym (iV g) (eh O) (Ym (iV m) (eh a2) (yY (yadd e0 e0) (bE c fun z a5 c=>yY (yIa SL_29 e0 e0 b rO0 a5) (yY (yI O_103 e0 b rO0 a5) (yY (ycv (k':=.u64) (by kernel_rfl) (by kernel_rfl) e0) (Ym (.int .u64 j) (eh g4) (yY (ysub e0 e0) (Ym (.int .u64 l) (eh a4) ?_))))))))))
   refine yY (yand e0 rfl) (yY (ysub e0 e0) (Ya (.int .u64 (ws .u64 (ws .u64 (wc .u64 z) j) (wand .u64 l 4294967295))) e0 (wK g5 (sR fun _ g6=>Ym (.int .u64 l) (eh a4) (yY (yshrc e0 rfl) (Ya (.int .u64 (wsrc .u64 l 32)) e0 (wK g6 (sR fun _ g7=>?_))))))))
   refine Ym i.v (eh a3) (Ym (iV g) (eh O) (Ym (.int .u64 (ws .u64 (ws .u64 (wc .u64 z) j) (wand .u64 l 4294967295))) e0 (yY (ycv (k':=.u32) (by kernel_rfl) (by kernel_rfl) e0) (bE c fun i1 a6 c=>yY (yIs SL_29 e0 e0 b rO1 a6) (yT (r_sti (cs:=[.int .u32 (wc .u32 (ws .u64 (ws .u64 (wc .u64 z) j) (wand .u64 l 4294967295)))]) (b.k11) O_103 rfl e0 e0 rfl mkI a6) fun w b=>wK g7 (wR (Ym (.int .u64 (ws .u64 (ws .u64 (wc .u64 z) j) (wand .u64 l 4294967295))) e0 (yY (yshrc e0 rfl) (Ya (.int .u64 (wsrc .u64 (ws .u64 (ws .u64 (wc .u64 z) j) (wand .u64 l 4294967295)) 63)) e0 ?_)))))))))
   refine wN (f7 _ _ _ (f6 _ _ (wR (Ym (iV g) (eh O) (yY (yadd e0 rfl) (Ya (iV (wa .i64 g 1)) e0 (wN ?_)))))))
   cases c
   exact f0 _ _ _ rfl ⟨_,_,_,_,_,rfl,rfl,a1,g1,a2,g2,g3,a3,rfl,rfl,rfl,(b.k11)⟩
  refine cIf e0 k (fun g8 k=>?_) fun g8 k=>?_
  ·exact wR (Ym (.int .u64 u) (eh Z) (Ym (.int .u64 q) (eh K) (Ym r.v (eh I) (Ym (iV g) (eh y) (bE k fun g9 a7 k=>yY (yIa SL_29 e0 e0 b (rdI D) a7) (yY (yI O_103 e0 b (rdI D) a7) (yY (ycv (k':=.u64) (by kernel_rfl) (by kernel_rfl) e0) (yY (ymul e0 e0) (yY (yadd e0 e0) (Ya (.int .u64 (wa .u64 u (wm .u64 q (wc .u64 g9)))) e0 (wN (a0 _ _ _ H I J K x L N rfl y b k))))))))))))
  ·exact wp_skip (a0 _ _ _ H I J K x L N Z y b k)
 ·refine wp_exit (f3 _ _ _ rfl ?_)
  cases k
  exact f1 _ _ _ _ rfl rfl (b9 _ _ _ _ H J x L N b (e9 _ rfl))
theorem sparseref01_shr_ok {D:LI} {c:Int} {i:Hdr} {out:LI×Bool} (g:sparseref01_shr D c=some out) (p:imm (rI .u32) i.v D∈ros) (b:St w0 ros rs w):
  Calls Tryz.prog 160 #[i.v,iV c] w (fun e w=>∃ (a3:Hdr),e=.returned (.tuple #[a3.v,.bool out.2])∧St w0 ros (row 103 (rI .u32) a3.v out.1::rs) w):=by
 refine enterQ Tryz.func160 rfl Tryz.ntmps160 rfl fun Q c9=>sR fun _ d0=>Ya hnil.v rfl (Ya (.bool false) rfl (wK d0 (sR fun _ d1=>Ya (.bool false) rfl (wK d1 (sQ fun _ d2=>sQ fun _ d3=>?_)))))
 refine wR (Ya (iV 0) rfl (wK d3 (blockQ fun d4 d5=>bE g fun d6 d7 g=>?_)))
 have d8:∀ (K:Bool) (f:FV) w,f 0=i.v→f 1=iV c→f 6=.bool K→St w0 ros rs w→K=d6→d4 (.exit 0) (fr 85 f) w:=by
  intro K f w d9 L e1 b ho
  subst ho
  refine d5 _ _ _ (d2 _ _ (sR fun _ e2=>Ya hnil.v rfl (wK e2 (sR fun _ e3=>Ym (iV c) (eh L) (yY (yremc e0 rfl (by decide)) (Ya (iV (wrc c 32)) e0 (wK e3 ?_)))))))
  refine sQ fun _ e4=>sR fun _ e5=>Ym (iV c) (eh L) (yY (yquoc e0 rfl (by decide)) (Ya (iV (wqc .i64 c 32)) e0 (wK e5 (blockQ fun e6 e7=>bE g fun e8 e9 g=>?_))))
  have f0:∀ (E:Bool) (N:LI) (F:Hdr) (f:FV) w,f 6=.bool E→f 8=F.v→St w0 ros (row 103 (rI .u32) F.v N::rs) w→(E,N)=e8→e6 (.exit 2) (fr 85 f) w:=by
   intro E N F f w f1 f2 b ho
   subst ho
   refine e7 _ _ _ (e4 _ _ (sR fun _ f3=>Ym F.v (eh f2) (Ym (.bool E) (eh f1) (Ya F.v e0 (Ya (.bool E) e0 (wK f3 (wp_ret ?_)))))))
   cases g
   exact c9 _ _ _ (fin2r Tryz.results160 ⟨rfl,rfl⟩ ⟨rfl,rfl⟩ ⟨_,rfl,b⟩)
  replace b:=b.rowNh 103 (rI .u32)
  refine loopQ (fun s a w=>∃ (z:Bool) (t:LI) (h:Int) (f:FV) (q:Hdr),(z,t,h)=s∧a=fr 85 f∧f 0=i.v∧f 1=iV c∧f 6=.bool z∧f 8=q.v∧f 9=iV (wrc c 32)∧f 10=iV h∧St w0 ros (row 103 (rI .u32) q.v t::rs) w) e9 ⟨_,_,_,_,_,rfl,rfl,d9,L,e1,rfl,rfl,rfl,b⟩ ?_
  rintro _ _ w a4 ⟨z,t,h,f,q,rfl,rfl,A,a5,O,R,a6,B,b⟩ k f4 k7 f5 f6
  refine seqQ fun k8 f7 f8=>sR fun _ f9=>Ym (iV h) (eh B) (Ym i.v (eh A) (yY (yLen SL_29 e0 b (rdI p)) (yY (ylss e0 e0) (wK f9 ?_))))
  refine cIf e0 k (fun g0 k=>?_) fun g0 k=>?_
  ·refine wp_skip (f7 _ _ (sQ fun _ g1=>blockQ fun _ g2=>sR fun _ g3=>Ym i.v (eh A) (Ym (iV h) (eh B) (bE k fun S a7 k=>yY (yIa SL_29 e0 e0 b (rdI p) a7) (yY (yI O_103 e0 b (rdI p) a7) (yY (ycv (k':=.u64) (by kernel_rfl) (by kernel_rfl) e0) (Ya (.int .u64 (wc .u64 S)) e0 (wN ?_))))))))
   refine g3 _ _ (sQ fun g4 g5=>sR fun _ g6=>Ym (iV h) (eh B) (yY (yadd e0 rfl) (Ym i.v (eh A) (yY (yLen SL_29 e0 b (rdI p)) (yY (ylss e0 e0) (wK g6 ?_))))))
   have a8:∀ (u:Int) (f:FV) w,f 0=i.v→f 1=iV c→f 6=.bool z→f 8=q.v→f 9=iV (wrc c 32)→f 10=iV h→f 11=.int .u64 u→St w0 ros (row 103 (rI .u32) q.v t::rs) w→sparseref01_shr_j16 h c D t z u=some a4→g4 .normal (fr 85 f) w:=by
    intro u f w T H a9 b0 U G b1 b g
    refine g5 _ _ (sQ fun g7 g8=>sQ fun _ g9=>bE g fun V r g=>?_)
    refine joinN (n:=85) (fun f w=>f 0=i.v∧f 1=iV c∧f 6=.bool z∧f 8=q.v∧f 9=iV (wrc c 32)∧f 10=iV h∧f 11=.int .u64 u∧f 75=.bool V∧St w0 ros (row 103 (rI .u32) q.v t::rs) w) (fun b2=>?_) ?_
    ·rcases iteS r with ⟨d,r⟩ | ⟨d,r⟩
     ·refine bE r fun k9 b3 r=>bE r fun l0 h0 r=>?_
      have h1:=someI r
      refine dR [0,0,2,7,15,31,31,127,255,31,543,1567,4095,8191,16383] [] 0 folM ?_
      replace b:=b.drew
      refine Dz [0,1,2,3,4,5,6,7,8,9,10,11,12,13,14] [] (yR rfl (m_ (iV h) (eh G)) (yR rfl (m_ (iV c) (eh H)) (yR rfl (yquoc e0 rfl (by decide)) (yR rfl (yeql e0 e0) (yR rfl (m_ (.bool (decide (h=(wqc .i64 c 32)))) e0) (Ry rfl rfl (wG (dT d)) (m_ i.v (eh T)) (Ry rfl rfl (wG (dT d)) (m_ (iV h) (eh G)) (Ry rfl rfl (wG (dT d)) (yIa SL_29 e0 e0 b (rdI p) b3) (Ry rfl rfl (wG (dT d)) (yI O_103 e0 b (rdI p) b3) (Ry rfl rfl (wG (dT d)) (m_ (iV (wrc c 32)) (eh U)) (Ry rfl rfl (wG (dT d)) (yshl rfl e0 h0) (Ry rfl rfl (wG (dT d)) (ysub e0 rfl) (Ry rfl rfl (wG (dT d)) (yand e0 e0) ?_)))))))))))))
      exact Ry rfl rfl (wG (dT d)) (yneq e0 rfl) (yR rfl (pt_ (.bool V) e0 (dT d) (eqv h1 e0)) (Rn QSn (b2 _ _ ⟨T,H,a9,b0,U,G,b1,rfl,b⟩)))
     ·have h3:=someI r
      refine dR [0,0,2,7,15,31,31,127,255,31,543,1567,4095,8191,16383] [] 0 folM ?_
      replace b:=b.drew
      refine Dz [0,1,2,3,4,5,6,7,8,9,10,11,12,13,14] [] (yR rfl (m_ (iV h) (eh G)) (yR rfl (m_ (iV c) (eh H)) (yR rfl (yquoc e0 rfl (by decide)) (yR rfl (yeql e0 e0) (yR rfl (m_ (.bool (decide (h=(wqc .i64 c 32)))) e0) (Rx rfl rfl (wX (dF d)) (Rx rfl rfl (wX (dF d)) (Rx rfl rfl (wX (dF d)) (Rx rfl rfl (wX (dF d)) (Rx rfl rfl (wX (dF d)) (Rx rfl rfl (wX (dF d)) (Rx rfl rfl (wX (dF d)) (Rx rfl rfl (wX (dF d)) ?_)))))))))))))
      exact Rx rfl rfl (wX (dF d)) (yR rfl (pf_ (.bool V) e0 (dF d) (eqv h3 rfl)) (Rn QSn (b2 _ _ ⟨T,H,a9,b0,U,G,b1,rfl,b⟩)))
    rintro f w ⟨b4,b5,h4,b6,b7,b8,b9,h5,b⟩
    refine g9 _ _ ?_
    have c0:∀ (W:Bool) (f:FV) w,f 0=i.v→f 1=iV c→f 6=.bool W→f 8=q.v→f 9=iV (wrc c 32)→f 10=iV h→f 11=.int .u64 u→St w0 ros (row 103 (rI .u32) q.v t::rs) w→sparseref01_shr_j20 u c t h W=some a4→g7 .normal (fr 85 f) w:=by
     intro W f w h6 h7 h8 h9 c1 i0 i1 b g
     refine g8 _ _ (wR (Ym q.v (eh h9) (Ym (.int .u64 u) (eh i1) (Ym (iV (wrc c 32)) (eh c1) (bE g fun X i2 g=>yY (yshr e0 e0 i2) (yY (ycv (k':=.u32) (by kernel_rfl) (by kernel_rfl) e0) (yH (rLt (n:=1) (l:=[wc .u32 X]) b SL_29 [.int .u32 (wc .u32 X)] (bp1 e0) rfl rfl (mks1 (cs:=[.int .u32 (wc .u32 X)]) rfl mkI mks0)) fun l1 w b=>bE g fun l2 i3 g=>yH (rAp (b.k11) SL_29 e0 e0 rO1 i3) fun i4 w b=>Ya i4.v e0 ?_)))))))
     refine wN (g2 _ _ _ (g1 _ _ (wR (Ym (iV h) (eh i0) (yY (yadd e0 rfl) (Ya (iV (wa .i64 h 1)) e0 (wN ?_)))))))
     cases g
     exact f5 _ _ _ rfl ⟨_,_,_,_,_,rfl,rfl,h6,h7,h8,rfl,c1,rfl,(b.k12)⟩
    refine cB (eh h5) g (fun i5 g=>?_) fun i5 g=>?_
    ·exact wR (Ya (.bool true) rfl (wN (c0 _ _ _ b4 b5 rfl b6 b7 b8 b9 b g)))
    ·exact wp_skip (c0 _ _ _ b4 b5 h4 b6 b7 b8 b9 b g)
   refine cIf e0 k (fun i6 k=>?_) fun i6 k=>?_
   ·exact wR (Ym (.int .u64 (wc .u64 S)) e0 (Ym i.v (eh A) (Ym (iV h) (eh B) (yY (yadd e0 rfl) (bE k fun i7 c2 k=>yY (yIa SL_29 e0 e0 b (rdI p) c2) (yY (yI O_103 e0 b (rdI p) c2) (yY (ycv (k':=.u64) (by kernel_rfl) (by kernel_rfl) e0) (yY (yshlc e0 rfl) (yY (yor e0 e0) (Ya (.int .u64 (wor .u64 (wc .u64 S) (wslc .u64 (wc .u64 i7) 32))) e0 (wN (a8 _ _ _ A a5 O R a6 B rfl b k))))))))))))
   ·exact wp_skip (a8 _ _ _ A a5 O R a6 B rfl b k)
  ·refine wp_exit (f8 _ _ _ rfl ?_)
   cases k
   exact f6 _ _ _ _ rfl rfl (f0 _ _ _ _ _ O R b (f4 _ rfl))
 refine loopQ (fun s a w=>∃ (C:Bool) (j:Int) (f:FV),(C,j)=s∧a=fr 85 f∧f 0=i.v∧f 1=iV c∧f 6=.bool C∧f 7=iV j∧St w0 ros rs w) d7 ⟨_,_,_,rfl,rfl,rfl,rfl,rfl,rfl,b⟩ ?_
 rintro _ _ w l3 ⟨C,j,f,rfl,rfl,Z,a0,c3,I,b⟩ x i8 l4 i9 j0
 refine seqQ fun l5 j1 j2=>sR fun _ j3=>Ym (iV j) (eh I) (Ym (iV c) (eh a0) (yY (yquoc e0 rfl (by decide)) (yY (ylss e0 e0) (Ym (.bool (decide (j < (wqc .i64 c 32)))) e0 ?_))))
 refine joinW 5 (fun f w=>f 0=i.v∧f 1=iV c∧f 6=.bool C∧f 7=iV j∧f 21=.bool ((decide (j < (wqc .i64 c 32))) && (decide (j < (D.length:Int))))∧St w0 ros rs w) (fun c4=>?_) ?_
 ·rcases Bool.eq_false_or_eq_true (decide (j < (wqc .i64 c 32))) with m | m
  ·exact yG m (m_ (iV j) (eh I)) (yG m (m_ i.v (eh Z)) (yG m (yLen SL_29 e0 b (rdI p)) (yG m (ylss e0 e0) (yY (pt_ (.bool (decide (j < (D.length:Int)))) e0 m e0) (c4 _ _ ⟨Z,a0,c3,I,(congrArg Value.bool (andT m)),b⟩)))))
  ·exact gN m (gN m (gN m (gN m (yY (pf_ (.bool false) e0 m rfl) (c4 _ _ ⟨Z,a0,c3,I,(congrArg Value.bool (andF m)),b⟩)))))
 rintro f w ⟨J,a1,c5,a2,j4,b⟩
 refine wK j3 (cB (eh j4) x (fun j5 x=>?_) fun j5 x=>?_)
 ·refine wp_skip (j1 _ _ (sQ fun _ j6=>blockQ fun _ j7=>wR (Ym (.bool C) (eh c5) (Ym (.bool C) e0 (bE x fun c6 y x=>?_)))))
  refine joinW 6 (fun f w=>f 0=i.v∧f 1=iV c∧f 7=iV j∧f 31=.bool c6∧St w0 ros rs w) (fun c7=>?_) ?_
  ·rcases iteS y with ⟨o,y⟩ | ⟨o,y⟩
   ·refine gN o (gN o (gN o (gN o (gN o (yY (pt_ (.bool true) e0 o rfl) ?_)))))
    cases y
    exact c7 _ _ ⟨J,a1,a2,rfl,b⟩
   ·refine yG (bfalse o) (m_ i.v (eh J)) (yG (bfalse o) (m_ (iV j) (eh a2)) (bE y fun j8 c8 y=>yG (bfalse o) (yIa SL_29 e0 e0 b (rdI p) c8) (yG (bfalse o) (yI O_103 e0 b (rdI p) c8) (yG (bfalse o) (yneq e0 rfl) (yY (pf_ (.bool (!(decide (j8=0)))) e0 (bfalse o) e0) ?_)))))
    cases y
    exact c7 _ _ ⟨J,a1,a2,rfl,b⟩
  rintro f w ⟨j9,k0,k5,k6,b⟩
  refine Ya (.bool c6) (eh k6) (wN (j7 _ _ _ (j6 _ _ (wR (Ym (iV j) (eh k5) (yY (yadd e0 rfl) (Ya (iV (wa .i64 j 1)) e0 (wN ?_))))))))
  cases x
  exact i9 _ _ _ rfl ⟨_,_,_,rfl,rfl,j9,k0,rfl,rfl,b⟩
 ·refine wp_exit (j2 _ _ _ rfl ?_)
  cases x
  exact j0 _ _ _ _ rfl rfl (d8 _ _ _ J a1 c5 b (i8 _ rfl))
theorem sparseref01_divMag_ok {A d:LI} {o p:Hdr} {out:LI×LI} (c:sparseref01_divMag A d=some out) (r:imm (rI .u32) o.v A∈ros) (u:imm (rI .u32) p.v d∈ros) (b:St w0 ros rs w):
  Calls Tryz.prog 145 #[o.v,p.v] w (fun e w=>∃ (X Z:Hdr),e=.returned (.tuple #[X.v,Z.v])∧St w0 (imm (rI .u32) Z.v out.2::ros) (row 103 (rI .u32) X.v out.1::rs) w):=by
 refine enterQ Tryz.func145 rfl Tryz.ntmps145 rfl fun Q a0=>sR fun _ k1=>Ya hnil.v rfl (Ya hnil.v rfl (wK k1 (seqQ fun j9 c1 c2=>sR fun _ c3=>Ym o.v e0 (Ym p.v e0 (bE c fun k0 c4 c=>yC (yCall FN_143 (a2 e0 e0)) (sparseref01_cmpMag_ok c4 r u b) ?_)))))
 rintro _ w ⟨rfl,b⟩
 refine ⟨_,rfl,?_⟩
 refine yY (ylss e0 rfl) (wK c3 ?_)
 refine cIf e0 c (fun c5 c=>?_) fun c5 c=>?_
 ·refine sR fun _ c7=>Ym o.v e0 (Ya hnil.v rfl (Ya o.v e0 (wK c7 (wp_ret (c2 _ _ _ rfl ?_)))))
  cases c
  replace b:=b.rowNh 103 (rI .u32)
  exact a0 _ _ _ (fin2r Tryz.results145 ⟨rfl,rfl⟩ ⟨rfl,rfl⟩ ⟨_,_,rfl,(b.facts (allC r allI))⟩)
 ·refine wp_skip (c1 _ _ (sR fun _ c8=>Ym p.v e0 (yY (yLen SL_29 e0 b (rdI u)) (Ya (iV (d.length:Int)) e0 (wK c8 (sR fun _ c9=>Ym p.v e0 (Ym (iV (d.length:Int)) e0 (yY (ysub e0 rfl) ?_))))))))
  refine bE c fun l0 a3 c=>yY (yIa SL_29 e0 e0 b (rdI u) a3) (yY (yI O_103 e0 b (rdI u) a3) (bE c fun j d0 c=>yC (yCall FN_126 (a1 e0)) (math_bits_LeadingZeros32_ok d0 b) ?_))
  rintro _ w ⟨rfl,b⟩
  refine ⟨_,rfl,?_⟩
  refine Ya (iV j) e0 (wK c9 (sQ fun _ d1=>bE c fun l1 d2 c=>bE c fun l2 d3 c=>bE c fun x F c=>dR [0,0,3,0,0,31,0,127,63,511] [2,5,8,9] 4 folM ?_))
  replace b:=b.drew
  refine Dn [0,1,3,4,6] [] [2] (yR rfl (m_ o.v e0) (yR rfl (m_ (iV j) e0) (yR rfl (m_ p.v e0) (yR rfl (m_ (iV j) e0) (yR rfl (m_ (iV (d.length:Int)) e0) (Rn QSn ?_))))))
  refine Lc1 rfl ?_
  refine Lk wn (yCall FN_158 (a2 e0 e0)) (sparseref01_shl_ok d2 r b) ?_
  rintro _ w ⟨G,rfl,b⟩
  refine ⟨_,rfl,?_⟩
  refine Dn [] [3,4,6] [5] (Rn (yS rfl (m_ p.v e0) (yS rfl (m_ (iV j) e0) (yS rfl (m_ (iV (d.length:Int)) e0) QSn))) ?_)
  refine Lc1 rfl ?_
  refine Lk wn (yCall FN_158 (a2 e0 e0)) (sparseref01_shl_ok d3 u b) ?_
  rintro _ w ⟨k,rfl,b⟩
  refine ⟨_,rfl,?_⟩
  refine Dn [7] [6] [8] ?_
  replace b:=b.fz
  refine yR rfl (ySl (k1:=.i64) SL_29 e0 b (rdI F0) (.inr ⟨rfl,rfl⟩) (.inl (congrArg some e0)) F) ?_
  replace b:=b.sub F0 F
  refine Rn (yS rfl (m_ (iV (d.length:Int)) e0) QSn) ?_
  refine Lc1 rfl ?_
  refine Ly wn (a_ G.v e0) (Dn [] [6,7] [9] (Rn (yS rfl (m_ (iV (d.length:Int)) e0) (yS rfl (ySl (k1:=.i64) SL_29 e0 b (rdI F1) (.inr ⟨rfl,rfl⟩) (.inl (congrArg some e0)) F) QSn)) ?_))
  refine Lc1 rfl ?_
  refine Ly wn (a_ ((subH k 1 0 (d.length:Int)).v) e0) (Dz [] [] (Rn QSn (d1 _ _ (sQ fun d4 d5=>sR fun _ d6=>Ym G.v e0 (yY (yLen SL_29 e0 b rO0) (Ym o.v e0 (yY (yLen SL_29 e0 b (rdI (F_2 r))) (yY (yeql e0 e0) (wK d6 ?_)))))))))
  have a5:∀ (H:LI) (h:Hdr) (f:FV) w,f 0=o.v→f 6=iV (d.length:Int)→f 7=iV j→f 8=h.v→f 9=(subH k 1 0 (d.length:Int)).v→St w0 (imm (rI .u32) (subH k 1 0 (d.length:Int)).v x::ros) (row 103 (rI .u32) h.v H::rs) w→sparseref01_divMag_j1 A d x j H=some out→d4 .normal (fr 109 f) w:=by
   intro H h f w a6 I d7 d8 d9 b c
   refine d5 _ _ (sR fun _ e1=>Ym o.v (eh a6) (yY (yLen SL_29 e0 b (rdI (mtF r))) (Ym (iV (d.length:Int)) (eh I) (yY (ysub e0 e0) (yY (yadd e0 rfl) (bE c fun l3 e2 c=>yH (rMk b SL_29 e0 e2) fun m w b=>Ya m.v e0 (wK e1 ?_)))))))
   refine sQ fun _ e3=>sR fun _ e4=>Ym o.v (eh a6) (yY (yLen SL_29 e0 b (rdI (mtF r))) (Ym (iV (d.length:Int)) (eh I) (yY (ysub e0 e0) (Ya (iV (ws .i64 (A.length:Int) (d.length:Int))) e0 (wK e4 (blockQ fun e5 e6=>bE c fun e7 e8 c=>?_))))))
   have e9:∀ (J K:LI) (f:FV) w,f 7=iV j→f 8=h.v→f 10=m.v→St w0 ros (row 103 (rI .u32) h.v J::row 103 (rI .u32) m.v K::rs) w→(J,K)=e7→e5 (.exit 0) (fr 109 f) w:=by
    intro J K f w f0 f1 f2 b ho
    subst ho
    refine e6 _ _ _ (e3 _ _ (sR fun _ f3=>Ym h.v (eh f1) (bE c fun l4 f4 c=>?_)))
    replace b:=b.fz
    refine yC (yCall FN_116 (a1 e0)) (sparseref01_trim_ok f4 F0 b) ?_
    rintro _ w ⟨l5,rfl,b⟩
    refine ⟨_,rfl,?_⟩
    refine Ym (iV j) (eh f0) (bE c fun L f5 c=>?_)
    replace b:=b.fz
    refine yC (yCall FN_160 (a2 e0 e0)) (sparseref01_shr_ok f5 F0 b) ?_
    rintro _ w ⟨B,rfl,b⟩
    refine ⟨_,rfl,?_⟩
    refine Ym (.tuple #[B.v,.bool L.2]) e0 (yY (x_ B.v e0) (yY (x_ (.bool L.2) e0) (Ya B.v e0 (Ya (.bool L.2) e0 (wK f3 (sR fun _ f6=>Ym m.v (eh f2) (bE c fun l6 f7 c=>?_)))))))
    replace b:=(b.k11).fz
    refine yC (yCall FN_116 (a1 e0)) (sparseref01_trim_ok f7 F0 b) ?_
    rintro _ w ⟨f8,rfl,b⟩
    refine ⟨_,rfl,?_⟩
    refine Ym B.v e0 (bE c fun l7 f9 c=>?_)
    replace b:=(b.k11).fz
    refine yC (yCall FN_116 (a1 e0)) (sparseref01_trim_ok f9 F0 b) ?_
    rintro _ w ⟨g0,rfl,b⟩
    refine ⟨_,rfl,?_⟩
    refine Ya f8.v e0 (Ya g0.v e0 (wK f6 (wp_ret ?_)))
    cases c
    replace b:=b.fz
    exact a0 _ _ _ (fin2r Tryz.results145 ⟨rfl,rfl⟩ ⟨rfl,rfl⟩ ⟨_,_,rfl,(b.facts (allC F0 (allT (allT (allT (allT (allT allI)))))))⟩)
   refine loopQ (fun s a w=>∃ (N y:LI) (i:Int) (f:FV),(N,y,i)=s∧a=fr 109 f∧f 6=iV (d.length:Int)∧f 7=iV j∧f 8=h.v∧f 9=(subH k 1 0 (d.length:Int)).v∧f 10=m.v∧f 11=iV i∧St w0 (imm (rI .u32) (subH k 1 0 (d.length:Int)).v x::ros) (row 103 (rI .u32) h.v N::row 103 (rI .u32) m.v y::rs) w) e8 ⟨_,_,_,_,rfl,rfl,I,d7,d8,d9,rfl,rfl,(b.k11)⟩ ?_
   rintro _ _ w l8 ⟨N,y,i,f,rfl,rfl,C,a7,D,a8,a9,E,b⟩ g g1 l9 g2 g3
   refine seqQ fun m0 g4 g5=>sR fun _ g6=>Ym (iV i) (eh E) (yY (ygeq e0 rfl) (wK g6 ?_))
   refine cIf e0 g (fun g7 g=>?_) fun g7 g=>?_
   ·refine wp_skip (g4 _ _ (sQ fun _ g8=>blockQ fun _ g9=>sQ fun _ h0=>bE g fun b0 b1 g=>bE g fun b2 b3 g=>dR [0,0,0,6,15,31,63,127,0,0,0,1536,3584,7936,16128,32512,65535,131071] [17] 1 folM ?_))
    replace b:=b.drew
    refine Dn [0,1,2,3,4,5,6,7,8,9,10,11,12,13,14,15,16] [] [17] (yR rfl (m_ h.v (eh D)) (yR rfl (m_ (iV i) (eh E)) (yR rfl (m_ (iV (d.length:Int)) (eh C)) (yR rfl (yadd e0 e0) (yR rfl (yIa SL_29 e0 e0 b rO0 b1) (yR rfl (yI O_103 e0 b rO0 b1) (yR rfl (ycv (k':=.u64) (by kernel_rfl) (by kernel_rfl) e0) (yR rfl (yshlc e0 rfl) (yR rfl (m_ h.v (eh D)) (yR rfl (m_ (iV i) (eh E)) (yR rfl (m_ (iV (d.length:Int)) (eh C)) (yR rfl (yadd e0 e0) (yR rfl (ysub e0 rfl) ?_)))))))))))))
    refine yR rfl (yIa SL_29 e0 e0 b rO0 b3) (yR rfl (yI O_103 e0 b rO0 b3) (yR rfl (ycv (k':=.u64) (by kernel_rfl) (by kernel_rfl) e0) (yR rfl (yor e0 e0) (Rn QSn ?_))))
    refine Lc1 rfl ?_
    refine Ly wn (a_ (.int .u64 (wor .u64 (wslc .u64 (wc .u64 b0) 32) (wc .u64 b2))) e0) (Dz [] [] (Rn QSn (h0 _ _ (sR fun _ h1=>Ym (.int .u64 (wor .u64 (wslc .u64 (wc .u64 b0) 32) (wc .u64 b2))) e0 (Ym ((subH k 1 0 (d.length:Int)).v) (eh a8) (Ym (iV (d.length:Int)) (eh C) (yY (ysub e0 rfl) (bE g fun m1 b4 g=>yY (yIa SL_29 e0 e0 b (rdI F0) b4) (yY (yI O_103 e0 b (rdI F0) b4) (yY (ycv (k':=.u64) (by kernel_rfl) (by kernel_rfl) e0) ?_))))))))))
    refine bE g fun h3 h5 g=>yY (yquo e0 e0 h5) (yY (ymin e0 rfl) (Ya (.int .u64 (imin h3 4294967295)) e0 (wK h1 (sQ fun _ h6=>blockQ fun h7 h8=>bE g fun h9 i0 g=>?_))))
    have i1:∀ (O:LI) (z:Int) (f:FV) w,f 6=iV (d.length:Int)→f 7=iV j→f 8=h.v→f 9=(subH k 1 0 (d.length:Int)).v→f 10=m.v→f 11=iV i→f 13=.int .u64 z→St w0 (imm (rI .u32) (subH k 1 0 (d.length:Int)).v x::ros) (row 103 (rI .u32) h.v O::row 103 (rI .u32) m.v y::rs) w→(O,z)=h9→h7 (.exit 2) (fr 109 f) w:=by
     intro O z f w i2 i3 i4 i5 b5 b6 i6 b ho
     subst ho
     refine h8 _ _ _ (h6 _ _ (wR (Ym m.v (eh b5) (Ym (iV i) (eh b6) (Ym (.int .u64 z) (eh i6) (yY (ycv (k':=.u32) (by kernel_rfl) (by kernel_rfl) e0) (bE g fun m2 b7 g=>yY (yIs SL_29 e0 e0 b rO1 b7) (yT (r_sti (cs:=[.int .u32 (wc .u32 z)]) (b.k11) O_103 rfl e0 e0 rfl mkI b7) fun w b=>wN (g9 _ _ _ (g8 _ _ ?_))))))))))
     refine wR (Ym (iV i) (eh b6) (yY (ysub e0 rfl) (Ya (iV (ws .i64 i 1)) e0 (wN ?_))))
     cases g
     exact g2 _ _ _ rfl ⟨_,_,_,_,rfl,rfl,i2,i3,i4,i5,b5,rfl,(b.k11)⟩
    refine loopQ (fun s a w=>∃ (R:LI) (t:Int) (f:FV),(R,t)=s∧a=fr 109 f∧f 6=iV (d.length:Int)∧f 7=iV j∧f 8=h.v∧f 9=(subH k 1 0 (d.length:Int)).v∧f 10=m.v∧f 11=iV i∧f 13=.int .u64 t∧St w0 (imm (rI .u32) (subH k 1 0 (d.length:Int)).v x::ros) (row 103 (rI .u32) h.v R::row 103 (rI .u32) m.v y::rs) w) i0 ⟨_,_,_,rfl,rfl,C,a7,D,a8,a9,E,rfl,b⟩ ?_
    rintro _ _ w m3 ⟨R,t,f,rfl,rfl,b8,b9,S,T,c0,U,V,b⟩ q i7 m4 i8 i9
    refine seqQ fun m5 j0 j2=>sR fun _ j3=>Ym h.v (eh S) (Ym ((subH k 1 0 (d.length:Int)).v) (eh T) (Ym (iV i) (eh U) (Ym (.int .u64 t) (eh V) (bE q fun m6 j4 q=>yC (yCall FN_159 (a4 e0 e0 e0 e0)) (sparseref01_take_ok j4 F0 b) ?_))))
    rintro _ w ⟨rfl,b⟩
    refine ⟨_,rfl,?_⟩
    refine yY (ynot e0) (wK j3 ?_)
    rcases iteS q with ⟨W,q⟩ | ⟨W,q⟩
    ·refine condF e0 (nF W) (wp_exit (j2 _ _ _ rfl ?_))
     cases q
     exact i9 _ _ _ _ rfl rfl (i1 _ _ _ _ b8 b9 S T c0 U V b (i7 _ rfl))
    ·refine condT e0 (nT (bfalse W)) (wp_skip (j0 _ _ (blockQ fun _ j5=>wR (Ym (.int .u64 t) (eh V) (yY (ysub e0 rfl) (Ya (.int .u64 (ws .u64 t 1)) e0 (wN (j5 _ _ _ ?_))))))))
     cases q
     exact i8 _ _ _ rfl ⟨_,_,_,rfl,rfl,b8,b9,S,T,c0,U,rfl,b⟩
   ·refine wp_exit (g5 _ _ _ rfl ?_)
    cases g
    exact g3 _ _ _ _ rfl rfl (e9 _ _ _ _ a7 D a9 (b.facts (allT allI)) (g1 _ rfl))
  refine cIf e0 c (fun j6 c=>?_) fun j6 c=>?_
  ·exact wR (Ym G.v e0 (yH (rLt (n:=1) (l:=[0]) b SL_29 [.int .u32 0] (bp1 rfl) rfl rfl (mks1 (cs:=[.int .u32 0]) rfl mkI mks0)) fun m7 w b=>bE c fun m8 j7 c=>yH (rAp (b.k11) SL_29 e0 e0 rO1 j7) fun j8 w b=>Ya j8.v e0 (wN (a5 _ _ _ _ rfl rfl rfl rfl rfl ((b.k12).facts (allC F0 (allT (allT allI)))) c))))
  ·exact wp_skip (a5 _ _ _ _ rfl rfl rfl rfl rfl (b.facts (allC F0 (allT (allT allI)))) c)
theorem sparseref01_Sub_ok {b:Bool} {h:LI} {f:Bool} {i:LI} {c g:Hdr} {out:Bool×LI} (d:sparseref01_Sub b h f i=some out) (m:imm (rI .u32) c.v h∈ros) (n:imm (rI .u32) g.v i∈ros) (a:St w0 ros rs w):
  Calls Tryz.prog 105 #[.agg #[.bool b,c.v],.agg #[.bool f,g.v]] w (fun e w=>∃ (j:Hdr),e=.returned (.agg #[.bool out.1,j.v])∧St w0 ros (row 103 (rI .u32) j.v out.2::rs) w):=by
 refine enterQ Tryz.func105 rfl Tryz.ntmps105 rfl fun Q o=>sR fun _ p=>yBb (r_box (vals:=[.bool b,c.v]) a e0 rfl) fun t w a=>yBb (r_box (vals:=[.bool f,g.v]) a e0 rfl) fun u w a=>yBb (rAl a ZT_31) fun x w a=>wK p (sQ fun _ q=>bE d fun y r d=>bE d fun k s d=>?_)
 refine dR [0,0,2,7,15] [2,3,4] 3 folM ?_
 replace a:=a.drew
 refine Dn [0,1] [] [2] (yR rfl (lbs_ [.bool b,c.v] ST_31 e0 a R2) (yR rfl (lbs_ [.bool f,g.v] ST_31 e0 a R1) (Rn QSn ?_)))
 refine Lc1 rfl ?_
 refine Lk wn (yCall FN_71 (a1 e0)) (sparseref01_Neg_ok r n a) ?_
 rintro _ w ⟨z,rfl,a⟩
 refine ⟨_,rfl,?_⟩
 refine Dn [] [0] [3] (Rn (yS rfl (lbs_ [.bool b,c.v] ST_31 e0 a R3) QSn) ?_)
 refine Lc1 rfl ?_
 replace a:=a.fz
 refine Lk wn (yCall FN_111 (a2 e0 e0)) (sparseref01_Add_ok s (mtF m) F0 a) ?_
 rintro _ w ⟨l,rfl,a⟩
 refine ⟨_,rfl,?_⟩
 refine Dn [] [] [4] (Rn QSn ?_)
 refine Lc1 rfl ?_
 replace a:=a.k11
 refine LT wn (r_stbn (vals':=[.bool k.1,l.v]) (us:=[.bool k.1,l.v]) a ST_31 e0 e0 rfl rfl (one_of rfl) rfl) fun w a=>Dz [] [] (Rn QSn (q _ _ (wp_ret ?_)))
 cases d
 exact o _ _ _ (fin1r Tryz.results105 (rcs2 rfl rfl a R0 ST_31 rfl) ⟨_,rfl,((a.k2p).facts (allT allI))⟩)
theorem sparseref01_DivMod_ok {K:Bool} {Z:LI} {G:Bool} {a0:LI} {L H:Hdr} {out:Bool×LI×Bool×LI} (b:sparseref01_DivMod K Z G a0=some out) (c0:imm (rI .u32) L.v Z∈ros) (c1:imm (rI .u32) H.v a0∈ros) (a:St w0 ros rs w):
  Calls Tryz.prog 117 #[.agg #[.bool K,L.v],.agg #[.bool G,H.v]] w (fun e w=>∃ (a3 a4:Hdr),e=.returned (.tuple #[.agg #[.bool out.1,a3.v],.agg #[.bool out.2.2.1,a4.v]])∧St w0 (imm (rI .u32) a4.v out.2.2.2::ros) (row 103 (rI .u32) a3.v out.2.1::rs) w):=by
 refine enterQ Tryz.func117 rfl Tryz.ntmps117 rfl fun Q c2=>sR fun _ c3=>yBb (r_box (vals:=[.bool K,L.v]) a e0 rfl) fun f0 w a=>yBb (r_box (vals:=[.bool G,H.v]) a e0 rfl) fun a5 w a=>yBb (rAl a ZT_31) fun A w a=>yBb (rAl a ZT_31) fun B w a=>wK c3 (sQ fun _ c4=>?_)
 refine bE b fun i c5 b=>bE b fun l c6 b=>dR [0,1,0,7,15,31] [1,3,4,5] 4 folM ?_
 replace a:=a.drew
 refine Dn [0,2] [] [1] (yR rfl (lbs_ [.bool K,L.v] ST_31 e0 a R3) (yR rfl (lbs_ [.bool G,H.v] ST_31 e0 a R2) (Rn QSn ?_)))
 refine Lc1 rfl ?_
 refine Lk wn (yCall FN_78 (a1 e0)) (sparseref01_Norm_ok c5 c0 a) ?_
 rintro _ w ⟨O,rfl,a⟩
 refine ⟨_,rfl,?_⟩
 refine Dn [] [2] [3] (Rn (yS rfl (lbs_ [.bool G,H.v] ST_31 e0 a R3) QSn) ?_)
 refine Lc1 rfl ?_
 refine Lk wn (yCall FN_78 (a1 e0)) (sparseref01_Norm_ok c6 c1 a) ?_
 rintro _ w ⟨C,rfl,a⟩
 refine ⟨_,rfl,?_⟩
 refine Dn [] [] [4] (Rn QSn ?_)
 refine Lc1 rfl ?_
 replace a:=a.k22
 refine LT wn (r_stbn (vals':=[.bool i.1,O.v]) (us:=[.bool i.1,O.v]) a ST_31 e0 e0 rfl rfl (one_of rfl) rfl) fun w a=>Dn [] [] [5] (Rn QSn ?_)
 refine Lc1 rfl ?_
 replace a:=a.k22
 refine LT wn (r_stbn (vals':=[.bool l.1,C.v]) (us:=[.bool l.1,C.v]) a ST_31 e0 e0 rfl rfl (one_of rfl) rfl) fun w a=>Dz [] [] (Rn QSn (c4 _ _ (sR fun _ c7=>yY (yFb FL_31_1 e0) (yY (lb_ O.v O_29 e0 a R1) (yY (yFb FL_31_1 e0) (yY (lb_ C.v O_29 e0 a R0) (bE b fun f1 c8 b=>?_)))))))
 replace a:=(((a.k17).fz).k1f).fz
 refine yC (yCall FN_145 (a2 e0 e0)) (sparseref01_divMag_ok c8 F1 F0 a) ?_
 rintro _ w ⟨p,j,rfl,a⟩
 refine ⟨_,rfl,?_⟩
 refine Ym (.tuple #[p.v,j.v]) e0 (yY (x_ p.v e0) (yY (x_ j.v e0) (Ya p.v e0 (Ya j.v e0 (wK c7 (sQ fun _ c9=>bE b fun d I b=>bE b fun g m b=>?_))))))
 refine joinN (n:=50) (fun f w=>∃ (s:Nat) (t:Hdr) (u:Nat) (D:Hdr),f 3=(pB a5)∧f 4=(pB A)∧f 5=(pB B)∧f 8=(pB s)∧f 9=(pB u)∧St w0 (imm (rI .u32) C.v l.2::ros) (box a5 31 [.bool l.1,C.v]::box A 31 [.bool false,hnil.v]::box B 31 [.bool false,hnil.v]::row 103 (rI .u32) t.v d.2::box s 31 [.bool d.1,t.v]::row 103 (rI .u32) D.v g.2::box u 31 [.bool g.1,D.v]::rs) w) (fun k=>?_) ?_
 ·refine dR [0,1,0,4,15,0,63,0,128,0,1023,0,0,8191,16383] [6,10,11,12,13,14] 6 folM ?_
  replace a:=a.drew
  refine Dn [0,1,2,3,4,5,7,8,9] [] [6,11,12] (yR rfl (yFb FL_31_0 e0) (yR rfl (lb_ (.bool i.1) O_4 e0 a R2) (yR rfl (yFb FL_31_0 e0) (yR rfl (lb_ (.bool l.1) O_4 e0 a R1) (yR rfl (yneb (by kernel_rfl) e0 e0) (yR rfl (m_ p.v e0) (yR rfl (yFb FL_31_0 e0) (yR rfl (lb_ (.bool i.1) O_4 e0 a R2) (yR rfl (m_ j.v e0) (Rn QSn ?_))))))))))
  refine Lc rfl ?_ (Lc rfl ?_ (Lc1 rfl ?_))
  ·replace a:=a.fz
   refine Lk wn (yCall FN_110 (a2 e0 e0)) (sparseref01_make1_ok I F0 a) ?_
   rintro _ w ⟨h,rfl,a⟩
   refine ⟨_,rfl,?_⟩
   refine Dn [] [7,8,9] [10,11,12] (Rn (yS rfl (yFb FL_31_0 e0) (yS rfl (lb_ (.bool i.1) O_4 e0 a R2) (yS rfl (m_ j.v e0) QSn))) ?_)
   refine Lc rfl ?_ (Lc rfl ?_ (Lc1 rfl ?_))
   ·refine Lk wn (yCall FN_110 (a2 e0 e0)) (sparseref01_make1_ok m F1 a) ?_
    rintro _ w ⟨c,rfl,a⟩
    refine ⟨_,rfl,?_⟩
    refine Dn [] [] [11,12] (Rn QSn ?_)
    refine Lc rfl ?_ (Lc1 rfl ?_)
    ·refine LB wn (rAl a ZT_31) fun q w a=>Dn [] [] [12] (Rn QSn ?_)
     refine Lc1 rfl ?_
     refine LB wn (rAl a ZT_31) fun r w a=>Dn [] [] [13] (Rn QSn ?_)
     refine Lc1 rfl ?_
     replace a:=a.k11
     refine LT wn (r_stbn (vals':=[.bool d.1,h.v]) (us:=[.bool d.1,h.v]) a ST_31 e0 e0 rfl rfl (one_of rfl) rfl) fun w a=>Dn [] [] [14] (Rn QSn ?_)
     refine Lc1 rfl ?_
     replace a:=a.k11
     exact LT wn (r_stbn (vals':=[.bool g.1,c.v]) (us:=[.bool g.1,c.v]) a ST_31 e0 e0 rfl rfl (one_of rfl) rfl) fun w a=>Dz [] [] (Rn QSn (k _ _ ⟨_,_,_,_,rfl,rfl,rfl,rfl,rfl,((a.k2q).facts (allC F2 (allT (allT (allT (allT allI))))))⟩))
    ·refine LB wn (rAl a ZT_31) fun r w a=>Dn [] [] [11] (Rn QSn ?_)
     refine Lc1 rfl ?_
     refine LB wn (rAl a ZT_31) fun q w a=>Dn [] [] [13] (Rn QSn ?_)
     refine Lc1 rfl ?_
     refine LT wn (r_stbn (vals':=[.bool d.1,h.v]) (us:=[.bool d.1,h.v]) a ST_31 e0 e0 rfl rfl (one_of rfl) rfl) fun w a=>Dn [] [] [14] (Rn QSn ?_)
     refine Lc1 rfl ?_
     replace a:=a.k11
     exact LT wn (r_stbn (vals':=[.bool g.1,c.v]) (us:=[.bool g.1,c.v]) a ST_31 e0 e0 rfl rfl (one_of rfl) rfl) fun w a=>Dz [] [] (Rn QSn (k _ _ ⟨_,_,_,_,rfl,rfl,rfl,rfl,rfl,((a.k2q).facts (allC F2 (allT (allT (allT (allT allI))))))⟩))
   ·refine LB wn (rAl a ZT_31) fun q w a=>Dn [] [7,8,9] [10,12] (Rn (yS rfl (yFb FL_31_0 e0) (yS rfl (lb_ (.bool i.1) O_4 e0 a R3) (yS rfl (m_ j.v e0) QSn))) ?_)
    refine Lc rfl ?_ (Lc1 rfl ?_)
    ·refine Lk wn (yCall FN_110 (a2 e0 e0)) (sparseref01_make1_ok m F1 a) ?_
     rintro _ w ⟨c,rfl,a⟩
     refine ⟨_,rfl,?_⟩
     refine Dn [] [] [12] (Rn QSn ?_)
     refine Lc1 rfl ?_
     refine LB wn (rAl a ZT_31) fun r w a=>Dn [] [] [13] (Rn QSn ?_)
     refine Lc1 rfl ?_
     replace a:=a.k1f
     refine LT wn (r_stbn (vals':=[.bool d.1,h.v]) (us:=[.bool d.1,h.v]) a ST_31 e0 e0 rfl rfl (one_of rfl) rfl) fun w a=>Dn [] [] [14] (Rn QSn ?_)
     refine Lc1 rfl ?_
     replace a:=a.k11
     exact LT wn (r_stbn (vals':=[.bool g.1,c.v]) (us:=[.bool g.1,c.v]) a ST_31 e0 e0 rfl rfl (one_of rfl) rfl) fun w a=>Dz [] [] (Rn QSn (k _ _ ⟨_,_,_,_,rfl,rfl,rfl,rfl,rfl,((a.k2q).facts (allC F2 (allT (allT (allT (allT allI))))))⟩))
    ·refine LB wn (rAl a ZT_31) fun r w a=>Dn [] [7,8,9] [10] (Rn (yS rfl (yFb FL_31_0 e0) (yS rfl (lb_ (.bool i.1) O_4 e0 a R4) (yS rfl (m_ j.v e0) QSn))) ?_)
     refine Lc1 rfl ?_
     refine Lk wn (yCall FN_110 (a2 e0 e0)) (sparseref01_make1_ok m F1 a) ?_
     rintro _ w ⟨c,rfl,a⟩
     refine ⟨_,rfl,?_⟩
     refine Dn [] [] [13] (Rn QSn ?_)
     refine Lc1 rfl ?_
     replace a:=a.k1f
     refine LT wn (r_stbn (vals':=[.bool d.1,h.v]) (us:=[.bool d.1,h.v]) a ST_31 e0 e0 rfl rfl (one_of rfl) rfl) fun w a=>Dn [] [] [14] (Rn QSn ?_)
     refine Lc1 rfl ?_
     replace a:=a.k1f
     exact LT wn (r_stbn (vals':=[.bool g.1,c.v]) (us:=[.bool g.1,c.v]) a ST_31 e0 e0 rfl rfl (one_of rfl) rfl) fun w a=>Dz [] [] (Rn QSn (k _ _ ⟨_,_,_,_,rfl,rfl,rfl,rfl,rfl,((a.k2q).facts (allC F2 (allT (allT (allT (allT allI))))))⟩))
   ·refine LB wn (rAl a ZT_31) fun r w a=>Dn [] [7,8,9] [10,11] (Rn (yS rfl (yFb FL_31_0 e0) (yS rfl (lb_ (.bool i.1) O_4 e0 a R3) (yS rfl (m_ j.v e0) QSn))) ?_)
    refine Lc rfl ?_ (Lc1 rfl ?_)
    ·refine Lk wn (yCall FN_110 (a2 e0 e0)) (sparseref01_make1_ok m F1 a) ?_
     rintro _ w ⟨c,rfl,a⟩
     refine ⟨_,rfl,?_⟩
     refine Dn [] [] [11] (Rn QSn ?_)
     refine Lc1 rfl ?_
     refine LB wn (rAl a ZT_31) fun q w a=>Dn [] [] [13] (Rn QSn ?_)
     refine Lc1 rfl ?_
     refine LT wn (r_stbn (vals':=[.bool d.1,h.v]) (us:=[.bool d.1,h.v]) a ST_31 e0 e0 rfl rfl (one_of rfl) rfl) fun w a=>Dn [] [] [14] (Rn QSn ?_)
     refine Lc1 rfl ?_
     replace a:=a.k1f
     exact LT wn (r_stbn (vals':=[.bool g.1,c.v]) (us:=[.bool g.1,c.v]) a ST_31 e0 e0 rfl rfl (one_of rfl) rfl) fun w a=>Dz [] [] (Rn QSn (k _ _ ⟨_,_,_,_,rfl,rfl,rfl,rfl,rfl,((a.k2q).facts (allC F2 (allT (allT (allT (allT allI))))))⟩))
    ·refine LB wn (rAl a ZT_31) fun q w a=>Dn [] [7,8,9] [10] (Rn (yS rfl (yFb FL_31_0 e0) (yS rfl (lb_ (.bool i.1) O_4 e0 a R4) (yS rfl (m_ j.v e0) QSn))) ?_)
     refine Lc1 rfl ?_
     refine Lk wn (yCall FN_110 (a2 e0 e0)) (sparseref01_make1_ok m F1 a) ?_
     rintro _ w ⟨c,rfl,a⟩
     refine ⟨_,rfl,?_⟩
     refine Dn [] [] [13] (Rn QSn ?_)
     refine Lc1 rfl ?_
     replace a:=a.k11
     refine LT wn (r_stbn (vals':=[.bool d.1,h.v]) (us:=[.bool d.1,h.v]) a ST_31 e0 e0 rfl rfl (one_of rfl) rfl) fun w a=>Dn [] [] [14] (Rn QSn ?_)
     refine Lc1 rfl ?_
     replace a:=a.k1f
     exact LT wn (r_stbn (vals':=[.bool g.1,c.v]) (us:=[.bool g.1,c.v]) a ST_31 e0 e0 rfl rfl (one_of rfl) rfl) fun w a=>Dz [] [] (Rn QSn (k _ _ ⟨_,_,_,_,rfl,rfl,rfl,rfl,rfl,((a.k2q).facts (allC F2 (allT (allT (allT (allT allI))))))⟩))
  ·refine LB wn (rAl a ZT_31) fun q w a=>Dn [] [0,1,2,3,4,5,7,8,9] [6,12] (Rn (yS rfl (yFb FL_31_0 e0) (yS rfl (lb_ (.bool i.1) O_4 e0 a R3) (yS rfl (yFb FL_31_0 e0) (yS rfl (lb_ (.bool l.1) O_4 e0 a R2) (yS rfl (yneb (by kernel_rfl) e0 e0) (yS rfl (m_ p.v e0) (yS rfl (yFb FL_31_0 e0) (yS rfl (lb_ (.bool i.1) O_4 e0 a R3) (yS rfl (m_ j.v e0) QSn))))))))) ?_)
   refine Lc rfl ?_ (Lc1 rfl ?_)
   ·replace a:=a.k11
    replace a:=a.fz
    refine Lk wn (yCall FN_110 (a2 e0 e0)) (sparseref01_make1_ok I F0 a) ?_
    rintro _ w ⟨h,rfl,a⟩
    refine ⟨_,rfl,?_⟩
    refine Dn [] [7,8,9] [10,12] (Rn (yS rfl (yFb FL_31_0 e0) (yS rfl (lb_ (.bool i.1) O_4 e0 a R3) (yS rfl (m_ j.v e0) QSn))) ?_)
    refine Lc rfl ?_ (Lc1 rfl ?_)
    ·refine Lk wn (yCall FN_110 (a2 e0 e0)) (sparseref01_make1_ok m F1 a) ?_
     rintro _ w ⟨c,rfl,a⟩
     refine ⟨_,rfl,?_⟩
     refine Dn [] [] [12] (Rn QSn ?_)
     refine Lc1 rfl ?_
     refine LB wn (rAl a ZT_31) fun r w a=>Dn [] [] [13] (Rn QSn ?_)
     refine Lc1 rfl ?_
     replace a:=a.k17
     refine LT wn (r_stbn (vals':=[.bool d.1,h.v]) (us:=[.bool d.1,h.v]) a ST_31 e0 e0 rfl rfl (one_of rfl) rfl) fun w a=>Dn [] [] [14] (Rn QSn ?_)
     refine Lc1 rfl ?_
     replace a:=a.k11
     exact LT wn (r_stbn (vals':=[.bool g.1,c.v]) (us:=[.bool g.1,c.v]) a ST_31 e0 e0 rfl rfl (one_of rfl) rfl) fun w a=>Dz [] [] (Rn QSn (k _ _ ⟨_,_,_,_,rfl,rfl,rfl,rfl,rfl,((a.k2q).facts (allC F2 (allT (allT (allT (allT allI))))))⟩))
    ·refine LB wn (rAl a ZT_31) fun r w a=>Dn [] [7,8,9] [10] (Rn (yS rfl (yFb FL_31_0 e0) (yS rfl (lb_ (.bool i.1) O_4 e0 a R4) (yS rfl (m_ j.v e0) QSn))) ?_)
     refine Lc1 rfl ?_
     refine Lk wn (yCall FN_110 (a2 e0 e0)) (sparseref01_make1_ok m F1 a) ?_
     rintro _ w ⟨c,rfl,a⟩
     refine ⟨_,rfl,?_⟩
     refine Dn [] [] [13] (Rn QSn ?_)
     refine Lc1 rfl ?_
     replace a:=a.k17
     refine LT wn (r_stbn (vals':=[.bool d.1,h.v]) (us:=[.bool d.1,h.v]) a ST_31 e0 e0 rfl rfl (one_of rfl) rfl) fun w a=>Dn [] [] [14] (Rn QSn ?_)
     refine Lc1 rfl ?_
     replace a:=a.k1f
     exact LT wn (r_stbn (vals':=[.bool g.1,c.v]) (us:=[.bool g.1,c.v]) a ST_31 e0 e0 rfl rfl (one_of rfl) rfl) fun w a=>Dz [] [] (Rn QSn (k _ _ ⟨_,_,_,_,rfl,rfl,rfl,rfl,rfl,((a.k2q).facts (allC F2 (allT (allT (allT (allT allI))))))⟩))
   ·refine LB wn (rAl a ZT_31) fun r w a=>Dn [] [0,1,2,3,4,5,7,8,9] [6] (Rn (yS rfl (yFb FL_31_0 e0) (yS rfl (lb_ (.bool i.1) O_4 e0 a R4) (yS rfl (yFb FL_31_0 e0) (yS rfl (lb_ (.bool l.1) O_4 e0 a R3) (yS rfl (yneb (by kernel_rfl) e0 e0) (yS rfl (m_ p.v e0) (yS rfl (yFb FL_31_0 e0) (yS rfl (lb_ (.bool i.1) O_4 e0 a R4) (yS rfl (m_ j.v e0) QSn))))))))) ?_)
    refine Lc1 rfl ?_
    replace a:=(a.k1f).fz
    refine Lk wn (yCall FN_110 (a2 e0 e0)) (sparseref01_make1_ok I F0 a) ?_
    rintro _ w ⟨h,rfl,a⟩
    refine ⟨_,rfl,?_⟩
    refine Dn [] [7,8,9] [10] (Rn (yS rfl (yFb FL_31_0 e0) (yS rfl (lb_ (.bool i.1) O_4 e0 a R4) (yS rfl (m_ j.v e0) QSn))) ?_)
    refine Lc1 rfl ?_
    refine Lk wn (yCall FN_110 (a2 e0 e0)) (sparseref01_make1_ok m F1 a) ?_
    rintro _ w ⟨c,rfl,a⟩
    refine ⟨_,rfl,?_⟩
    refine Dn [] [] [13] (Rn QSn ?_)
    refine Lc1 rfl ?_
    replace a:=a.k17
    refine LT wn (r_stbn (vals':=[.bool d.1,h.v]) (us:=[.bool d.1,h.v]) a ST_31 e0 e0 rfl rfl (one_of rfl) rfl) fun w a=>Dn [] [] [14] (Rn QSn ?_)
    refine Lc1 rfl ?_
    replace a:=a.k17
    exact LT wn (r_stbn (vals':=[.bool g.1,c.v]) (us:=[.bool g.1,c.v]) a ST_31 e0 e0 rfl rfl (one_of rfl) rfl) fun w a=>Dz [] [] (Rn QSn (k _ _ ⟨_,_,_,_,rfl,rfl,rfl,rfl,rfl,((a.k2q).facts (allC F2 (allT (allT (allT (allT allI))))))⟩))
  ·refine LB wn (rAl a ZT_31) fun r w a=>Dn [] [0,1,2,3,4,5,7,8,9] [6,11] (Rn (yS rfl (yFb FL_31_0 e0) (yS rfl (lb_ (.bool i.1) O_4 e0 a R3) (yS rfl (yFb FL_31_0 e0) (yS rfl (lb_ (.bool l.1) O_4 e0 a R2) (yS rfl (yneb (by kernel_rfl) e0 e0) (yS rfl (m_ p.v e0) (yS rfl (yFb FL_31_0 e0) (yS rfl (lb_ (.bool i.1) O_4 e0 a R3) (yS rfl (m_ j.v e0) QSn))))))))) ?_)
   refine Lc rfl ?_ (Lc1 rfl ?_)
   ·replace a:=a.k11
    replace a:=a.fz
    refine Lk wn (yCall FN_110 (a2 e0 e0)) (sparseref01_make1_ok I F0 a) ?_
    rintro _ w ⟨h,rfl,a⟩
    refine ⟨_,rfl,?_⟩
    refine Dn [] [7,8,9] [10,11] (Rn (yS rfl (yFb FL_31_0 e0) (yS rfl (lb_ (.bool i.1) O_4 e0 a R3) (yS rfl (m_ j.v e0) QSn))) ?_)
    refine Lc rfl ?_ (Lc1 rfl ?_)
    ·refine Lk wn (yCall FN_110 (a2 e0 e0)) (sparseref01_make1_ok m F1 a) ?_
     rintro _ w ⟨c,rfl,a⟩
     refine ⟨_,rfl,?_⟩
     refine Dn [] [] [11] (Rn QSn ?_)
     refine Lc1 rfl ?_
     refine LB wn (rAl a ZT_31) fun q w a=>Dn [] [] [13] (Rn QSn ?_)
     refine Lc1 rfl ?_
     refine LT wn (r_stbn (vals':=[.bool d.1,h.v]) (us:=[.bool d.1,h.v]) a ST_31 e0 e0 rfl rfl (one_of rfl) rfl) fun w a=>Dn [] [] [14] (Rn QSn ?_)
     refine Lc1 rfl ?_
     replace a:=a.k17
     exact LT wn (r_stbn (vals':=[.bool g.1,c.v]) (us:=[.bool g.1,c.v]) a ST_31 e0 e0 rfl rfl (one_of rfl) rfl) fun w a=>Dz [] [] (Rn QSn (k _ _ ⟨_,_,_,_,rfl,rfl,rfl,rfl,rfl,((a.k2q).facts (allC F2 (allT (allT (allT (allT allI))))))⟩))
    ·refine LB wn (rAl a ZT_31) fun q w a=>Dn [] [7,8,9] [10] (Rn (yS rfl (yFb FL_31_0 e0) (yS rfl (lb_ (.bool i.1) O_4 e0 a R4) (yS rfl (m_ j.v e0) QSn))) ?_)
     refine Lc1 rfl ?_
     refine Lk wn (yCall FN_110 (a2 e0 e0)) (sparseref01_make1_ok m F1 a) ?_
     rintro _ w ⟨c,rfl,a⟩
     refine ⟨_,rfl,?_⟩
     refine Dn [] [] [13] (Rn QSn ?_)
     refine Lc1 rfl ?_
     replace a:=a.k11
     refine LT wn (r_stbn (vals':=[.bool d.1,h.v]) (us:=[.bool d.1,h.v]) a ST_31 e0 e0 rfl rfl (one_of rfl) rfl) fun w a=>Dn [] [] [14] (Rn QSn ?_)
     refine Lc1 rfl ?_
     replace a:=a.k17
     exact LT wn (r_stbn (vals':=[.bool g.1,c.v]) (us:=[.bool g.1,c.v]) a ST_31 e0 e0 rfl rfl (one_of rfl) rfl) fun w a=>Dz [] [] (Rn QSn (k _ _ ⟨_,_,_,_,rfl,rfl,rfl,rfl,rfl,((a.k2q).facts (allC F2 (allT (allT (allT (allT allI))))))⟩))
   ·refine LB wn (rAl a ZT_31) fun q w a=>Dn [] [0,1,2,3,4,5,7,8,9] [6] (Rn (yS rfl (yFb FL_31_0 e0) (yS rfl (lb_ (.bool i.1) O_4 e0 a R4) (yS rfl (yFb FL_31_0 e0) (yS rfl (lb_ (.bool l.1) O_4 e0 a R3) (yS rfl (yneb (by kernel_rfl) e0 e0) (yS rfl (m_ p.v e0) (yS rfl (yFb FL_31_0 e0) (yS rfl (lb_ (.bool i.1) O_4 e0 a R4) (yS rfl (m_ j.v e0) QSn))))))))) ?_)
    refine Lc1 rfl ?_
    replace a:=(a.k1f).fz
    refine Lk wn (yCall FN_110 (a2 e0 e0)) (sparseref01_make1_ok I F0 a) ?_
    rintro _ w ⟨h,rfl,a⟩
    refine ⟨_,rfl,?_⟩
    refine Dn [] [7,8,9] [10] (Rn (yS rfl (yFb FL_31_0 e0) (yS rfl (lb_ (.bool i.1) O_4 e0 a R4) (yS rfl (m_ j.v e0) QSn))) ?_)
    refine Lc1 rfl ?_
    refine Lk wn (yCall FN_110 (a2 e0 e0)) (sparseref01_make1_ok m F1 a) ?_
    rintro _ w ⟨c,rfl,a⟩
    refine ⟨_,rfl,?_⟩
    refine Dn [] [] [13] (Rn QSn ?_)
    refine Lc1 rfl ?_
    replace a:=a.k1f
    refine LT wn (r_stbn (vals':=[.bool d.1,h.v]) (us:=[.bool d.1,h.v]) a ST_31 e0 e0 rfl rfl (one_of rfl) rfl) fun w a=>Dn [] [] [14] (Rn QSn ?_)
    refine Lc1 rfl ?_
    replace a:=a.k17
    exact LT wn (r_stbn (vals':=[.bool g.1,c.v]) (us:=[.bool g.1,c.v]) a ST_31 e0 e0 rfl rfl (one_of rfl) rfl) fun w a=>Dz [] [] (Rn QSn (k _ _ ⟨_,_,_,_,rfl,rfl,rfl,rfl,rfl,((a.k2q).facts (allC F2 (allT (allT (allT (allT allI))))))⟩))
 rintro f w ⟨s,t,u,D,a6,R,S,o,x,a⟩
 refine c9 _ _ (sQ fun a7 d0=>sR fun _ d1=>yY (lbs_ [.bool g.1,D.v] ST_31 (eh x) a R6) (bE b fun f2 d2 b=>?_))
 replace a:=(a.k22).fz
 refine yC (yCall FN_34 (a1 e0)) (sparseref01_Sign_ok d2 F0 a) ?_
 rintro _ w ⟨rfl,a⟩
 refine ⟨_,rfl,?_⟩
 refine yY (ylss e0 rfl) (wK d1 ?_)
 have a8:∀ (E:Bool) (T:LI) (y:Bool) (U:LI) (F z:Hdr) (f:FV) w,f 4=(pB A)→f 5=(pB B)→f 8=(pB s)→f 9=(pB u)→St w0 (imm (rI .u32) z.v U::ros) (box A 31 [.bool false,hnil.v]::box B 31 [.bool false,hnil.v]::row 103 (rI .u32) F.v T::box s 31 [.bool E,F.v]::box u 31 [.bool y,z.v]::rs) w→sparseref01_DivMod_j3 E T y U=some out→a7 .normal (fr 50 f) w:=by
  intro E T y U F z f w a9 b0 d3 b1 a b
  refine d0 _ _ (sQ fun _ d4=>dR [0,0,1,7] [2,3] 2 folM ?_)
  replace a:=a.drew
  refine Dn [0,1] [] [2] (yR rfl (lbs_ [.bool E,F.v] ST_31 (eh d3) a R3) (yR rfl (lbs_ [.bool y,z.v] ST_31 (eh b1) a R4) (Rn QSn ?_)))
  refine Lc1 rfl ?_
  refine LT wn (r_stbn (vals':=[.bool E,F.v]) (us:=[.bool E,F.v]) a ST_31 (eh a9) e0 rfl rfl (one_of rfl) rfl) fun w a=>Dn [] [1] [3] (Rn (yS rfl (lbs_ [.bool y,z.v] ST_31 (eh b1) a R4) QSn) ?_)
  refine Lc1 rfl ?_
  replace a:=a.k11
  refine LT wn (r_stbn (vals':=[.bool y,z.v]) (us:=[.bool y,z.v]) a ST_31 (eh b0) e0 rfl rfl (one_of rfl) rfl) fun w a=>Dz [] [] (Rn QSn (d4 _ _ (wp_ret ?_)))
  cases b
  exact c2 _ _ _ (fin2r Tryz.results117 (rcs2 rfl a9 a R1 ST_31 rfl) (rcs2 rfl b0 a R0 ST_31 rfl) ⟨_,_,rfl,(a.k2r)⟩)
 refine cIf e0 b (fun d5 b=>?_) fun d5 b=>?_
 ·refine sQ fun _ d6=>bE b fun f3 d7 b=>bE b fun J d8 b=>dR [0,0,2,7,15] [2,3,4] 3 folM ?_
  replace a:=a.drew
  refine Dn [0,1] [] [2] (yR rfl (lbs_ [.bool g.1,D.v] ST_31 (eh x) a R5) (yR rfl (lbs_ [.bool l.1,C.v] ST_31 (eh a6) a R0) (Rn QSn ?_)))
  refine Lc1 rfl ?_
  refine Lk wn (yCall FN_72 (a1 e0)) (sparseref01_Abs_ok d7 F1 a) ?_
  rintro _ w ⟨f4,rfl,a⟩
  refine ⟨_,rfl,?_⟩
  refine Dn [] [0] [3] (Rn (yS rfl (lbs_ [.bool g.1,D.v] ST_31 (eh x) a R6) QSn) ?_)
  refine Lc1 rfl ?_
  replace a:=a.fz
  refine Lk wn (yCall FN_111 (a2 e0 e0)) (sparseref01_Add_ok d8 F1 F0 a) ?_
  rintro _ w ⟨N,rfl,a⟩
  refine ⟨_,rfl,?_⟩
  refine Dn [] [] [4] (Rn QSn ?_)
  refine Lc1 rfl ?_
  replace a:=a.k25
  refine LT wn (r_stbn (vals':=[.bool J.1,N.v]) (us:=[.bool J.1,N.v]) a ST_31 (eh x) e0 rfl rfl (one_of rfl) rfl) fun w a=>Dz [] [] (Rn QSn (d6 _ _ (sR fun _ d9=>yY (yFb FL_31_0 (eh a6)) (yY (lb_ (.bool l.1) O_4 e0 a R2) (wK d9 ?_)))))
  have b2:∀ (V:Bool) (W:LI) (X:Hdr) (f:FV) w,f 4=(pB A)→f 5=(pB B)→f 8=(pB s)→f 9=(pB u)→St w0 ros (box A 31 [.bool false,hnil.v]::box B 31 [.bool false,hnil.v]::row 103 (rI .u32) X.v W::box s 31 [.bool V,X.v]::row 103 (rI .u32) N.v J.2::box u 31 [.bool J.1,N.v]::rs) w→sparseref01_DivMod_j4 J V W=some out→a7 .normal (fr 50 f) w:=by
   intro V W X f w e1 e2 e3 e4 a b
   replace a:=(a.k1a).fz
   exact a8 _ _ _ _ _ _ _ _ e1 e2 e3 e4 a b
  refine cB e0 b (fun e5 b=>?_) fun e5 b=>?_
  ·refine bE b fun f5 e6 b=>bE b fun b3 e7 b=>dR [0,0,3,7] [1,2,3] 3 folM ?_
   replace a:=a.drew
   refine Dn [0] [] [1] (yR rfl (lbs_ [.bool d.1,t.v] ST_31 (eh o) a R6) (Rn QSn ?_))
   refine Lc1 rfl ?_
   refine Lk wn (yCall FN_84 (a1 rfl)) (sparseref01_FromInt_ok e6 a) ?_
   rintro _ w ⟨f6,rfl,a⟩
   refine ⟨_,rfl,?_⟩
   refine Dn [] [0] [2] (Rn (yS rfl (lbs_ [.bool d.1,t.v] ST_31 (eh o) a R7) QSn) ?_)
   refine Lc1 rfl ?_
   replace a:=((a.k25).fz).fz
   refine Lk wn (yCall FN_111 (a2 e0 e0)) (sparseref01_Add_ok e7 F1 F0 a) ?_
   rintro _ w ⟨b4,rfl,a⟩
   refine ⟨_,rfl,?_⟩
   refine Dn [] [] [3] (Rn QSn ?_)
   refine Lc1 rfl ?_
   replace a:=a.k25
   exact LT wn (r_stbn (vals':=[.bool b3.1,b4.v]) (us:=[.bool b3.1,b4.v]) a ST_31 (eh o) e0 rfl rfl (one_of rfl) rfl) fun w a=>Dz [] [] (Rn QSn (b2 _ _ _ _ _ R S o x ((a.k2s).facts (allT (allT (allT (allT (allT allI)))))) b))
  ·refine bE b fun f7 e8 b=>bE b fun b5 e9 b=>dR [0,0,3,7] [1,2,3] 3 folM ?_
   replace a:=a.drew
   refine Dn [0] [] [1] (yR rfl (lbs_ [.bool d.1,t.v] ST_31 (eh o) a R6) (Rn QSn ?_))
   refine Lc1 rfl ?_
   refine Lk wn (yCall FN_84 (a1 rfl)) (sparseref01_FromInt_ok e8 a) ?_
   rintro _ w ⟨f8,rfl,a⟩
   refine ⟨_,rfl,?_⟩
   refine Dn [] [0] [2] (Rn (yS rfl (lbs_ [.bool d.1,t.v] ST_31 (eh o) a R7) QSn) ?_)
   refine Lc1 rfl ?_
   replace a:=((a.k25).fz).fz
   refine Lk wn (yCall FN_105 (a2 e0 e0)) (sparseref01_Sub_ok e9 F1 F0 a) ?_
   rintro _ w ⟨b6,rfl,a⟩
   refine ⟨_,rfl,?_⟩
   refine Dn [] [] [3] (Rn QSn ?_)
   refine Lc1 rfl ?_
   replace a:=a.k25
   exact LT wn (r_stbn (vals':=[.bool b5.1,b6.v]) (us:=[.bool b5.1,b6.v]) a ST_31 (eh o) e0 rfl rfl (one_of rfl) rfl) fun w a=>Dz [] [] (Rn QSn (b2 _ _ _ _ _ R S o x ((a.k2s).facts (allT (allT (allT (allT (allT allI)))))) b))
 ·exact wp_skip (a8 _ _ _ _ _ _ _ _ R S o x ((a.k2t).facts (allC F0 (allT (allT allI)))) b)
theorem sparseref01_GCD_ok {q:Bool} {W:LI} {i:Bool} {X:LI} {r j:Hdr} {out:Bool×LI} (A:sparseref01_GCD q W i X=some out) (F:imm (rI .u32) r.v W∈ros) (m:imm (rI .u32) j.v X∈ros) (b:St w0 ros rs w):
  Calls Tryz.prog 88 #[.agg #[.bool q,r.v],.agg #[.bool i,j.v]] w (fun e w=>∃ (Z:Hdr),e=.returned (.agg #[.bool out.1,Z.v])∧St w0 (imm (rI .u32) Z.v out.2::ros) rs w):=by
 refine enterQ Tryz.func88 rfl Tryz.ntmps88 rfl fun Q a4=>sR fun _ a5=>yBb (r_box (vals:=[.bool q,r.v]) b e0 rfl) fun d1 w b=>yBb (r_box (vals:=[.bool i,j.v]) b e0 rfl) fun d2 w b=>yBb (rAl b ZT_31) fun C w b=>wK a5 (sQ fun _ a6=>bE A fun g G A=>bE A fun h o A=>?_)
 refine joinN (n:=25) (fun f w=>∃ (B:Nat) (O:Hdr) (H:Nat) (R:Hdr),f 4=(pB C)∧f 5=(pB B)∧f 6=(pB H)∧St w0 ros (box C 31 [.bool false,hnil.v]::row 103 (rI .u32) O.v g.2::box B 31 [.bool g.1,O.v]::row 103 (rI .u32) R.v h.2::box H 31 [.bool h.1,R.v]::rs) w) (fun k=>?_) ?_
 ·refine dR [0,1,0,7,0,0,63,127] [1,3,4,5,6,7] 6 folM ?_
  replace b:=b.drew
  refine Dn [0,2] [] [1,4,5] (yR rfl (lbs_ [.bool q,r.v] ST_31 e0 b R2) (yR rfl (lbs_ [.bool i,j.v] ST_31 e0 b R1) (Rn QSn ?_)))
  refine Lc rfl ?_ (Lc rfl ?_ (Lc1 rfl ?_))
  ·refine Lk wn (yCall FN_72 (a1 e0)) (sparseref01_Abs_ok G F b) ?_
   rintro _ w ⟨d,rfl,b⟩
   refine ⟨_,rfl,?_⟩
   refine Dn [] [2] [3,4,5] (Rn (yS rfl (lbs_ [.bool i,j.v] ST_31 e0 b R2) QSn) ?_)
   refine Lc rfl ?_ (Lc rfl ?_ (Lc1 rfl ?_))
   ·refine Lk wn (yCall FN_72 (a1 e0)) (sparseref01_Abs_ok o m b) ?_
    rintro _ w ⟨c,rfl,b⟩
    refine ⟨_,rfl,?_⟩
    refine Dn [] [] [4,5] (Rn QSn ?_)
    refine Lc rfl ?_ (Lc1 rfl ?_)
    ·refine LB wn (rAl b ZT_31) fun t w b=>Dn [] [] [5] (Rn QSn ?_)
     refine Lc1 rfl ?_
     refine LB wn (rAl b ZT_31) fun u w b=>Dn [] [] [6] (Rn QSn ?_)
     refine Lc1 rfl ?_
     replace b:=b.k11
     refine LT wn (r_stbn (vals':=[.bool g.1,d.v]) (us:=[.bool g.1,d.v]) b ST_31 e0 e0 rfl rfl (one_of rfl) rfl) fun w b=>Dn [] [] [7] (Rn QSn ?_)
     refine Lc1 rfl ?_
     replace b:=b.k11
     exact LT wn (r_stbn (vals':=[.bool h.1,c.v]) (us:=[.bool h.1,c.v]) b ST_31 e0 e0 rfl rfl (one_of rfl) rfl) fun w b=>Dz [] [] (Rn QSn (k _ _ ⟨_,_,_,_,rfl,rfl,rfl,(b.k2u)⟩))
    ·refine LB wn (rAl b ZT_31) fun u w b=>Dn [] [] [4] (Rn QSn ?_)
     refine Lc1 rfl ?_
     refine LB wn (rAl b ZT_31) fun t w b=>Dn [] [] [6] (Rn QSn ?_)
     refine Lc1 rfl ?_
     refine LT wn (r_stbn (vals':=[.bool g.1,d.v]) (us:=[.bool g.1,d.v]) b ST_31 e0 e0 rfl rfl (one_of rfl) rfl) fun w b=>Dn [] [] [7] (Rn QSn ?_)
     refine Lc1 rfl ?_
     replace b:=b.k11
     exact LT wn (r_stbn (vals':=[.bool h.1,c.v]) (us:=[.bool h.1,c.v]) b ST_31 e0 e0 rfl rfl (one_of rfl) rfl) fun w b=>Dz [] [] (Rn QSn (k _ _ ⟨_,_,_,_,rfl,rfl,rfl,(b.k2u)⟩))
   ·refine LB wn (rAl b ZT_31) fun t w b=>Dn [] [2] [3,5] (Rn (yS rfl (lbs_ [.bool i,j.v] ST_31 e0 b R3) QSn) ?_)
    refine Lc rfl ?_ (Lc1 rfl ?_)
    ·refine Lk wn (yCall FN_72 (a1 e0)) (sparseref01_Abs_ok o m b) ?_
     rintro _ w ⟨c,rfl,b⟩
     refine ⟨_,rfl,?_⟩
     refine Dn [] [] [5] (Rn QSn ?_)
     refine Lc1 rfl ?_
     refine LB wn (rAl b ZT_31) fun u w b=>Dn [] [] [6] (Rn QSn ?_)
     refine Lc1 rfl ?_
     replace b:=b.k1f
     refine LT wn (r_stbn (vals':=[.bool g.1,d.v]) (us:=[.bool g.1,d.v]) b ST_31 e0 e0 rfl rfl (one_of rfl) rfl) fun w b=>Dn [] [] [7] (Rn QSn ?_)
     refine Lc1 rfl ?_
     replace b:=b.k11
     exact LT wn (r_stbn (vals':=[.bool h.1,c.v]) (us:=[.bool h.1,c.v]) b ST_31 e0 e0 rfl rfl (one_of rfl) rfl) fun w b=>Dz [] [] (Rn QSn (k _ _ ⟨_,_,_,_,rfl,rfl,rfl,(b.k2u)⟩))
    ·refine LB wn (rAl b ZT_31) fun u w b=>Dn [] [2] [3] (Rn (yS rfl (lbs_ [.bool i,j.v] ST_31 e0 b R4) QSn) ?_)
     refine Lc1 rfl ?_
     refine Lk wn (yCall FN_72 (a1 e0)) (sparseref01_Abs_ok o m b) ?_
     rintro _ w ⟨c,rfl,b⟩
     refine ⟨_,rfl,?_⟩
     refine Dn [] [] [6] (Rn QSn ?_)
     refine Lc1 rfl ?_
     replace b:=b.k1f
     refine LT wn (r_stbn (vals':=[.bool g.1,d.v]) (us:=[.bool g.1,d.v]) b ST_31 e0 e0 rfl rfl (one_of rfl) rfl) fun w b=>Dn [] [] [7] (Rn QSn ?_)
     refine Lc1 rfl ?_
     replace b:=b.k1f
     exact LT wn (r_stbn (vals':=[.bool h.1,c.v]) (us:=[.bool h.1,c.v]) b ST_31 e0 e0 rfl rfl (one_of rfl) rfl) fun w b=>Dz [] [] (Rn QSn (k _ _ ⟨_,_,_,_,rfl,rfl,rfl,(b.k2u)⟩))
   ·refine LB wn (rAl b ZT_31) fun u w b=>Dn [] [2] [3,4] (Rn (yS rfl (lbs_ [.bool i,j.v] ST_31 e0 b R3) QSn) ?_)
    refine Lc rfl ?_ (Lc1 rfl ?_)
    ·refine Lk wn (yCall FN_72 (a1 e0)) (sparseref01_Abs_ok o m b) ?_
     rintro _ w ⟨c,rfl,b⟩
     refine ⟨_,rfl,?_⟩
     refine Dn [] [] [4] (Rn QSn ?_)
     refine Lc1 rfl ?_
     refine LB wn (rAl b ZT_31) fun t w b=>Dn [] [] [6] (Rn QSn ?_)
     refine Lc1 rfl ?_
     refine LT wn (r_stbn (vals':=[.bool g.1,d.v]) (us:=[.bool g.1,d.v]) b ST_31 e0 e0 rfl rfl (one_of rfl) rfl) fun w b=>Dn [] [] [7] (Rn QSn ?_)
     refine Lc1 rfl ?_
     replace b:=b.k1f
     exact LT wn (r_stbn (vals':=[.bool h.1,c.v]) (us:=[.bool h.1,c.v]) b ST_31 e0 e0 rfl rfl (one_of rfl) rfl) fun w b=>Dz [] [] (Rn QSn (k _ _ ⟨_,_,_,_,rfl,rfl,rfl,(b.k2u)⟩))
    ·refine LB wn (rAl b ZT_31) fun t w b=>Dn [] [2] [3] (Rn (yS rfl (lbs_ [.bool i,j.v] ST_31 e0 b R4) QSn) ?_)
     refine Lc1 rfl ?_
     refine Lk wn (yCall FN_72 (a1 e0)) (sparseref01_Abs_ok o m b) ?_
     rintro _ w ⟨c,rfl,b⟩
     refine ⟨_,rfl,?_⟩
     refine Dn [] [] [6] (Rn QSn ?_)
     refine Lc1 rfl ?_
     replace b:=b.k11
     refine LT wn (r_stbn (vals':=[.bool g.1,d.v]) (us:=[.bool g.1,d.v]) b ST_31 e0 e0 rfl rfl (one_of rfl) rfl) fun w b=>Dn [] [] [7] (Rn QSn ?_)
     refine Lc1 rfl ?_
     replace b:=b.k1f
     exact LT wn (r_stbn (vals':=[.bool h.1,c.v]) (us:=[.bool h.1,c.v]) b ST_31 e0 e0 rfl rfl (one_of rfl) rfl) fun w b=>Dz [] [] (Rn QSn (k _ _ ⟨_,_,_,_,rfl,rfl,rfl,(b.k2u)⟩))
  ·refine LB wn (rAl b ZT_31) fun t w b=>Dn [] [0,2] [1,5] (Rn (yS rfl (lbs_ [.bool q,r.v] ST_31 e0 b R3) (yS rfl (lbs_ [.bool i,j.v] ST_31 e0 b R2) QSn)) ?_)
   refine Lc rfl ?_ (Lc1 rfl ?_)
   ·refine Lk wn (yCall FN_72 (a1 e0)) (sparseref01_Abs_ok G F b) ?_
    rintro _ w ⟨d,rfl,b⟩
    refine ⟨_,rfl,?_⟩
    refine Dn [] [2] [3,5] (Rn (yS rfl (lbs_ [.bool i,j.v] ST_31 e0 b R3) QSn) ?_)
    refine Lc rfl ?_ (Lc1 rfl ?_)
    ·refine Lk wn (yCall FN_72 (a1 e0)) (sparseref01_Abs_ok o m b) ?_
     rintro _ w ⟨c,rfl,b⟩
     refine ⟨_,rfl,?_⟩
     refine Dn [] [] [5] (Rn QSn ?_)
     refine Lc1 rfl ?_
     refine LB wn (rAl b ZT_31) fun u w b=>Dn [] [] [6] (Rn QSn ?_)
     refine Lc1 rfl ?_
     replace b:=b.k17
     refine LT wn (r_stbn (vals':=[.bool g.1,d.v]) (us:=[.bool g.1,d.v]) b ST_31 e0 e0 rfl rfl (one_of rfl) rfl) fun w b=>Dn [] [] [7] (Rn QSn ?_)
     refine Lc1 rfl ?_
     replace b:=b.k11
     exact LT wn (r_stbn (vals':=[.bool h.1,c.v]) (us:=[.bool h.1,c.v]) b ST_31 e0 e0 rfl rfl (one_of rfl) rfl) fun w b=>Dz [] [] (Rn QSn (k _ _ ⟨_,_,_,_,rfl,rfl,rfl,(b.k2u)⟩))
    ·refine LB wn (rAl b ZT_31) fun u w b=>Dn [] [2] [3] (Rn (yS rfl (lbs_ [.bool i,j.v] ST_31 e0 b R4) QSn) ?_)
     refine Lc1 rfl ?_
     refine Lk wn (yCall FN_72 (a1 e0)) (sparseref01_Abs_ok o m b) ?_
     rintro _ w ⟨c,rfl,b⟩
     refine ⟨_,rfl,?_⟩
     refine Dn [] [] [6] (Rn QSn ?_)
     refine Lc1 rfl ?_
     replace b:=b.k17
     refine LT wn (r_stbn (vals':=[.bool g.1,d.v]) (us:=[.bool g.1,d.v]) b ST_31 e0 e0 rfl rfl (one_of rfl) rfl) fun w b=>Dn [] [] [7] (Rn QSn ?_)
     refine Lc1 rfl ?_
     replace b:=b.k1f
     exact LT wn (r_stbn (vals':=[.bool h.1,c.v]) (us:=[.bool h.1,c.v]) b ST_31 e0 e0 rfl rfl (one_of rfl) rfl) fun w b=>Dz [] [] (Rn QSn (k _ _ ⟨_,_,_,_,rfl,rfl,rfl,(b.k2u)⟩))
   ·refine LB wn (rAl b ZT_31) fun u w b=>Dn [] [0,2] [1] (Rn (yS rfl (lbs_ [.bool q,r.v] ST_31 e0 b R4) (yS rfl (lbs_ [.bool i,j.v] ST_31 e0 b R3) QSn)) ?_)
    refine Lc1 rfl ?_
    refine Lk wn (yCall FN_72 (a1 e0)) (sparseref01_Abs_ok G F b) ?_
    rintro _ w ⟨d,rfl,b⟩
    refine ⟨_,rfl,?_⟩
    refine Dn [] [2] [3] (Rn (yS rfl (lbs_ [.bool i,j.v] ST_31 e0 b R4) QSn) ?_)
    refine Lc1 rfl ?_
    refine Lk wn (yCall FN_72 (a1 e0)) (sparseref01_Abs_ok o m b) ?_
    rintro _ w ⟨c,rfl,b⟩
    refine ⟨_,rfl,?_⟩
    refine Dn [] [] [6] (Rn QSn ?_)
    refine Lc1 rfl ?_
    replace b:=b.k17
    refine LT wn (r_stbn (vals':=[.bool g.1,d.v]) (us:=[.bool g.1,d.v]) b ST_31 e0 e0 rfl rfl (one_of rfl) rfl) fun w b=>Dn [] [] [7] (Rn QSn ?_)
    refine Lc1 rfl ?_
    replace b:=b.k17
    exact LT wn (r_stbn (vals':=[.bool h.1,c.v]) (us:=[.bool h.1,c.v]) b ST_31 e0 e0 rfl rfl (one_of rfl) rfl) fun w b=>Dz [] [] (Rn QSn (k _ _ ⟨_,_,_,_,rfl,rfl,rfl,(b.k2u)⟩))
  ·refine LB wn (rAl b ZT_31) fun u w b=>Dn [] [0,2] [1,4] (Rn (yS rfl (lbs_ [.bool q,r.v] ST_31 e0 b R3) (yS rfl (lbs_ [.bool i,j.v] ST_31 e0 b R2) QSn)) ?_)
   refine Lc rfl ?_ (Lc1 rfl ?_)
   ·refine Lk wn (yCall FN_72 (a1 e0)) (sparseref01_Abs_ok G F b) ?_
    rintro _ w ⟨d,rfl,b⟩
    refine ⟨_,rfl,?_⟩
    refine Dn [] [2] [3,4] (Rn (yS rfl (lbs_ [.bool i,j.v] ST_31 e0 b R3) QSn) ?_)
    refine Lc rfl ?_ (Lc1 rfl ?_)
    ·refine Lk wn (yCall FN_72 (a1 e0)) (sparseref01_Abs_ok o m b) ?_
     rintro _ w ⟨c,rfl,b⟩
     refine ⟨_,rfl,?_⟩
     refine Dn [] [] [4] (Rn QSn ?_)
     refine Lc1 rfl ?_
     refine LB wn (rAl b ZT_31) fun t w b=>Dn [] [] [6] (Rn QSn ?_)
     refine Lc1 rfl ?_
     refine LT wn (r_stbn (vals':=[.bool g.1,d.v]) (us:=[.bool g.1,d.v]) b ST_31 e0 e0 rfl rfl (one_of rfl) rfl) fun w b=>Dn [] [] [7] (Rn QSn ?_)
     refine Lc1 rfl ?_
     replace b:=b.k17
     exact LT wn (r_stbn (vals':=[.bool h.1,c.v]) (us:=[.bool h.1,c.v]) b ST_31 e0 e0 rfl rfl (one_of rfl) rfl) fun w b=>Dz [] [] (Rn QSn (k _ _ ⟨_,_,_,_,rfl,rfl,rfl,(b.k2u)⟩))
    ·refine LB wn (rAl b ZT_31) fun t w b=>Dn [] [2] [3] (Rn (yS rfl (lbs_ [.bool i,j.v] ST_31 e0 b R4) QSn) ?_)
     refine Lc1 rfl ?_
     refine Lk wn (yCall FN_72 (a1 e0)) (sparseref01_Abs_ok o m b) ?_
     rintro _ w ⟨c,rfl,b⟩
     refine ⟨_,rfl,?_⟩
     refine Dn [] [] [6] (Rn QSn ?_)
     refine Lc1 rfl ?_
     replace b:=b.k11
     refine LT wn (r_stbn (vals':=[.bool g.1,d.v]) (us:=[.bool g.1,d.v]) b ST_31 e0 e0 rfl rfl (one_of rfl) rfl) fun w b=>Dn [] [] [7] (Rn QSn ?_)
     refine Lc1 rfl ?_
     replace b:=b.k17
     exact LT wn (r_stbn (vals':=[.bool h.1,c.v]) (us:=[.bool h.1,c.v]) b ST_31 e0 e0 rfl rfl (one_of rfl) rfl) fun w b=>Dz [] [] (Rn QSn (k _ _ ⟨_,_,_,_,rfl,rfl,rfl,(b.k2u)⟩))
   ·refine LB wn (rAl b ZT_31) fun t w b=>Dn [] [0,2] [1] (Rn (yS rfl (lbs_ [.bool q,r.v] ST_31 e0 b R4) (yS rfl (lbs_ [.bool i,j.v] ST_31 e0 b R3) QSn)) ?_)
    refine Lc1 rfl ?_
    refine Lk wn (yCall FN_72 (a1 e0)) (sparseref01_Abs_ok G F b) ?_
    rintro _ w ⟨d,rfl,b⟩
    refine ⟨_,rfl,?_⟩
    refine Dn [] [2] [3] (Rn (yS rfl (lbs_ [.bool i,j.v] ST_31 e0 b R4) QSn) ?_)
    refine Lc1 rfl ?_
    refine Lk wn (yCall FN_72 (a1 e0)) (sparseref01_Abs_ok o m b) ?_
    rintro _ w ⟨c,rfl,b⟩
    refine ⟨_,rfl,?_⟩
    refine Dn [] [] [6] (Rn QSn ?_)
    refine Lc1 rfl ?_
    replace b:=b.k1f
    refine LT wn (r_stbn (vals':=[.bool g.1,d.v]) (us:=[.bool g.1,d.v]) b ST_31 e0 e0 rfl rfl (one_of rfl) rfl) fun w b=>Dn [] [] [7] (Rn QSn ?_)
    refine Lc1 rfl ?_
    replace b:=b.k17
    exact LT wn (r_stbn (vals':=[.bool h.1,c.v]) (us:=[.bool h.1,c.v]) b ST_31 e0 e0 rfl rfl (one_of rfl) rfl) fun w b=>Dz [] [] (Rn QSn (k _ _ ⟨_,_,_,_,rfl,rfl,rfl,(b.k2u)⟩))
 rintro f w ⟨B,O,H,R,a7,a8,a9,b⟩
 refine a6 _ _ (sQ fun _ b0=>blockQ fun b1 b2=>bE A fun b3 b4 A=>?_)
 have b5:∀ (D:Bool) (S:LI) (E:Hdr) (f:FV) w,f 4=(pB C)→f 5=(pB B)→St w0 (imm (rI .u32) E.v S::ros) (box C 31 [.bool false,hnil.v]::box B 31 [.bool D,E.v]::rs) w→(D,S)=b3→b1 (.exit 0) (fr 25 f) w:=by
  intro D S E f w a0 b6 b ho
  subst ho
  refine b2 _ _ _ (b0 _ _ (sR fun _ c0=>yY (lbs_ [.bool D,E.v] ST_31 (eh b6) b R1) (yT (r_stbn (vals':=[.bool D,E.v]) (us:=[.bool D,E.v]) b ST_31 (eh a0) e0 rfl rfl (one_of rfl) rfl) fun w b=>wK c0 (wp_ret ?_))))
  cases A
  exact a4 _ _ _ (fin1r Tryz.results88 (rcs2 rfl a0 b R0 ST_31 rfl) ⟨_,rfl,(b.k14)⟩)
 replace b:=(((b.k11).fz).k1f).fz
 refine loopQ (fun s a w=>∃ (J:Bool) (T:LI) (x:Bool) (U:LI) (f:FV) (K y:Hdr),(J,T,x,U)=s∧a=fr 25 f∧f 4=(pB C)∧f 5=(pB B)∧f 6=(pB H)∧St w0 (imm (rI .u32) K.v T::imm (rI .u32) y.v U::ros) (box C 31 [.bool false,hnil.v]::box B 31 [.bool J,K.v]::box H 31 [.bool x,y.v]::rs) w) b4 ⟨_,_,_,_,_,_,_,rfl,rfl,a7,a8,a9,(b.facts (allC F1 (allC F0 (allT (allT allI)))))⟩ ?_
 rintro _ _ w d3 ⟨J,T,x,U,f,K,y,rfl,rfl,a3,L,I,b⟩ p c1 d4 c2 c3
 refine seqQ fun d5 c4 c5=>sR fun _ c6=>yY (lbs_ [.bool x,y.v] ST_31 (eh I) b R2) (bE p fun d6 c7 p=>yC (yCall FN_34 (a1 e0)) (sparseref01_Sign_ok c7 F1 b) ?_)
 rintro _ w ⟨rfl,b⟩
 refine ⟨_,rfl,?_⟩
 refine yY (yneq e0 rfl) (wK c6 ?_)
 rcases iteS p with ⟨V,p⟩ | ⟨V,p⟩
 ·refine condF e0 (nF (dT V)) (wp_exit (c5 _ _ _ rfl ?_))
  cases p
  exact c3 _ _ _ _ rfl rfl (b5 _ _ _ _ _ a3 L ((b.k2v).facts (allC F0 (allT (allT allI)))) (c1 _ rfl))
 ·refine condT e0 (nT (dF V)) (wp_skip (c4 _ _ (blockQ fun _ c8=>sR fun _ c9=>yY (lbs_ [.bool J,K.v] ST_31 (eh L) b R1) (yY (lbs_ [.bool x,y.v] ST_31 (eh I) b R2) (bE p fun l d0 p=>yC (yCall FN_117 (a2 e0 e0)) (sparseref01_DivMod_ok d0 F0 F1 b) ?_)))))
  rintro _ w ⟨N,z,rfl,b⟩
  refine ⟨_,rfl,?_⟩
  refine Ym (.tuple #[.agg #[.bool l.1,N.v],.agg #[.bool l.2.2.1,z.v]]) e0 (yY (x_ (.agg #[.bool l.1,N.v]) e0) (yY (x_ (.agg #[.bool l.2.2.1,z.v]) e0) (yBb (rAl b ZT_31) fun d7 w b=>yBb (rAl b ZT_31) fun d8 w b=>yT (r_stbn (vals':=[.bool l.1,N.v]) (us:=[.bool l.1,N.v]) (b.k11) ST_31 e0 e0 rfl rfl (one_of rfl) rfl) fun w b=>yT (r_stbn (vals':=[.bool l.2.2.1,z.v]) (us:=[.bool l.2.2.1,z.v]) (b.k11) ST_31 e0 e0 rfl rfl (one_of rfl) rfl) fun w b=>wK c9 (dR [0,0,1,7] [2,3] 2 folM ?_))))
  replace b:=b.drew
  refine Dn [0,1] [] [2] (yR rfl (lbs_ [.bool x,y.v] ST_31 (eh I) b R5) (yR rfl (lbs_ [.bool l.2.2.1,z.v] ST_31 e0 b R0) (Rn QSn ?_)))
  refine Lc1 rfl ?_
  replace b:=b.k1a
  refine LT wn (r_stbn (vals':=[.bool x,y.v]) (us:=[.bool x,y.v]) b ST_31 (eh L) e0 rfl rfl (one_of rfl) rfl) fun w b=>Dn [] [1] [3] (Rn (yS rfl (lbs_ [.bool l.2.2.1,z.v] ST_31 e0 b R1) QSn) ?_)
  refine Lc1 rfl ?_
  replace b:=b.k22
  refine LT wn (r_stbn (vals':=[.bool l.2.2.1,z.v]) (us:=[.bool l.2.2.1,z.v]) b ST_31 (eh I) e0 rfl rfl (one_of rfl) rfl) fun w b=>Dz [] [] (Rn QSn (c8 _ _ _ ?_))
  cases p
  exact c2 _ _ _ rfl ⟨_,_,_,_,_,_,_,rfl,rfl,a3,L,I,((b.k2w).facts (allC F2 (allC F0 (allT (allT (allT allI))))))⟩
theorem sparseref01_Quo_ok {g:Bool} {l:LI} {h:Bool} {m:LI} {i j:Hdr} {out:Bool×LI×Bool} (c:sparseref01_Quo g l h m=some out) (p:imm (rI .u32) i.v l∈ros) (q:imm (rI .u32) j.v m∈ros) (a:St w0 ros rs w):
  Calls Tryz.prog 87 #[.agg #[.bool g,i.v],.agg #[.bool h,j.v]] w (fun e w=>∃ (n:Hdr),e=.returned (.tuple #[.agg #[.bool out.1,n.v],.bool out.2.2])∧St w0 ros (row 103 (rI .u32) n.v out.2.1::rs) w):=by
 refine enterQ Tryz.func87 rfl Tryz.ntmps87 rfl fun Q o=>sR fun _ r=>yBb (r_box (vals:=[.bool g,i.v]) a e0 rfl) fun C w a=>yBb (r_box (vals:=[.bool h,j.v]) a e0 rfl) fun D w a=>yBb (rAl a ZT_31) fun E w a=>Ya (.bool false) rfl (wK r (sR fun _ s=>?_))
 refine yY (lbs_ [.bool g,i.v] ST_31 e0 a R2) (yY (lbs_ [.bool h,j.v] ST_31 e0 a R1) (bE c fun b t c=>yC (yCall FN_117 (a2 e0 e0)) (sparseref01_DivMod_ok t p q a) ?_))
 rintro _ w ⟨d,f,rfl,a⟩
 refine ⟨_,rfl,?_⟩
 refine Ym (.tuple #[.agg #[.bool b.1,d.v],.agg #[.bool b.2.2.1,f.v]]) e0 (yY (x_ (.agg #[.bool b.1,d.v]) e0) (yY (x_ (.agg #[.bool b.2.2.1,f.v]) e0) (yBb (rAl a ZT_31) fun F w a=>yBb (rAl a ZT_31) fun G w a=>yT (r_stbn (vals':=[.bool b.1,d.v]) (us:=[.bool b.1,d.v]) (a.k11) ST_31 e0 e0 rfl rfl (one_of rfl) rfl) fun w a=>yT (r_stbn (vals':=[.bool b.2.2.1,f.v]) (us:=[.bool b.2.2.1,f.v]) (a.k11) ST_31 e0 e0 rfl rfl (one_of rfl) rfl) fun w a=>wK s (seqQ fun H u x=>?_))))
 refine sR fun _ y=>yY (lbs_ [.bool b.2.2.1,f.v] ST_31 e0 a R0) (bE c fun I z c=>yC (yCall FN_34 (a1 e0)) (sparseref01_Sign_ok z F0 a) ?_)
 rintro _ w ⟨rfl,a⟩
 refine ⟨_,rfl,?_⟩
 refine yY (yneq e0 rfl) (wK y ?_)
 rcases iteS c with ⟨k,c⟩ | ⟨k,c⟩
 ·refine condF e0 (nF (dT k)) (wp_skip (u _ _ (sR fun _ A=>yY (lbs_ [.bool b.1,d.v] ST_31 e0 a R1) (yT (r_stbn (vals':=[.bool b.1,d.v]) (us:=[.bool b.1,d.v]) (a.k17) ST_31 e0 e0 rfl rfl (one_of rfl) rfl) fun w a=>Ya (.bool true) rfl (wK A (wp_ret ?_))))))
  cases c
  exact o _ _ _ (fin2r Tryz.results87 (rcs2 rfl rfl a R0 ST_31 rfl) ⟨rfl,rfl⟩ ⟨_,rfl,((a.k2x).facts (allT allI))⟩)
 ·refine condT e0 (nT (dF k)) (sR fun _ B=>yY (ybuild (us:=[.bool false,hnil.v]) [] SO_31 bp0 rfl) (yT (r_stbn (vals':=[.bool false,hnil.v]) (us:=[.bool false,hnil.v]) (a.k17) ST_31 e0 e0 rfl rfl (one_of rfl) rfl) fun w a=>Ya (.bool false) rfl (wK B (wp_ret (x _ _ _ rfl ?_)))))
  cases c
  replace a:=a.rowNh 103 (rI .u32)
  exact o _ _ _ (fin2r Tryz.results87 (rcs2 rfl rfl a R1 ST_31 rfl) ⟨rfl,rfl⟩ ⟨_,rfl,((a.k2y).facts (allT allI))⟩)
theorem sparseref08_frac_ok {j:Bool} {o:LI} {i:Bool} {p:LI} {l k:Hdr} {out:Bool×LI×Bool×LI} (b:sparseref08_frac j o i p=some out) (u:imm (rI .u32) l.v o∈ros) (q:imm (rI .u32) k.v p∈ros) (a:St w0 ros rs w):
  Calls Tryz.prog 85 #[.agg #[.bool j,l.v],.agg #[.bool i,k.v]] w (fun e w=>∃ (x y:Hdr),e=.returned (.agg #[.bool out.1,x.v,.bool out.2.2.1,y.v])∧St w0 ros (row 103 (rI .u32) x.v out.2.1::row 103 (rI .u32) y.v out.2.2.2::rs) w):=by
 refine enterQ Tryz.func85 rfl Tryz.ntmps85 rfl fun Q I=>sR fun _ J=>yBb (r_box (vals:=[.bool j,l.v]) a e0 rfl) fun z w a=>yBb (r_box (vals:=[.bool i,k.v]) a e0 rfl) fun A w a=>yBb (rAl a ZT_80) fun B w a=>wK J (sR fun _ K=>yY (lbs_ [.bool j,l.v] ST_31 e0 a R2) ?_)
 refine yY (lbs_ [.bool i,k.v] ST_31 e0 a R1) (bE b fun r L b=>yC (yCall FN_88 (a2 e0 e0)) (sparseref01_GCD_ok L u q a) ?_)
 rintro _ w ⟨s,rfl,a⟩
 refine ⟨_,rfl,?_⟩
 refine yBb (rAl a ZT_31) fun C w a=>yT (r_stbn (vals':=[.bool r.1,s.v]) (us:=[.bool r.1,s.v]) a ST_31 e0 e0 rfl rfl (one_of rfl) rfl) fun w a=>wK K (sQ fun N O=>sR fun _ R=>yY (lbs_ [.bool i,k.v] ST_31 e0 a R2) (bE b fun a5 S b=>yC (yCall FN_34 (a1 e0)) (sparseref01_Sign_ok S (mtF q) a) ?_))
 rintro _ w ⟨rfl,a⟩
 refine ⟨_,rfl,?_⟩
 refine yY (ylss e0 rfl) (wK R ?_)
 have D:∀ (m:Bool) (t:LI) (n:Hdr) (f:FV) w,f 2=(pB z)→f 3=(pB A)→f 4=(pB B)→f 5=(pB C)→St w0 (imm (rI .u32) n.v t::ros) (box z 31 [.bool j,l.v]::box A 31 [.bool i,k.v]::box B 80 [.bool false,hnil.v,.bool false,hnil.v]::box C 31 [.bool m,n.v]::rs) w→sparseref08_frac_j1 j o i p m t=some out→N .normal (fr 33 f) w:=by
  intro m t n f w T U E F a b
  refine O _ _ (sR fun _ V=>yY (lbs_ [.bool j,l.v] ST_31 (eh T) a R0) (yY (lbs_ [.bool m,n.v] ST_31 (eh F) a R3) (bE b fun c W b=>yC (yCall FN_87 (a2 e0 e0)) (sparseref01_Quo_ok W (mtF u) F0 a) ?_)))
  rintro _ w ⟨g,rfl,a⟩
  refine ⟨_,rfl,?_⟩
  refine Ym (.tuple #[.agg #[.bool c.1,g.v],.bool c.2.2]) e0 (yY (x_ (.agg #[.bool c.1,g.v]) e0) (yY (x_ (.bool c.2.2) e0) (yBb (rAl a ZT_31) fun a6 w a=>yT (r_stbn (vals':=[.bool c.1,g.v]) (us:=[.bool c.1,g.v]) a ST_31 e0 e0 rfl rfl (one_of rfl) rfl) fun w a=>Ya (.bool c.2.2) e0 (wK V (sR fun _ X=>yY (lbs_ [.bool i,k.v] ST_31 (eh U) a R3) (yY (lbs_ [.bool m,n.v] ST_31 (eh F) a R5) ?_))))))
  refine bE b fun d Z b=>yC (yCall FN_87 (a2 e0 e0)) (sparseref01_Quo_ok Z (mtF q) F0 a) ?_
  rintro _ w ⟨h,rfl,a⟩
  refine ⟨_,rfl,?_⟩
  refine Ym (.tuple #[.agg #[.bool d.1,h.v],.bool d.2.2]) e0 (yY (x_ (.agg #[.bool d.1,h.v]) e0) (yY (x_ (.bool d.2.2) e0) (yBb (rAl a ZT_31) fun a7 w a=>yT (r_stbn (vals':=[.bool d.1,h.v]) (us:=[.bool d.1,h.v]) a ST_31 e0 e0 rfl rfl (one_of rfl) rfl) fun w a=>Ya (.bool d.2.2) e0 (wK X (sR fun _ a0=>yY (lbs_ [.bool c.1,g.v] ST_31 e0 a R2) (yY (lbs_ [.bool d.1,h.v] ST_31 e0 a R0) ?_))))))
  refine yY (ybuild (us:=[.bool c.1,g.v,.bool d.1,h.v]) [(0,.agg #[.bool c.1,g.v]),(1,.agg #[.bool d.1,h.v])] SO_80 (bp2 e0 e0) rfl) (yT (r_stbn (vals':=[.bool c.1,g.v,.bool d.1,h.v]) (us:=[.bool c.1,g.v,.bool d.1,h.v]) (a.k25) ST_80 (eh E) e0 rfl rfl (one_of rfl) rfl) fun w a=>wK a0 (wp_ret ?_))
  cases b
  exact I _ _ _ (fin1r Tryz.results85 (rcs2 rfl E a R0 ST_80 rfl) ⟨_,_,rfl,((a.k2z).facts (allT allI))⟩)
 refine cIf e0 b (fun a3 b=>?_) fun a3 b=>?_
 ·refine wR (yY (lbs_ [.bool r.1,s.v] ST_31 e0 a R0) (bE b fun G a4 b=>yC (yCall FN_71 (a1 e0)) (sparseref01_Neg_ok a4 F0 a) ?_))
  rintro _ w ⟨H,rfl,a⟩
  refine ⟨_,rfl,?_⟩
  refine yT (r_stbn (vals':=[.bool G.1,H.v]) (us:=[.bool G.1,H.v]) (a.k11) ST_31 e0 e0 rfl rfl (one_of rfl) rfl) fun w a=>wN ?_
  replace a:=(a.k11).fz
  exact D _ _ _ _ _ rfl rfl rfl rfl ((a.k1e).facts (allC F0 (allT (allT allI)))) b
 ·exact wp_skip (D _ _ _ _ _ rfl rfl rfl rfl (a.k1e) b)
end Go.Proofs.YtpfmbaidflhamaaGreatDoor
