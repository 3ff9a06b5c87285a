/- Walks: each function computes its model, printed. -/
import Derived.Test.YtpfmbaidflhamaaGreatDoorW4
namespace Go.Proofs.YtpfmbaidflhamaaGreatDoor
open Go Sx M
set_option maxRecDepth 100000
set_option maxHeartbeats 40000000
set_option linter.unusedVariables false
attribute [local irreducible] wpList Code.wp Calls DR QR QS LA LS St
variable {w0:World} {ros:List Fact} {rs:List Res} {w:World}
theorem sparseref01_Mul_ok {c:Bool} {h:LI} {d:Bool} {i:LI} {g f:Hdr} {out:Bool×LI} (b:sparseref01_Mul c h d i=some out) (m:imm (rI .u32) g.v h∈ros) (n:imm (rI .u32) f.v i∈ros) (a:St w0 ros rs w):
  Calls Tryz.prog 86 #[.agg #[.bool c,g.v],.agg #[.bool d,f.v]] w (fun e w=>∃ (j:Hdr),e=.returned (.agg #[.bool out.1,j.v])∧St w0 ros (row 103 (rI .u32) j.v out.2::rs) w):=by
 refine enterQ Tryz.func86 rfl Tryz.ntmps86 rfl fun Q o=>sR fun _ p=>yBb (r_box (vals:=[.bool c,g.v]) a e0 rfl) fun x w a=>yBb (r_box (vals:=[.bool d,f.v]) a e0 rfl) fun y w a=>yBb (rAl a ZT_31) fun z w a=>wK p (sQ fun _ q=>bE b fun A r b=>bE b fun B s b=>?_)
 refine bE b fun C t b=>bE b fun k u b=>dR [0,1,0,4,15,0,32,96,0,256,992,2016,4095,8191] [7,10,11,12,13] 5 folM ?_
 replace a:=a.drew
 refine Dn [0,1,2,3,4,5,6,8,9] [] [7] (yR rfl (yFb FL_31_0 e0) (yR rfl (lb_ (.bool c) O_4 e0 a R2) (yR rfl (yFb FL_31_0 e0) (yR rfl (lb_ (.bool d) O_4 e0 a R1) (yR rfl (yneb (by kernel_rfl) e0 e0) (yR rfl (yFb FL_31_1 e0) (yR rfl (lb_ g.v O_29 e0 a R2) (yR rfl (yFb FL_31_1 e0) (yR rfl (lb_ f.v O_29 e0 a R1) (Rn QSn ?_))))))))))
 refine Lc1 rfl ?_
 refine Lk wn (yCall FN_116 (a1 e0)) (sparseref01_trim_ok r m a) ?_
 rintro _ w ⟨D,rfl,a⟩
 refine ⟨_,rfl,?_⟩
 refine Dn [] [0,1,2,3,4,8,9] [10] (Rn (yS rfl (yFb FL_31_0 e0) (yS rfl (lb_ (.bool c) O_4 e0 a R3) (yS rfl (yFb FL_31_0 e0) (yS rfl (lb_ (.bool d) O_4 e0 a R2) (yS rfl (yneb (by kernel_rfl) e0 e0) (yS rfl (yFb FL_31_1 e0) (yS rfl (lb_ f.v O_29 e0 a R2) QSn))))))) ?_)
 refine Lc1 rfl ?_
 refine Lk wn (yCall FN_116 (a1 e0)) (sparseref01_trim_ok s n a) ?_
 rintro _ w ⟨E,rfl,a⟩
 refine ⟨_,rfl,?_⟩
 refine Dn [] [0,1,2,3,4] [11] (Rn (yS rfl (yFb FL_31_0 e0) (yS rfl (lb_ (.bool c) O_4 e0 a R4) (yS rfl (yFb FL_31_0 e0) (yS rfl (lb_ (.bool d) O_4 e0 a R3) (yS rfl (yneb (by kernel_rfl) e0 e0) QSn))))) ?_)
 refine Lc1 rfl ?_
 replace a:=((a.k17).fz).fz
 refine Lk wn (yCall FN_115 (a2 e0 e0)) (sparseref01_mulMag_ok t F1 F0 a) ?_
 rintro _ w ⟨F,rfl,a⟩
 refine ⟨_,rfl,?_⟩
 refine Dn [] [0,1,2,3,4] [12] (Rn (yS rfl (yFb FL_31_0 e0) (yS rfl (lb_ (.bool c) O_4 e0 a R3) (yS rfl (yFb FL_31_0 e0) (yS rfl (lb_ (.bool d) O_4 e0 a R2) (yS rfl (yneb (by kernel_rfl) e0 e0) QSn))))) ?_)
 refine Lc1 rfl ?_
 replace a:=a.fz
 refine Lk wn (yCall FN_110 (a2 e0 e0)) (sparseref01_make1_ok u F0 a) ?_
 rintro _ w ⟨l,rfl,a⟩
 refine ⟨_,rfl,?_⟩
 refine Dn [] [] [13] (Rn QSn ?_)
 refine Lc1 rfl ?_
 replace a:=a.k17
 refine LT wn (r_stbn (vals':=[.bool k.1,l.v]) (us:=[.bool k.1,l.v]) a ST_31 e0 e0 rfl rfl (one_of rfl) rfl) fun w a=>Dz [] [] (Rn QSn (q _ _ (wp_ret ?_)))
 cases b
 exact o _ _ _ (fin1r Tryz.results86 (rcs2 rfl rfl a R0 ST_31 rfl) ⟨_,rfl,((a.k21).facts (allT (allT (allT allI))))⟩)
theorem sparseref01_Abs_ok {c:Bool} {f:LI} {b:Hdr} {out:Bool×LI} (d:sparseref01_Abs c f=some out) (j:imm (rI .u32) b.v f∈ros) (a:St w0 ros rs w):
  Calls Tryz.prog 72 #[.agg #[.bool c,b.v]] w (fun e w=>∃ (g:Hdr),e=.returned (.agg #[.bool out.1,g.v])∧St w0 ros (row 103 (rI .u32) g.v out.2::rs) w):=by
 refine enterQ Tryz.func72 rfl Tryz.ntmps72 rfl fun Q k=>sR fun _ l=>yBb (r_box (vals:=[.bool c,b.v]) a e0 rfl) fun o w a=>yBb (rAl a ZT_31) fun p w a=>wK l (sR fun _ m=>yY (yFb FL_31_1 e0) (yY (lb_ b.v O_29 e0 a R1) (bE d fun h n d=>?_)))
 refine yC (yCall FN_110 (a2 rfl e0)) (sparseref01_make1_ok n j a) ?_
 rintro _ w ⟨i,rfl,a⟩
 refine ⟨_,rfl,?_⟩
 refine yT (r_stbn (vals':=[.bool h.1,i.v]) (us:=[.bool h.1,i.v]) (a.k17) ST_31 e0 e0 rfl rfl (one_of rfl) rfl) fun w a=>wK m (wp_ret ?_)
 cases d
 exact k _ _ _ (fin1r Tryz.results72 (rcs2 rfl rfl a R0 ST_31 rfl) ⟨_,rfl,(a.k11)⟩)
theorem sparseref01_cmpMag_ok {n z:LI} {h i:Hdr} {out:Int} (d:sparseref01_cmpMag n z=some out) (j:imm (rI .u32) h.v n∈ros) (k:imm (rI .u32) i.v z∈ros) (b:St w0 ros rs w):
  Calls Tryz.prog 143 #[h.v,i.v] w (fun e w=>e=.returned (iV out)∧St w0 ros rs w):=by
 refine enterQ Tryz.func143 rfl Tryz.ntmps143 rfl fun Q m=>sR fun _ K=>Ya (iV 0) rfl (wK K (seqQ fun b7 L A=>sR fun _ N=>Ym h.v e0 (yY (yLen SL_29 e0 b (rdI j)) (Ym i.v e0 (yY (yLen SL_29 e0 b (rdI k)) (yY (yneq e0 e0) ?_))))))
 refine wK N ?_
 rcases iteS d with ⟨o,d⟩ | ⟨o,d⟩
 ·refine condF e0 (nF (dT o)) (wp_skip (L _ _ (seqQ fun b8 O R=>sR fun _ S=>Ym h.v e0 (yY (yLen SL_29 e0 b (rdI j)) (yY (ysub e0 rfl) (Ya (iV (ws .i64 (n.length:Int) 1)) e0 (wK S (blockQ fun B C=>bE d fun D T d=>?_))))))))
  have U:∀ (f:FV) w,St w0 ros rs w→.inl ()=D→B (.exit 0) (fr 41 f) w:=by
   intro f w b ho
   subst ho
   refine C _ _ _ (O _ _ (sR fun _ V=>Ya (iV 0) rfl (wK V (wp_ret ?_))))
   cases d
   exact m _ _ _ (fin1r Tryz.results143 ⟨rfl,rfl⟩ ⟨rfl,b⟩)
  have E:∀ (p:Int) (f:FV) w,f 4=iV p→St w0 ros rs w→.inr p=D→B .ret (fr 41 f) w:=by
   intro p f w W b ho
   subst ho
   refine C _ _ _ (R _ _ _ rfl ?_)
   cases d
   exact m _ _ _ (fin1r Tryz.results143 ⟨rfl,W⟩ ⟨rfl,b⟩)
  refine loopQ (fun s a w=>∃ (g:Int) (f:FV),g=s∧a=fr 41 f∧f 0=h.v∧f 1=i.v∧f 5=iV g∧St w0 ros rs w) T ⟨_,_,rfl,rfl,rfl,rfl,rfl,b⟩ ?_
  rintro _ _ w b9 ⟨g,f,rfl,rfl,q,r,l,b⟩ c t c0 X u
  refine seqQ fun c1 Z a0=>sR fun _ a1=>Ym (iV g) (eh l) (yY (ygeq e0 rfl) (wK a1 ?_))
  refine cIf e0 c (fun a2 c=>?_) fun a2 c=>?_
  ·refine wp_skip (Z _ _ (seqQ fun c2 a3 F=>blockQ fun _ x=>sQ fun _ a4=>bE c fun c3 G c=>bE c fun c4 H c=>dR [0,0,3,7,0,0,48,112,255] [] 0 folM ?_))
   replace b:=b.drew
   refine Dz [0,1,2,3,4,5,6,7,8] [] (yR rfl (m_ h.v (eh q)) (yR rfl (m_ (iV g) (eh l)) (yR rfl (yIa SL_29 e0 e0 b (rdI j) G) (yR rfl (yI O_103 e0 b (rdI j) G) (yR rfl (m_ i.v (eh r)) (yR rfl (m_ (iV g) (eh l)) (yR rfl (yIa SL_29 e0 e0 b (rdI k) H) (yR rfl (yI O_103 e0 b (rdI k) H) (yR rfl (yneq e0 e0) (Rn QSn (a4 _ _ ?_)))))))))))
   rcases iteS c with ⟨y,c⟩ | ⟨y,c⟩
   ·refine condF e0 (nF (dT y)) (wp_skip (x _ _ _ (a3 _ _ (wR (Ym (iV g) (eh l) (yY (ysub e0 rfl) (Ya (iV (ws .i64 g 1)) e0 (wN ?_))))))))
    cases c
    exact X _ _ _ rfl ⟨_,_,rfl,rfl,q,r,rfl,b⟩
   ·refine condT e0 (nT (dF y)) (seqQ fun c6 a5 a6=>sQ fun _ a7=>bE c fun c7 I c=>bE c fun c8 J c=>dR [0,0,3,7,0,0,48,112,255] [] 0 folM ?_)
    replace b:=b.drew
    refine Dz [0,1,2,3,4,5,6,7,8] [] (yR rfl (m_ h.v (eh q)) (yR rfl (m_ (iV g) (eh l)) (yR rfl (yIa SL_29 e0 e0 b (rdI j) I) (yR rfl (yI O_103 e0 b (rdI j) I) (yR rfl (m_ i.v (eh r)) (yR rfl (m_ (iV g) (eh l)) (yR rfl (yIa SL_29 e0 e0 b (rdI k) J) (yR rfl (yI O_103 e0 b (rdI k) J) (yR rfl (ylss e0 e0) (Rn QSn (a7 _ _ ?_)))))))))))
    refine cIf e0 c (fun a8 c=>?_) fun a8 c=>?_
    ·refine sR fun _ a9=>Ya (iV (-1)) rfl (wK a9 (wp_ret (a6 _ _ _ rfl (x _ _ _ (F _ _ _ rfl ?_)))))
     cases c
     exact u _ _ _ _ rfl rfl (E _ _ _ rfl b (t _ rfl))
    ·refine wp_skip (a5 _ _ (sR fun _ b0=>Ya (iV 1) rfl (wK b0 (wp_ret (x _ _ _ (F _ _ _ rfl ?_))))))
     cases c
     exact u _ _ _ _ rfl rfl (E _ _ _ rfl b (t _ rfl))
  ·refine wp_exit (a0 _ _ _ rfl ?_)
   cases c
   exact u _ _ _ _ rfl rfl (U _ _ b (t _ rfl))
 ·refine condT e0 (nT (dF o)) (seqQ fun c9 b1 b2=>sR fun _ b3=>Ym h.v e0 (yY (yLen SL_29 e0 b (rdI j)) (Ym i.v e0 (yY (yLen SL_29 e0 b (rdI k)) (yY (ylss e0 e0) (wK b3 ?_))))))
  refine cIf e0 d (fun b4 d=>?_) fun b4 d=>?_
  ·refine sR fun _ b5=>Ya (iV (-1)) rfl (wK b5 (wp_ret (b2 _ _ _ rfl (A _ _ _ rfl ?_))))
   cases d
   exact m _ _ _ (fin1r Tryz.results143 ⟨rfl,rfl⟩ ⟨rfl,b⟩)
  ·refine wp_skip (b1 _ _ (sR fun _ b6=>Ya (iV 1) rfl (wK b6 (wp_ret (A _ _ _ rfl ?_)))))
   cases d
   exact m _ _ _ (fin1r Tryz.results143 ⟨rfl,rfl⟩ ⟨rfl,b⟩)
theorem sparseref01_shl_ok {y:LI} {k:Int} {m:Hdr} {out:LI} (g:sparseref01_shl y k=some out) (q:imm (rI .u32) m.v y∈ros) (b:St w0 ros rs w):
  Calls Tryz.prog 158 #[m.v,iV k] w (fun e w=>∃ (z:Hdr),e=.returned (z.v)∧St w0 ros (row 103 (rI .u32) z.v out::rs) w):=by
 refine enterQ Tryz.func158 rfl Tryz.ntmps158 rfl fun Q E=>sR fun _ F=>Ya hnil.v rfl (wK F (sR fun _ G=>Ym (iV k) e0 (yY (yquoc e0 rfl (by decide)) (bE g fun b4 H g=>yH (rMk b SL_29 e0 H) fun I w b=>Ya I.v e0 ?_))))
 refine wK G (sR fun _ J=>Ya (.int .u64 0) rfl (wK J (sQ fun _ K=>sR fun _ L=>Ya (iV 0) rfl (wK L (blockQ fun N O=>?_)))))
 refine bE g fun R S g=>?_
 have T:∀ (r:LI) (h:Int) (o:Hdr) (f:FV) w,f 5=o.v→f 6=.int .u64 h→St w0 ros (row 103 (rI .u32) o.v r::rs) w→(r,h)=R→N (.exit 0) (fr 39 f) w:=by
  intro r h o f w U V b ho
  subst ho
  refine O _ _ _ (K _ _ (sR fun _ W=>Ym o.v (eh U) (Ym (.int .u64 h) (eh V) (yY (ycv (k':=.u32) (by kernel_rfl) (by kernel_rfl) e0) (yH (rLt (n:=1) (l:=[wc .u32 h]) b SL_29 [.int .u32 (wc .u32 h)] (bp1 e0) rfl rfl (mks1 (cs:=[.int .u32 (wc .u32 h)]) rfl mkI mks0)) fun b5 w b=>bE g fun b6 X g=>yH (rAp (b.k17) SL_29 e0 e0 rO1 X) fun Z w b=>Ya Z.v e0 (wN ?_))))))
  refine W _ _ (wp_ret ?_)
  cases g
  exact E _ _ _ (fin1r Tryz.results158 ⟨rfl,rfl⟩ ⟨_,rfl,(b.k18)⟩)
 refine loopQ (fun s a w=>∃ (t:LI) (c i:Int) (f:FV) (p:Hdr),(t,c,i)=s∧a=fr 39 f∧f 0=m.v∧f 1=iV k∧f 5=p.v∧f 6=.int .u64 c∧f 7=iV i∧St w0 ros (row 103 (rI .u32) p.v t::rs) w) S ⟨_,_,_,_,_,rfl,rfl,rfl,rfl,rfl,rfl,rfl,b⟩ ?_
 rintro _ _ w b7 ⟨t,c,i,f,p,rfl,rfl,u,A,B,C,x,b⟩ d a0 b8 a1 a2
 refine seqQ fun b9 a3 a4=>sR fun _ a5=>Ym (iV i) (eh x) (Ym m.v (eh u) (yY (yLen SL_29 e0 b (rdI q)) (yY (ylss e0 e0) (wK a5 ?_))))
 refine cIf e0 d (fun a6 d=>?_) fun a6 d=>?_
 ·refine wp_skip (a3 _ _ (sQ fun _ a7=>blockQ fun _ a8=>sR fun _ a9=>Ym (.int .u64 c) (eh C) (Ym m.v (eh u) (Ym (iV i) (eh x) (bE d fun c0 D d=>yY (yIa SL_29 e0 e0 b (rdI q) D) (yY (yI O_103 e0 b (rdI q) D) (yY (ycv (k':=.u64) (by kernel_rfl) (by kernel_rfl) e0) (Ym (iV k) (eh A) ?_))))))))
  refine yY (yremc e0 rfl (by decide)) (bE d fun j b0 d=>yY (yshl e0 e0 b0) (yY (yor e0 e0) (Ya (.int .u64 (wor .u64 c j)) e0 (wK a9 (sR fun _ b1=>Ym p.v (eh B) (Ym (.int .u64 (wor .u64 c j)) e0 (yY (ycv (k':=.u32) (by kernel_rfl) (by kernel_rfl) e0) (yH (rLt (n:=1) (l:=[wc .u32 (wor .u64 c j)]) b SL_29 [.int .u32 (wc .u32 (wor .u64 c j))] (bp1 e0) rfl rfl (mks1 (cs:=[.int .u32 (wc .u32 (wor .u64 c j))]) rfl mkI mks0)) fun c1 w b=>?_))))))))
  refine bE d fun c2 b2 d=>yH (rAp (b.k17) SL_29 e0 e0 rO1 b2) fun b3 w b=>Ya b3.v e0 (wK b1 (wR (Ym (.int .u64 (wor .u64 c j)) e0 (yY (yshrc e0 rfl) (Ya (.int .u64 (wsrc .u64 (wor .u64 c j) 32)) e0 (wN (a8 _ _ _ (a7 _ _ (wR ?_)))))))))
  refine Ym (iV i) (eh x) (yY (yadd e0 rfl) (Ya (iV (wa .i64 i 1)) e0 (wN ?_)))
  cases d
  exact a1 _ _ _ rfl ⟨_,_,_,_,_,rfl,rfl,u,A,rfl,rfl,rfl,(b.k18)⟩
 ·refine wp_exit (a4 _ _ _ rfl ?_)
  cases d
  exact a2 _ _ _ _ rfl rfl (T _ _ _ _ _ B C b (a0 _ rfl))
theorem sparseref01_take_ok {p h:LI} {m q:Int} {d r:Hdr} {out:LI×Bool} (c:sparseref01_take p h m q=some out) (D:imm (rI .u32) r.v h∈ros) (b:St w0 ros (row 103 (rI .u32) d.v p::rs) w):
  Calls Tryz.prog 159 #[d.v,r.v,iV m,.int .u64 q] w (fun e w=>e=.returned (.bool out.2)∧St w0 ros (row 103 (rI .u32) d.v out.1::rs) w):=by
 refine enterQ Tryz.func159 rfl Tryz.ntmps159 rfl fun Q R=>sR fun _ a8=>Ya (.bool false) rfl (wK a8 (sR fun _ a9=>Ym r.v e0 (yY (yLen SL_29 e0 b (rdI D)) (Ya (iV (h.length:Int)) e0 (wK a9 (sQ fun _ b0=>?_))))))
 refine wR (Ym (iV (h.length:Int)) e0 (yY (yadd e0 rfl) (bE c fun h0 b1 c=>yH (rMk b SL_29 e0 b1) fun i w b=>Ya i.v e0 (wK b0 (sR fun _ b2=>Ya (.int .u64 0) rfl (Ya (.int .u64 0) rfl (wN ?_)))))))
 refine b2 _ _ (sQ fun _ b3=>sR fun _ b4=>Ya (iV 0) rfl (wK b4 (blockQ fun b5 b6=>bE c fun b7 b8 c=>?_)))
 have b9:∀ (A:LI) (B:Int) (f:FV) w,f 0=d.v→f 2=iV m→f 9=iV (h.length:Int)→f 10=i.v→f 11=.int .u64 B→St w0 ros (row 103 (rI .u32) d.v p::row 103 (rI .u32) i.v A::rs) w→(A,B)=b7→b5 (.exit 0) (fr 75 f) w:=by
  intro A B f w c0 c1 c2 c3 c4 b ho
  subst ho
  refine b6 _ _ _ (b3 _ _ (seqQ fun h1 c5 c6=>sR fun _ c7=>Ym (.int .u64 B) (eh c4) (yY (yneq e0 rfl) (wK c7 ?_))))
  rcases iteS c with ⟨E,c⟩ | ⟨E,c⟩
  ·refine condF e0 (nF (dT E)) (wp_skip (c5 _ _ (sQ fun _ c8=>sR fun _ c9=>Ya (iV 0) rfl (wK c9 (blockQ fun d0 d1=>bE c fun d2 d3 c=>?_)))))
   have d4:∀ (F:LI) (f:FV) w,St w0 ros (row 103 (rI .u32) d.v F::rs) w→F=d2→d0 (.exit 2) (fr 75 f) w:=by
    intro F f w b ho
    subst ho
    refine d1 _ _ _ (c8 _ _ (sR fun _ d5=>Ya (.bool true) rfl (wK d5 (wp_ret ?_))))
    cases c
    exact R _ _ _ (fin1r Tryz.results159 ⟨rfl,rfl⟩ ⟨rfl,b⟩)
   refine loopQ (fun s a w=>∃ (G:LI) (o:Int) (f:FV),(G,o)=s∧a=fr 75 f∧f 0=d.v∧f 2=iV m∧f 9=iV (h.length:Int)∧f 10=i.v∧f 15=iV o∧St w0 ros (row 103 (rI .u32) d.v G::row 103 (rI .u32) i.v A::rs) w) d3 ⟨_,_,_,rfl,rfl,c0,c1,c2,c3,rfl,b⟩ ?_
   rintro _ _ w h3 ⟨G,o,f,rfl,rfl,S,T,U,V,C,b⟩ n d6 h5 d7 d8
   refine seqQ fun h6 d9 e1=>sR fun _ e2=>Ym (iV o) (eh C) (Ym (iV (h.length:Int)) (eh U) (yY (yleq e0 e0) (wK e2 ?_)))
   refine cIf e0 n (fun e3 n=>?_) fun e3 n=>?_
   ·refine wp_skip (d9 _ _ (sQ fun _ e4=>blockQ fun _ e5=>wR (Ym d.v (eh S) (Ym (iV o) (eh C) (Ym (iV m) (eh T) (yY (yadd e0 e0) (Ym i.v (eh V) (Ym (iV o) (eh C) (bE n fun e6 W n=>yY (yIa SL_29 e0 e0 b rO1 W) (yY (yI O_103 e0 b rO1 W) ?_))))))))))
    refine bE n fun h8 X n=>yY (yIs SL_29 e0 e0 b rO0 X) (yT (r_sti (cs:=[.int .u32 e6]) b O_103 rfl e0 e0 rfl mkI X) fun w b=>wN (e5 _ _ _ (e4 _ _ (wR (Ym (iV o) (eh C) (yY (yadd e0 rfl) (Ya (iV (wa .i64 o 1)) e0 (wN ?_))))))))
    cases n
    exact d7 _ _ _ rfl ⟨_,_,_,rfl,rfl,S,T,U,V,rfl,b⟩
   ·refine wp_exit (e1 _ _ _ rfl ?_)
    cases n
    exact d8 _ _ _ _ rfl rfl (d4 _ _ _ (b.k18) (d6 _ rfl))
  ·refine condT e0 (nT (dF E)) (sR fun _ e7=>Ya (.bool false) rfl (wK e7 (wp_ret (c6 _ _ _ rfl ?_))))
   cases c
   exact R _ _ _ (fin1r Tryz.results159 ⟨rfl,rfl⟩ ⟨rfl,(b.k18)⟩)
 refine loopQ (fun s a w=>∃ (t:LI) (j u g:Int) (f:FV),(t,j,u,g)=s∧a=fr 75 f∧f 0=d.v∧f 1=r.v∧f 2=iV m∧f 3=.int .u64 q∧f 9=iV (h.length:Int)∧f 10=i.v∧f 11=.int .u64 j∧f 12=.int .u64 u∧f 13=iV g∧St w0 ros (row 103 (rI .u32) d.v p::row 103 (rI .u32) i.v t::rs) w) b8 ⟨_,_,_,_,_,rfl,rfl,rfl,rfl,rfl,rfl,rfl,rfl,rfl,rfl,rfl,(b.k17)⟩ ?_
 rintro _ _ w e8 ⟨t,j,u,g,f,rfl,rfl,H,I,J,K,x,L,N,Z,y,b⟩ k e9 h9 f0 f1
 refine seqQ fun i0 f2 f3=>sR fun _ f4=>Ym (iV g) (eh y) (Ym (iV (h.length:Int)) (eh x) (yY (yleq e0 e0) (wK f4 ?_)))
 refine cIf e0 k (fun f5 k=>?_) fun f5 k=>?_
 ·refine wp_skip (f2 _ _ (sQ fun _ f6=>blockQ fun _ f7=>sQ fun f8 f9=>sR fun _ g0=>Ym (iV g) (eh y) (Ym (iV (h.length:Int)) (eh x) (yY (ylss e0 e0) (wK g0 ?_)))))
  have a0:∀ (l:Int) (f:FV) w,f 0=d.v→f 1=r.v→f 2=iV m→f 3=.int .u64 q→f 9=iV (h.length:Int)→f 10=i.v→f 11=.int .u64 j→f 12=.int .u64 l→f 13=iV g→St w0 ros (row 103 (rI .u32) d.v p::row 103 (rI .u32) i.v t::rs) w→sparseref01_take_j5 p g m t j l=some e8→f8 .normal (fr 75 f) w:=by
   intro l f w a1 g1 a2 g2 g3 a3 g4 a4 O b c
   refine f9 _ _ (sR fun _ g5=>Ym d.v (eh a1) (Ym (iV g) (eh O) (Ym (iV m) (eh a2) (yY (yadd e0 e0) (bE c fun z a5 c=>yY (yIa SL_29 e0 e0 b rO0 a5) (yY (yI O_103 e0 b rO0 a5) (yY (ycv (k':=.u64) (by kernel_rfl) (by kernel_rfl) e0) (Ym (.int .u64 j) (eh g4) (yY (ysub e0 e0) (Ym (.int .u64 l) (eh a4) ?_))))))))))
   refine yY (yand e0 rfl) (yY (ysub e0 e0) (Ya (.int .u64 (ws .u64 (ws .u64 (wc .u64 z) j) (wand .u64 l 4294967295))) e0 (wK g5 (sR fun _ g6=>Ym (.int .u64 l) (eh a4) (yY (yshrc e0 rfl) (Ya (.int .u64 (wsrc .u64 l 32)) e0 (wK g6 (sR fun _ g7=>?_))))))))
   refine Ym i.v (eh a3) (Ym (iV g) (eh O) (Ym (.int .u64 (ws .u64 (ws .u64 (wc .u64 z) j) (wand .u64 l 4294967295))) e0 (yY (ycv (k':=.u32) (by kernel_rfl) (by kernel_rfl) e0) (bE c fun i1 a6 c=>yY (yIs SL_29 e0 e0 b rO1 a6) (yT (r_sti (cs:=[.int .u32 (wc .u32 (ws .u64 (ws .u64 (wc .u64 z) j) (wand .u64 l 4294967295)))]) (b.k17) O_103 rfl e0 e0 rfl mkI a6) fun w b=>wK g7 (wR (Ym (.int .u64 (ws .u64 (ws .u64 (wc .u64 z) j) (wand .u64 l 4294967295))) e0 (yY (yshrc e0 rfl) (Ya (.int .u64 (wsrc .u64 (ws .u64 (ws .u64 (wc .u64 z) j) (wand .u64 l 4294967295)) 63)) e0 ?_)))))))))
   refine wN (f7 _ _ _ (f6 _ _ (wR (Ym (iV g) (eh O) (yY (yadd e0 rfl) (Ya (iV (wa .i64 g 1)) e0 (wN ?_)))))))
   cases c
   exact f0 _ _ _ rfl ⟨_,_,_,_,_,rfl,rfl,a1,g1,a2,g2,g3,a3,rfl,rfl,rfl,(b.k17)⟩
  refine cIf e0 k (fun g8 k=>?_) fun g8 k=>?_
  ·exact wR (Ym (.int .u64 u) (eh Z) (Ym (.int .u64 q) (eh K) (Ym r.v (eh I) (Ym (iV g) (eh y) (bE k fun g9 a7 k=>yY (yIa SL_29 e0 e0 b (rdI D) a7) (yY (yI O_103 e0 b (rdI D) a7) (yY (ycv (k':=.u64) (by kernel_rfl) (by kernel_rfl) e0) (yY (ymul e0 e0) (yY (yadd e0 e0) (Ya (.int .u64 (wa .u64 u (wm .u64 q (wc .u64 g9)))) e0 (wN (a0 _ _ _ H I J K x L N rfl y b k))))))))))))
  ·exact wp_skip (a0 _ _ _ H I J K x L N Z y b k)
 ·refine wp_exit (f3 _ _ _ rfl ?_)
  cases k
  exact f1 _ _ _ _ rfl rfl (b9 _ _ _ _ H J x L N b (e9 _ rfl))
theorem sparseref01_shr_ok {D:LI} {c:Int} {i:Hdr} {out:LI×Bool} (g:sparseref01_shr D c=some out) (p:imm (rI .u32) i.v D∈ros) (b:St w0 ros rs w):
  Calls Tryz.prog 160 #[i.v,iV c] w (fun e w=>∃ (a3:Hdr),e=.returned (.tuple #[a3.v,.bool out.2])∧St w0 ros (row 103 (rI .u32) a3.v out.1::rs) w):=by
 refine enterQ Tryz.func160 rfl Tryz.ntmps160 rfl fun Q c9=>sR fun _ d0=>Ya hnil.v rfl (Ya (.bool false) rfl (wK d0 (sR fun _ d1=>Ya (.bool false) rfl (wK d1 (sQ fun _ d2=>sQ fun _ d3=>?_)))))
 refine wR (Ya (iV 0) rfl (wK d3 (blockQ fun d4 d5=>bE g fun d6 d7 g=>?_)))
 have d8:∀ (K:Bool) (f:FV) w,f 0=i.v→f 1=iV c→f 6=.bool K→St w0 ros rs w→K=d6→d4 (.exit 0) (fr 85 f) w:=by
  intro K f w d9 L e1 b ho
  subst ho
  refine d5 _ _ _ (d2 _ _ (sR fun _ e2=>Ya hnil.v rfl (wK e2 (sR fun _ e3=>Ym (iV c) (eh L) (yY (yremc e0 rfl (by decide)) (Ya (iV (wrc c 32)) e0 (wK e3 ?_)))))))
  refine sQ fun _ e4=>sR fun _ e5=>Ym (iV c) (eh L) (yY (yquoc e0 rfl (by decide)) (Ya (iV (wqc .i64 c 32)) e0 (wK e5 (blockQ fun e6 e7=>bE g fun e8 e9 g=>?_))))
  have f0:∀ (E:Bool) (N:LI) (F:Hdr) (f:FV) w,f 6=.bool E→f 8=F.v→St w0 ros (row 103 (rI .u32) F.v N::rs) w→(E,N)=e8→e6 (.exit 2) (fr 85 f) w:=by
   intro E N F f w f1 f2 b ho
   subst ho
   refine e7 _ _ _ (e4 _ _ (sR fun _ f3=>Ym F.v (eh f2) (Ym (.bool E) (eh f1) (Ya F.v e0 (Ya (.bool E) e0 (wK f3 (wp_ret ?_)))))))
   cases g
   exact c9 _ _ _ (fin2r Tryz.results160 ⟨rfl,rfl⟩ ⟨rfl,rfl⟩ ⟨_,rfl,b⟩)
  replace b:=b.rowNh 103 (rI .u32)
  refine loopQ (fun s a w=>∃ (z:Bool) (t:LI) (h:Int) (f:FV) (q:Hdr),(z,t,h)=s∧a=fr 85 f∧f 0=i.v∧f 1=iV c∧f 6=.bool z∧f 8=q.v∧f 9=iV (wrc c 32)∧f 10=iV h∧St w0 ros (row 103 (rI .u32) q.v t::rs) w) e9 ⟨_,_,_,_,_,rfl,rfl,d9,L,e1,rfl,rfl,rfl,b⟩ ?_
  rintro _ _ w a4 ⟨z,t,h,f,q,rfl,rfl,A,a5,O,R,a6,B,b⟩ k f4 k7 f5 f6
  refine seqQ fun k8 f7 f8=>sR fun _ f9=>Ym (iV h) (eh B) (Ym i.v (eh A) (yY (yLen SL_29 e0 b (rdI p)) (yY (ylss e0 e0) (wK f9 ?_))))
  refine cIf e0 k (fun g0 k=>?_) fun g0 k=>?_
  ·refine wp_skip (f7 _ _ (sQ fun _ g1=>blockQ fun _ g2=>sR fun _ g3=>Ym i.v (eh A) (Ym (iV h) (eh B) (bE k fun S a7 k=>yY (yIa SL_29 e0 e0 b (rdI p) a7) (yY (yI O_103 e0 b (rdI p) a7) (yY (ycv (k':=.u64) (by kernel_rfl) (by kernel_rfl) e0) (Ya (.int .u64 (wc .u64 S)) e0 (wN ?_))))))))
   refine g3 _ _ (sQ fun g4 g5=>sR fun _ g6=>Ym (iV h) (eh B) (yY (yadd e0 rfl) (Ym i.v (eh A) (yY (yLen SL_29 e0 b (rdI p)) (yY (ylss e0 e0) (wK g6 ?_))))))
   have a8:∀ (u:Int) (f:FV) w,f 0=i.v→f 1=iV c→f 6=.bool z→f 8=q.v→f 9=iV (wrc c 32)→f 10=iV h→f 11=.int .u64 u→St w0 ros (row 103 (rI .u32) q.v t::rs) w→sparseref01_shr_j16 h c D t z u=some a4→g4 .normal (fr 85 f) w:=by
    intro u f w T H a9 b0 U G b1 b g
    refine g5 _ _ (sQ fun g7 g8=>sQ fun _ g9=>bE g fun V r g=>?_)
    refine joinN (n:=85) (fun f w=>f 0=i.v∧f 1=iV c∧f 6=.bool z∧f 8=q.v∧f 9=iV (wrc c 32)∧f 10=iV h∧f 11=.int .u64 u∧f 75=.bool V∧St w0 ros (row 103 (rI .u32) q.v t::rs) w) (fun b2=>?_) ?_
    ·rcases iteS r with ⟨d,r⟩ | ⟨d,r⟩
     ·refine bE r fun k9 b3 r=>bE r fun l0 h0 r=>?_
      have h1:=someI r
      refine dR [0,0,2,7,15,31,31,127,255,31,543,1567,4095,8191,16383] [] 0 folM ?_
      replace b:=b.drew
      refine Dz [0,1,2,3,4,5,6,7,8,9,10,11,12,13,14] [] (yR rfl (m_ (iV h) (eh G)) (yR rfl (m_ (iV c) (eh H)) (yR rfl (yquoc e0 rfl (by decide)) (yR rfl (yeql e0 e0) (yR rfl (m_ (.bool (decide (h=(wqc .i64 c 32)))) e0) (Ry rfl rfl (wG (dT d)) (m_ i.v (eh T)) (Ry rfl rfl (wG (dT d)) (m_ (iV h) (eh G)) (Ry rfl rfl (wG (dT d)) (yIa SL_29 e0 e0 b (rdI p) b3) (Ry rfl rfl (wG (dT d)) (yI O_103 e0 b (rdI p) b3) (Ry rfl rfl (wG (dT d)) (m_ (iV (wrc c 32)) (eh U)) (Ry rfl rfl (wG (dT d)) (yshl rfl e0 h0) (Ry rfl rfl (wG (dT d)) (ysub e0 rfl) (Ry rfl rfl (wG (dT d)) (yand e0 e0) ?_)))))))))))))
      exact Ry rfl rfl (wG (dT d)) (yneq e0 rfl) (yR rfl (pt_ (.bool V) e0 (dT d) (eqv h1 e0)) (Rn QSn (b2 _ _ ⟨T,H,a9,b0,U,G,b1,rfl,b⟩)))
     ·have h3:=someI r
      refine dR [0,0,2,7,15,31,31,127,255,31,543,1567,4095,8191,16383] [] 0 folM ?_
      replace b:=b.drew
      refine Dz [0,1,2,3,4,5,6,7,8,9,10,11,12,13,14] [] (yR rfl (m_ (iV h) (eh G)) (yR rfl (m_ (iV c) (eh H)) (yR rfl (yquoc e0 rfl (by decide)) (yR rfl (yeql e0 e0) (yR rfl (m_ (.bool (decide (h=(wqc .i64 c 32)))) e0) (Rx rfl rfl (wX (dF d)) (Rx rfl rfl (wX (dF d)) (Rx rfl rfl (wX (dF d)) (Rx rfl rfl (wX (dF d)) (Rx rfl rfl (wX (dF d)) (Rx rfl rfl (wX (dF d)) (Rx rfl rfl (wX (dF d)) (Rx rfl rfl (wX (dF d)) ?_)))))))))))))
      exact Rx rfl rfl (wX (dF d)) (yR rfl (pf_ (.bool V) e0 (dF d) (eqv h3 rfl)) (Rn QSn (b2 _ _ ⟨T,H,a9,b0,U,G,b1,rfl,b⟩)))
    rintro f w ⟨b4,b5,h4,b6,b7,b8,b9,h5,b⟩
    refine g9 _ _ ?_
    have c0:∀ (W:Bool) (f:FV) w,f 0=i.v→f 1=iV c→f 6=.bool W→f 8=q.v→f 9=iV (wrc c 32)→f 10=iV h→f 11=.int .u64 u→St w0 ros (row 103 (rI .u32) q.v t::rs) w→sparseref01_shr_j20 u c t h W=some a4→g7 .normal (fr 85 f) w:=by
     intro W f w h6 h7 h8 h9 c1 i0 i1 b g
     refine g8 _ _ (wR (Ym q.v (eh h9) (Ym (.int .u64 u) (eh i1) (Ym (iV (wrc c 32)) (eh c1) (bE g fun X i2 g=>yY (yshr e0 e0 i2) (yY (ycv (k':=.u32) (by kernel_rfl) (by kernel_rfl) e0) (yH (rLt (n:=1) (l:=[wc .u32 X]) b SL_29 [.int .u32 (wc .u32 X)] (bp1 e0) rfl rfl (mks1 (cs:=[.int .u32 (wc .u32 X)]) rfl mkI mks0)) fun l1 w b=>bE g fun l2 i3 g=>yH (rAp (b.k17) SL_29 e0 e0 rO1 i3) fun i4 w b=>Ya i4.v e0 ?_)))))))
     refine wN (g2 _ _ _ (g1 _ _ (wR (Ym (iV h) (eh i0) (yY (yadd e0 rfl) (Ya (iV (wa .i64 h 1)) e0 (wN ?_)))))))
     cases g
     exact f5 _ _ _ rfl ⟨_,_,_,_,_,rfl,rfl,h6,h7,h8,rfl,c1,rfl,(b.k18)⟩
    refine cB (eh h5) g (fun i5 g=>?_) fun i5 g=>?_
    ·exact wR (Ya (.bool true) rfl (wN (c0 _ _ _ b4 b5 rfl b6 b7 b8 b9 b g)))
    ·exact wp_skip (c0 _ _ _ b4 b5 h4 b6 b7 b8 b9 b g)
   refine cIf e0 k (fun i6 k=>?_) fun i6 k=>?_
   ·exact wR (Ym (.int .u64 (wc .u64 S)) e0 (Ym i.v (eh A) (Ym (iV h) (eh B) (yY (yadd e0 rfl) (bE k fun i7 c2 k=>yY (yIa SL_29 e0 e0 b (rdI p) c2) (yY (yI O_103 e0 b (rdI p) c2) (yY (ycv (k':=.u64) (by kernel_rfl) (by kernel_rfl) e0) (yY (yshlc e0 rfl) (yY (yor e0 e0) (Ya (.int .u64 (wor .u64 (wc .u64 S) (wslc .u64 (wc .u64 i7) 32))) e0 (wN (a8 _ _ _ A a5 O R a6 B rfl b k))))))))))))
   ·exact wp_skip (a8 _ _ _ A a5 O R a6 B rfl b k)
  ·refine wp_exit (f8 _ _ _ rfl ?_)
   cases k
   exact f6 _ _ _ _ rfl rfl (f0 _ _ _ _ _ O R b (f4 _ rfl))
 refine loopQ (fun s a w=>∃ (C:Bool) (j:Int) (f:FV),(C,j)=s∧a=fr 85 f∧f 0=i.v∧f 1=iV c∧f 6=.bool C∧f 7=iV j∧St w0 ros rs w) d7 ⟨_,_,_,rfl,rfl,rfl,rfl,rfl,rfl,b⟩ ?_
 rintro _ _ w l3 ⟨C,j,f,rfl,rfl,Z,a0,c3,I,b⟩ x i8 l4 i9 j0
 refine seqQ fun l5 j1 j2=>sR fun _ j3=>Ym (iV j) (eh I) (Ym (iV c) (eh a0) (yY (yquoc e0 rfl (by decide)) (yY (ylss e0 e0) (Ym (.bool (decide (j < (wqc .i64 c 32)))) e0 ?_))))
 refine joinW 5 (fun f w=>f 0=i.v∧f 1=iV c∧f 6=.bool C∧f 7=iV j∧f 21=.bool ((decide (j < (wqc .i64 c 32))) && (decide (j < (D.length:Int))))∧St w0 ros rs w) (fun c4=>?_) ?_
 ·rcases Bool.eq_false_or_eq_true (decide (j < (wqc .i64 c 32))) with m | m
  ·exact yG m (m_ (iV j) (eh I)) (yG m (m_ i.v (eh Z)) (yG m (yLen SL_29 e0 b (rdI p)) (yG m (ylss e0 e0) (yY (pt_ (.bool (decide (j < (D.length:Int)))) e0 m e0) (c4 _ _ ⟨Z,a0,c3,I,(congrArg Value.bool (andT m)),b⟩)))))
  ·exact gN m (gN m (gN m (gN m (yY (pf_ (.bool false) e0 m rfl) (c4 _ _ ⟨Z,a0,c3,I,(congrArg Value.bool (andF m)),b⟩)))))
 rintro f w ⟨J,a1,c5,a2,j4,b⟩
 refine wK j3 (cB (eh j4) x (fun j5 x=>?_) fun j5 x=>?_)
 ·refine wp_skip (j1 _ _ (sQ fun _ j6=>blockQ fun _ j7=>wR (Ym (.bool C) (eh c5) (Ym (.bool C) e0 (bE x fun c6 y x=>?_)))))
  refine joinW 6 (fun f w=>f 0=i.v∧f 1=iV c∧f 7=iV j∧f 31=.bool c6∧St w0 ros rs w) (fun c7=>?_) ?_
  ·rcases iteS y with ⟨o,y⟩ | ⟨o,y⟩
   ·refine gN o (gN o (gN o (gN o (gN o (yY (pt_ (.bool true) e0 o rfl) ?_)))))
    cases y
    exact c7 _ _ ⟨J,a1,a2,rfl,b⟩
   ·refine yG (bfalse o) (m_ i.v (eh J)) (yG (bfalse o) (m_ (iV j) (eh a2)) (bE y fun j8 c8 y=>yG (bfalse o) (yIa SL_29 e0 e0 b (rdI p) c8) (yG (bfalse o) (yI O_103 e0 b (rdI p) c8) (yG (bfalse o) (yneq e0 rfl) (yY (pf_ (.bool (!(decide (j8=0)))) e0 (bfalse o) e0) ?_)))))
    cases y
    exact c7 _ _ ⟨J,a1,a2,rfl,b⟩
  rintro f w ⟨j9,k0,k5,k6,b⟩
  refine Ya (.bool c6) (eh k6) (wN (j7 _ _ _ (j6 _ _ (wR (Ym (iV j) (eh k5) (yY (yadd e0 rfl) (Ya (iV (wa .i64 j 1)) e0 (wN ?_))))))))
  cases x
  exact i9 _ _ _ rfl ⟨_,_,_,rfl,rfl,j9,k0,rfl,rfl,b⟩
 ·refine wp_exit (j2 _ _ _ rfl ?_)
  cases x
  exact j0 _ _ _ _ rfl rfl (d8 _ _ _ J a1 c5 b (i8 _ rfl))
theorem sparseref01_divMag_ok {A d:LI} {o p:Hdr} {out:LI×LI} (c:sparseref01_divMag A d=some out) (r:imm (rI .u32) o.v A∈ros) (u:imm (rI .u32) p.v d∈ros) (b:St w0 ros rs w):
  Calls Tryz.prog 145 #[o.v,p.v] w (fun e w=>∃ (X Z:Hdr),e=.returned (.tuple #[X.v,Z.v])∧St w0 (imm (rI .u32) Z.v out.2::ros) (row 103 (rI .u32) X.v out.1::rs) w):=by
 refine enterQ Tryz.func145 rfl Tryz.ntmps145 rfl fun Q a0=>sR fun _ k1=>Ya hnil.v rfl (Ya hnil.v rfl (wK k1 (seqQ fun j9 c1 c2=>sR fun _ c3=>Ym o.v e0 (Ym p.v e0 (bE c fun k0 c4 c=>yC (yCall FN_143 (a2 e0 e0)) (sparseref01_cmpMag_ok c4 r u b) ?_)))))
 rintro _ w ⟨rfl,b⟩
 refine ⟨_,rfl,?_⟩
 refine yY (ylss e0 rfl) (wK c3 ?_)
 refine cIf e0 c (fun c5 c=>?_) fun c5 c=>?_
 ·refine sR fun _ c7=>Ym o.v e0 (Ya hnil.v rfl (Ya o.v e0 (wK c7 (wp_ret (c2 _ _ _ rfl ?_)))))
  cases c
  replace b:=b.rowNh 103 (rI .u32)
  exact a0 _ _ _ (fin2r Tryz.results145 ⟨rfl,rfl⟩ ⟨rfl,rfl⟩ ⟨_,_,rfl,(b.facts (allC r allI))⟩)
 ·refine wp_skip (c1 _ _ (sR fun _ c8=>Ym p.v e0 (yY (yLen SL_29 e0 b (rdI u)) (Ya (iV (d.length:Int)) e0 (wK c8 (sR fun _ c9=>Ym p.v e0 (Ym (iV (d.length:Int)) e0 (yY (ysub e0 rfl) ?_))))))))
  refine bE c fun l0 a3 c=>yY (yIa SL_29 e0 e0 b (rdI u) a3) (yY (yI O_103 e0 b (rdI u) a3) (bE c fun j d0 c=>yC (yCall FN_126 (a1 e0)) (math_bits_LeadingZeros32_ok d0 b) ?_))
  rintro _ w ⟨rfl,b⟩
  refine ⟨_,rfl,?_⟩
  refine Ya (iV j) e0 (wK c9 (sQ fun _ d1=>bE c fun l1 d2 c=>bE c fun l2 d3 c=>bE c fun x F c=>dR [0,0,3,0,0,31,0,127,63,511] [2,5,8,9] 4 folM ?_))
  replace b:=b.drew
  refine Dn [0,1,3,4,6] [] [2] (yR rfl (m_ o.v e0) (yR rfl (m_ (iV j) e0) (yR rfl (m_ p.v e0) (yR rfl (m_ (iV j) e0) (yR rfl (m_ (iV (d.length:Int)) e0) (Rn QSn ?_))))))
  refine Lc1 rfl ?_
  refine Lk wn (yCall FN_158 (a2 e0 e0)) (sparseref01_shl_ok d2 r b) ?_
  rintro _ w ⟨G,rfl,b⟩
  refine ⟨_,rfl,?_⟩
  refine Dn [] [3,4,6] [5] (Rn (yS rfl (m_ p.v e0) (yS rfl (m_ (iV j) e0) (yS rfl (m_ (iV (d.length:Int)) e0) QSn))) ?_)
  refine Lc1 rfl ?_
  refine Lk wn (yCall FN_158 (a2 e0 e0)) (sparseref01_shl_ok d3 u b) ?_
  rintro _ w ⟨k,rfl,b⟩
  refine ⟨_,rfl,?_⟩
  refine Dn [7] [6] [8] ?_
  replace b:=b.fz
  refine yR rfl (ySl (k1:=.i64) SL_29 e0 b (rdI F0) (.inr ⟨rfl,rfl⟩) (.inl (congrArg some e0)) F) ?_
  replace b:=b.sub F0 F
  refine Rn (yS rfl (m_ (iV (d.length:Int)) e0) QSn) ?_
  refine Lc1 rfl ?_
  refine Ly wn (a_ G.v e0) (Dn [] [6,7] [9] (Rn (yS rfl (m_ (iV (d.length:Int)) e0) (yS rfl (ySl (k1:=.i64) SL_29 e0 b (rdI F1) (.inr ⟨rfl,rfl⟩) (.inl (congrArg some e0)) F) QSn)) ?_))
  refine Lc1 rfl ?_
  refine Ly wn (a_ ((subH k 1 0 (d.length:Int)).v) e0) (Dz [] [] (Rn QSn (d1 _ _ (sQ fun d4 d5=>sR fun _ d6=>Ym G.v e0 (yY (yLen SL_29 e0 b rO0) (Ym o.v e0 (yY (yLen SL_29 e0 b (rdI (F_2 r))) (yY (yeql e0 e0) (wK d6 ?_)))))))))
  have a5:∀ (H:LI) (h:Hdr) (f:FV) w,f 0=o.v→f 6=iV (d.length:Int)→f 7=iV j→f 8=h.v→f 9=(subH k 1 0 (d.length:Int)).v→St w0 (imm (rI .u32) (subH k 1 0 (d.length:Int)).v x::ros) (row 103 (rI .u32) h.v H::rs) w→sparseref01_divMag_j1 A d x j H=some out→d4 .normal (fr 109 f) w:=by
   intro H h f w a6 I d7 d8 d9 b c
   refine d5 _ _ (sR fun _ e1=>Ym o.v (eh a6) (yY (yLen SL_29 e0 b (rdI (mtF r))) (Ym (iV (d.length:Int)) (eh I) (yY (ysub e0 e0) (yY (yadd e0 rfl) (bE c fun l3 e2 c=>yH (rMk b SL_29 e0 e2) fun m w b=>Ya m.v e0 (wK e1 ?_)))))))
   refine sQ fun _ e3=>sR fun _ e4=>Ym o.v (eh a6) (yY (yLen SL_29 e0 b (rdI (mtF r))) (Ym (iV (d.length:Int)) (eh I) (yY (ysub e0 e0) (Ya (iV (ws .i64 (A.length:Int) (d.length:Int))) e0 (wK e4 (blockQ fun e5 e6=>bE c fun e7 e8 c=>?_))))))
   have e9:∀ (J K:LI) (f:FV) w,f 7=iV j→f 8=h.v→f 10=m.v→St w0 ros (row 103 (rI .u32) h.v J::row 103 (rI .u32) m.v K::rs) w→(J,K)=e7→e5 (.exit 0) (fr 109 f) w:=by
    intro J K f w f0 f1 f2 b ho
    subst ho
    refine e6 _ _ _ (e3 _ _ (sR fun _ f3=>Ym h.v (eh f1) (bE c fun l4 f4 c=>?_)))
    replace b:=b.fz
    refine yC (yCall FN_116 (a1 e0)) (sparseref01_trim_ok f4 F0 b) ?_
    rintro _ w ⟨l5,rfl,b⟩
    refine ⟨_,rfl,?_⟩
    refine Ym (iV j) (eh f0) (bE c fun L f5 c=>?_)
    replace b:=b.fz
    refine yC (yCall FN_160 (a2 e0 e0)) (sparseref01_shr_ok f5 F0 b) ?_
    rintro _ w ⟨B,rfl,b⟩
    refine ⟨_,rfl,?_⟩
    refine Ym (.tuple #[B.v,.bool L.2]) e0 (yY (x_ B.v e0) (yY (x_ (.bool L.2) e0) (Ya B.v e0 (Ya (.bool L.2) e0 (wK f3 (sR fun _ f6=>Ym m.v (eh f2) (bE c fun l6 f7 c=>?_)))))))
    replace b:=(b.k17).fz
    refine yC (yCall FN_116 (a1 e0)) (sparseref01_trim_ok f7 F0 b) ?_
    rintro _ w ⟨f8,rfl,b⟩
    refine ⟨_,rfl,?_⟩
    refine Ym B.v e0 (bE c fun l7 f9 c=>?_)
    replace b:=(b.k17).fz
    refine yC (yCall FN_116 (a1 e0)) (sparseref01_trim_ok f9 F0 b) ?_
    rintro _ w ⟨g0,rfl,b⟩
    refine ⟨_,rfl,?_⟩
    refine Ya f8.v e0 (Ya g0.v e0 (wK f6 (wp_ret ?_)))
    cases c
    replace b:=b.fz
    exact a0 _ _ _ (fin2r Tryz.results145 ⟨rfl,rfl⟩ ⟨rfl,rfl⟩ ⟨_,_,rfl,(b.facts (allC F0 (allT (allT (allT (allT (allT allI)))))))⟩)
   refine loopQ (fun s a w=>∃ (N y:LI) (i:Int) (f:FV),(N,y,i)=s∧a=fr 109 f∧f 6=iV (d.length:Int)∧f 7=iV j∧f 8=h.v∧f 9=(subH k 1 0 (d.length:Int)).v∧f 10=m.v∧f 11=iV i∧St w0 (imm (rI .u32) (subH k 1 0 (d.length:Int)).v x::ros) (row 103 (rI .u32) h.v N::row 103 (rI .u32) m.v y::rs) w) e8 ⟨_,_,_,_,rfl,rfl,I,d7,d8,d9,rfl,rfl,(b.k17)⟩ ?_
   rintro _ _ w l8 ⟨N,y,i,f,rfl,rfl,C,a7,D,a8,a9,E,b⟩ g g1 l9 g2 g3
   refine seqQ fun m0 g4 g5=>sR fun _ g6=>Ym (iV i) (eh E) (yY (ygeq e0 rfl) (wK g6 ?_))
   refine cIf e0 g (fun g7 g=>?_) fun g7 g=>?_
   ·refine wp_skip (g4 _ _ (sQ fun _ g8=>blockQ fun _ g9=>sQ fun _ h0=>bE g fun b0 b1 g=>bE g fun b2 b3 g=>dR [0,0,0,6,15,31,63,127,0,0,0,1536,3584,7936,16128,32512,65535,131071] [17] 1 folM ?_))
    replace b:=b.drew
    refine Dn [0,1,2,3,4,5,6,7,8,9,10,11,12,13,14,15,16] [] [17] (yR rfl (m_ h.v (eh D)) (yR rfl (m_ (iV i) (eh E)) (yR rfl (m_ (iV (d.length:Int)) (eh C)) (yR rfl (yadd e0 e0) (yR rfl (yIa SL_29 e0 e0 b rO0 b1) (yR rfl (yI O_103 e0 b rO0 b1) (yR rfl (ycv (k':=.u64) (by kernel_rfl) (by kernel_rfl) e0) (yR rfl (yshlc e0 rfl) (yR rfl (m_ h.v (eh D)) (yR rfl (m_ (iV i) (eh E)) (yR rfl (m_ (iV (d.length:Int)) (eh C)) (yR rfl (yadd e0 e0) (yR rfl (ysub e0 rfl) ?_)))))))))))))
    refine yR rfl (yIa SL_29 e0 e0 b rO0 b3) (yR rfl (yI O_103 e0 b rO0 b3) (yR rfl (ycv (k':=.u64) (by kernel_rfl) (by kernel_rfl) e0) (yR rfl (yor e0 e0) (Rn QSn ?_))))
    refine Lc1 rfl ?_
    refine Ly wn (a_ (.int .u64 (wor .u64 (wslc .u64 (wc .u64 b0) 32) (wc .u64 b2))) e0) (Dz [] [] (Rn QSn (h0 _ _ (sR fun _ h1=>Ym (.int .u64 (wor .u64 (wslc .u64 (wc .u64 b0) 32) (wc .u64 b2))) e0 (Ym ((subH k 1 0 (d.length:Int)).v) (eh a8) (Ym (iV (d.length:Int)) (eh C) (yY (ysub e0 rfl) (bE g fun m1 b4 g=>yY (yIa SL_29 e0 e0 b (rdI F0) b4) (yY (yI O_103 e0 b (rdI F0) b4) (yY (ycv (k':=.u64) (by kernel_rfl) (by kernel_rfl) e0) ?_))))))))))
    refine bE g fun h3 h5 g=>yY (yquo e0 e0 h5) (yY (ymin e0 rfl) (Ya (.int .u64 (imin h3 4294967295)) e0 (wK h1 (sQ fun _ h6=>blockQ fun h7 h8=>bE g fun h9 i0 g=>?_))))
    have i1:∀ (O:LI) (z:Int) (f:FV) w,f 6=iV (d.length:Int)→f 7=iV j→f 8=h.v→f 9=(subH k 1 0 (d.length:Int)).v→f 10=m.v→f 11=iV i→f 13=.int .u64 z→St w0 (imm (rI .u32) (subH k 1 0 (d.length:Int)).v x::ros) (row 103 (rI .u32) h.v O::row 103 (rI .u32) m.v y::rs) w→(O,z)=h9→h7 (.exit 2) (fr 109 f) w:=by
     intro O z f w i2 i3 i4 i5 b5 b6 i6 b ho
     subst ho
     refine h8 _ _ _ (h6 _ _ (wR (Ym m.v (eh b5) (Ym (iV i) (eh b6) (Ym (.int .u64 z) (eh i6) (yY (ycv (k':=.u32) (by kernel_rfl) (by kernel_rfl) e0) (bE g fun m2 b7 g=>yY (yIs SL_29 e0 e0 b rO1 b7) (yT (r_sti (cs:=[.int .u32 (wc .u32 z)]) (b.k17) O_103 rfl e0 e0 rfl mkI b7) fun w b=>wN (g9 _ _ _ (g8 _ _ ?_))))))))))
     refine wR (Ym (iV i) (eh b6) (yY (ysub e0 rfl) (Ya (iV (ws .i64 i 1)) e0 (wN ?_))))
     cases g
     exact g2 _ _ _ rfl ⟨_,_,_,_,rfl,rfl,i2,i3,i4,i5,b5,rfl,(b.k17)⟩
    refine loopQ (fun s a w=>∃ (R:LI) (t:Int) (f:FV),(R,t)=s∧a=fr 109 f∧f 6=iV (d.length:Int)∧f 7=iV j∧f 8=h.v∧f 9=(subH k 1 0 (d.length:Int)).v∧f 10=m.v∧f 11=iV i∧f 13=.int .u64 t∧St w0 (imm (rI .u32) (subH k 1 0 (d.length:Int)).v x::ros) (row 103 (rI .u32) h.v R::row 103 (rI .u32) m.v y::rs) w) i0 ⟨_,_,_,rfl,rfl,C,a7,D,a8,a9,E,rfl,b⟩ ?_
    rintro _ _ w m3 ⟨R,t,f,rfl,rfl,b8,b9,S,T,c0,U,V,b⟩ q i7 m4 i8 i9
    refine seqQ fun m5 j0 j2=>sR fun _ j3=>Ym h.v (eh S) (Ym ((subH k 1 0 (d.length:Int)).v) (eh T) (Ym (iV i) (eh U) (Ym (.int .u64 t) (eh V) (bE q fun m6 j4 q=>yC (yCall FN_159 (a4 e0 e0 e0 e0)) (sparseref01_take_ok j4 F0 b) ?_))))
    rintro _ w ⟨rfl,b⟩
    refine ⟨_,rfl,?_⟩
    refine yY (ynot e0) (wK j3 ?_)
    rcases iteS q with ⟨W,q⟩ | ⟨W,q⟩
    ·refine condF e0 (nF W) (wp_exit (j2 _ _ _ rfl ?_))
     cases q
     exact i9 _ _ _ _ rfl rfl (i1 _ _ _ _ b8 b9 S T c0 U V b (i7 _ rfl))
    ·refine condT e0 (nT (bfalse W)) (wp_skip (j0 _ _ (blockQ fun _ j5=>wR (Ym (.int .u64 t) (eh V) (yY (ysub e0 rfl) (Ya (.int .u64 (ws .u64 t 1)) e0 (wN (j5 _ _ _ ?_))))))))
     cases q
     exact i8 _ _ _ rfl ⟨_,_,_,rfl,rfl,b8,b9,S,T,c0,U,rfl,b⟩
   ·refine wp_exit (g5 _ _ _ rfl ?_)
    cases g
    exact g3 _ _ _ _ rfl rfl (e9 _ _ _ _ a7 D a9 (b.facts (allT allI)) (g1 _ rfl))
  refine cIf e0 c (fun j6 c=>?_) fun j6 c=>?_
  ·exact wR (Ym G.v e0 (yH (rLt (n:=1) (l:=[0]) b SL_29 [.int .u32 0] (bp1 rfl) rfl rfl (mks1 (cs:=[.int .u32 0]) rfl mkI mks0)) fun m7 w b=>bE c fun m8 j7 c=>yH (rAp (b.k17) SL_29 e0 e0 rO1 j7) fun j8 w b=>Ya j8.v e0 (wN (a5 _ _ _ _ rfl rfl rfl rfl rfl ((b.k18).facts (allC F0 (allT (allT allI)))) c))))
  ·exact wp_skip (a5 _ _ _ _ rfl rfl rfl rfl rfl (b.facts (allC F0 (allT (allT allI)))) c)
theorem sparseref01_addMag_ok {G B:LI} {i j:Hdr} {out:LI} (c:sparseref01_addMag G B=some out) (u:imm (rI .u32) i.v G∈ros) (x:imm (rI .u32) j.v B∈ros) (b:St w0 ros rs w):
  Calls Tryz.prog 142 #[i.v,j.v] w (fun e w=>∃ (H:Hdr),e=.returned (H.v)∧St w0 ros (row 103 (rI .u32) H.v out::rs) w):=by
 refine enterQ Tryz.func142 rfl Tryz.ntmps142 rfl fun Q U=>sR fun _ V=>Ya hnil.v rfl (wK V (sR fun _ W=>Ya hnil.v rfl (wK W (sR fun _ X=>Ya (.int .u64 0) rfl ?_))))
 refine wK X (sQ fun _ Z=>sR fun _ a0=>Ya (iV 0) rfl (wK a0 (blockQ fun a1 a2=>bE c fun a3 a4 c=>?_)))
 have a5:∀ (C:LI) (m:Int) (y:Hdr) (f:FV) w,f 5=y.v→f 6=.int .u64 m→St w0 ros (row 103 (rI .u32) y.v C::rs) w→(C,m)=a3→a1 (.exit 0) (fr 51 f) w:=by
  intro C m y f w a6 a7 b ho
  subst ho
  refine a2 _ _ _ (Z _ _ (sR fun _ a8=>Ym y.v (eh a6) (Ym (.int .u64 m) (eh a7) (yY (ycv (k':=.u32) (by kernel_rfl) (by kernel_rfl) e0) (yH (rLt (n:=1) (l:=[wc .u32 m]) b SL_29 [.int .u32 (wc .u32 m)] (bp1 e0) rfl rfl (mks1 (cs:=[.int .u32 (wc .u32 m)]) rfl mkI mks0)) fun d7 w b=>bE c fun d8 a9 c=>yH (rAp (b.k17) SL_29 e0 e0 rO1 a9) fun b0 w b=>Ya b0.v e0 (wN ?_))))))
  refine a8 _ _ (wp_ret ?_)
  cases c
  exact U _ _ _ (fin1r Tryz.results142 ⟨rfl,rfl⟩ ⟨_,rfl,(b.k18)⟩)
 replace b:=b.rowNh 103 (rI .u32)
 refine loopQ (fun s a w=>∃ (o:LI) (p d:Int) (f:FV) (k:Hdr),(o,p,d)=s∧a=fr 51 f∧f 0=i.v∧f 1=j.v∧f 5=k.v∧f 6=.int .u64 p∧f 7=iV d∧St w0 ros (row 103 (rI .u32) k.v o::rs) w) a4 ⟨_,_,_,_,_,rfl,rfl,rfl,rfl,rfl,rfl,rfl,b⟩ ?_
 rintro _ _ w I ⟨o,p,d,f,k,rfl,rfl,q,D,E,F,r,b⟩ g b1 d9 b2 b3
 refine seqQ fun e1 b4 b5=>sR fun _ b6=>Ym (iV d) (eh r) (Ym i.v (eh q) (yY (yLen SL_29 e0 b (rdI u)) (Ym j.v (eh D) (yY (yLen SL_29 e0 b (rdI x)) (yY (ymax e0 e0) (yY (ylss e0 e0) (wK b6 ?_)))))))
 refine cIf e0 g (fun b7 g=>?_) fun b7 g=>?_
 ·refine wp_skip (b4 _ _ (sQ fun _ b8=>blockQ fun _ b9=>sQ fun c0 c1=>sR fun _ c2=>Ym (iV d) (eh r) (Ym i.v (eh q) (yY (yLen SL_29 e0 b (rdI u)) (yY (ylss e0 e0) (wK c2 ?_))))))
  have J:∀ (t:Int) (f:FV) w,f 0=i.v→f 1=j.v→f 5=k.v→f 6=.int .u64 t→f 7=iV d→St w0 ros (row 103 (rI .u32) k.v o::rs) w→sparseref01_addMag_j6 d B o t=some I→c0 .normal (fr 51 f) w:=by
   intro t f w K z L N A b c
   refine c1 _ _ (sQ fun c3 c4=>sR fun _ c5=>Ym (iV d) (eh A) (Ym j.v (eh z) (yY (yLen SL_29 e0 b (rdI x)) (yY (ylss e0 e0) (wK c5 ?_)))))
   have O:∀ (h:Int) (f:FV) w,f 0=i.v→f 1=j.v→f 5=k.v→f 6=.int .u64 h→f 7=iV d→St w0 ros (row 103 (rI .u32) k.v o::rs) w→sparseref01_addMag_j7 o d h=some I→c3 .normal (fr 51 f) w:=by
    intro h f w c6 c7 c8 R c9 b c
    refine c4 _ _ (sR fun _ d0=>Ym k.v (eh c8) (Ym (.int .u64 h) (eh R) (yY (ycv (k':=.u32) (by kernel_rfl) (by kernel_rfl) e0) (yH (rLt (n:=1) (l:=[wc .u32 h]) b SL_29 [.int .u32 (wc .u32 h)] (bp1 e0) rfl rfl (mks1 (cs:=[.int .u32 (wc .u32 h)]) rfl mkI mks0)) fun e2 w b=>bE c fun e3 d1 c=>yH (rAp (b.k17) SL_29 e0 e0 rO1 d1) fun d2 w b=>Ya d2.v e0 (wK d0 ?_)))))
    refine wR (Ym (.int .u64 h) (eh R) (yY (yshrc e0 rfl) (Ya (.int .u64 (wsrc .u64 h 32)) e0 (wN (b9 _ _ _ (b8 _ _ (wR (Ym (iV d) (eh c9) (yY (yadd e0 rfl) (Ya (iV (wa .i64 d 1)) e0 (wN ?_)))))))))))
    cases c
    exact b2 _ _ _ rfl ⟨_,_,_,_,_,rfl,rfl,c6,c7,rfl,rfl,rfl,(b.k18)⟩
   refine cIf e0 c (fun d3 c=>?_) fun d3 c=>?_
   ·exact wR (Ym (.int .u64 t) (eh N) (Ym j.v (eh z) (Ym (iV d) (eh A) (bE c fun d4 S c=>yY (yIa SL_29 e0 e0 b (rdI x) S) (yY (yI O_103 e0 b (rdI x) S) (yY (ycv (k':=.u64) (by kernel_rfl) (by kernel_rfl) e0) (yY (yadd e0 e0) (Ya (.int .u64 (wa .u64 t (wc .u64 d4))) e0 (wN (O _ _ _ K z L rfl A b c))))))))))
   ·exact wp_skip (O _ _ _ K z L N A b c)
  refine cIf e0 g (fun d5 g=>?_) fun d5 g=>?_
  ·exact wR (Ym (.int .u64 p) (eh F) (Ym i.v (eh q) (Ym (iV d) (eh r) (bE g fun d6 T g=>yY (yIa SL_29 e0 e0 b (rdI u) T) (yY (yI O_103 e0 b (rdI u) T) (yY (ycv (k':=.u64) (by kernel_rfl) (by kernel_rfl) e0) (yY (yadd e0 e0) (Ya (.int .u64 (wa .u64 p (wc .u64 d6))) e0 (wN (J _ _ _ q D E rfl r b g))))))))))
  ·exact wp_skip (J _ _ _ q D E F r b g)
 ·refine wp_exit (b5 _ _ _ rfl ?_)
  cases g
  exact b3 _ _ _ _ rfl rfl (a5 _ _ _ _ _ E F b (b1 _ rfl))
theorem sparseref01_subMag_ok {B C:LI} {j k:Hdr} {out:LI} (h:sparseref01_subMag B C=some out) (u:imm (rI .u32) j.v B∈ros) (x:imm (rI .u32) k.v C∈ros) (b:St w0 ros rs w):
  Calls Tryz.prog 144 #[j.v,k.v] w (fun e w=>∃ (D:Hdr),e=.returned (D.v)∧St w0 ros (row 103 (rI .u32) D.v out::rs) w):=by
 refine enterQ Tryz.func144 rfl Tryz.ntmps144 rfl fun Q I=>sR fun _ J=>Ya hnil.v rfl (wK J (sR fun _ K=>Ya hnil.v rfl (wK K (sR fun _ L=>Ya (.int .u64 0) rfl ?_))))
 refine wK L (sQ fun _ N=>sR fun _ O=>Ya (iV 0) rfl (wK O (blockQ fun R S=>bE h fun T U h=>?_)))
 have V:∀ (y:LI) (p:Hdr) (f:FV) w,f 5=p.v→St w0 ros (row 103 (rI .u32) p.v y::rs) w→y=T→R (.exit 0) (fr 41 f) w:=by
  intro y p f w W b ho
  subst ho
  refine S _ _ _ (N _ _ (sR fun _ X=>Ym p.v (eh W) (Ya p.v e0 (wK X (wp_ret ?_)))))
  cases h
  exact I _ _ _ (fin1r Tryz.results144 ⟨rfl,rfl⟩ ⟨_,rfl,b⟩)
 replace b:=b.rowNh 103 (rI .u32)
 refine loopQ (fun s a w=>∃ (q:LI) (i d:Int) (f:FV) (m:Hdr),(q,i,d)=s∧a=fr 41 f∧f 0=j.v∧f 1=k.v∧f 5=m.v∧f 6=.int .u64 i∧f 7=iV d∧St w0 ros (row 103 (rI .u32) m.v q::rs) w) U ⟨_,_,_,_,_,rfl,rfl,rfl,rfl,rfl,rfl,rfl,b⟩ ?_
 rintro _ _ w Z ⟨q,i,d,f,m,rfl,rfl,r,t,z,a0,o,b⟩ c a1 c3 a2 a3
 refine seqQ fun c4 a4 a5=>sR fun _ a6=>Ym (iV d) (eh o) (Ym j.v (eh r) (yY (yLen SL_29 e0 b (rdI u)) (yY (ylss e0 e0) (wK a6 ?_))))
 refine cIf e0 c (fun a7 c=>?_) fun a7 c=>?_
 ·refine wp_skip (a4 _ _ (sQ fun _ a8=>blockQ fun _ a9=>sR fun _ b0=>Ym j.v (eh r) (Ym (iV d) (eh o) (bE c fun A E c=>yY (yIa SL_29 e0 e0 b (rdI u) E) (yY (yI O_103 e0 b (rdI u) E) (yY (ycv (k':=.u64) (by kernel_rfl) (by kernel_rfl) e0) (Ym (.int .u64 i) (eh a0) (yY (ysub e0 e0) ?_))))))))
  refine Ya (.int .u64 (ws .u64 (wc .u64 A) i)) e0 (wK b0 (sQ fun b1 b2=>sR fun _ b3=>Ym (iV d) (eh o) (Ym k.v (eh t) (yY (yLen SL_29 e0 b (rdI x)) (yY (ylss e0 e0) (wK b3 ?_))))))
  have F:∀ (g:Int) (f:FV) w,f 0=j.v→f 1=k.v→f 5=m.v→f 7=iV d→f 8=.int .u64 g→St w0 ros (row 103 (rI .u32) m.v q::rs) w→sparseref01_subMag_j4 q d g=some Z→b1 .normal (fr 41 f) w:=by
   intro g f w b4 b5 b6 b7 G b h
   refine b2 _ _ (sR fun _ b8=>Ym m.v (eh b6) (Ym (.int .u64 g) (eh G) (yY (ycv (k':=.u32) (by kernel_rfl) (by kernel_rfl) e0) (yH (rLt (n:=1) (l:=[wc .u32 g]) b SL_29 [.int .u32 (wc .u32 g)] (bp1 e0) rfl rfl (mks1 (cs:=[.int .u32 (wc .u32 g)]) rfl mkI mks0)) fun c5 w b=>bE h fun c6 b9 h=>yH (rAp (b.k17) SL_29 e0 e0 rO1 b9) fun c0 w b=>Ya c0.v e0 (wK b8 ?_)))))
   refine wR (Ym (.int .u64 g) (eh G) (yY (yshrc e0 rfl) (Ya (.int .u64 (wsrc .u64 g 63)) e0 (wN (a9 _ _ _ (a8 _ _ (wR (Ym (iV d) (eh b7) (yY (yadd e0 rfl) (Ya (iV (wa .i64 d 1)) e0 (wN ?_)))))))))))
   cases h
   exact a2 _ _ _ rfl ⟨_,_,_,_,_,rfl,rfl,b4,b5,rfl,rfl,rfl,(b.k18)⟩
  refine cIf e0 c (fun c1 c=>?_) fun c1 c=>?_
  ·exact wR (Ym (.int .u64 (ws .u64 (wc .u64 A) i)) e0 (Ym k.v (eh t) (Ym (iV d) (eh o) (bE c fun c2 H c=>yY (yIa SL_29 e0 e0 b (rdI x) H) (yY (yI O_103 e0 b (rdI x) H) (yY (ycv (k':=.u64) (by kernel_rfl) (by kernel_rfl) e0) (yY (ysub e0 e0) (Ya (.int .u64 (ws .u64 (ws .u64 (wc .u64 A) i) (wc .u64 c2))) e0 (wN (F _ _ _ r t z o rfl b c))))))))))
  ·exact wp_skip (F _ _ _ r t z o rfl b c)
 ·refine wp_exit (a5 _ _ _ rfl ?_)
  cases c
  exact a3 _ _ _ _ rfl rfl (V _ _ _ _ z b (a1 _ rfl))
theorem sparseref01_Add_ok {c:Bool} {k:LI} {d:Bool} {l:LI} {i f:Hdr} {out:Bool×LI} (b:sparseref01_Add c k d l=some out) (t:imm (rI .u32) i.v k∈ros) (u:imm (rI .u32) f.v l∈ros) (a:St w0 ros rs w):
  Calls Tryz.prog 111 #[.agg #[.bool c,i.v],.agg #[.bool d,f.v]] w (fun e w=>∃ (m:Hdr),e=.returned (.agg #[.bool out.1,m.v])∧St w0 ros (row 103 (rI .u32) m.v out.2::rs) w):=by
 refine enterQ Tryz.func111 rfl Tryz.ntmps111 rfl fun Q j=>sR fun _ x=>yBb (r_box (vals:=[.bool c,i.v]) a e0 rfl) fun W w a=>yBb (r_box (vals:=[.bool d,f.v]) a e0 rfl) fun X w a=>yBb (rAl a ZT_31) fun Z w a=>wK x (sQ fun _ y=>bE b fun a0 z b=>bE b fun a3 A b=>?_)
 refine dR [0,1,3,0,8,31,63,127] [2,5,6,7] 4 folM ?_
 replace a:=a.drew
 refine Dn [0,1,3,4] [] [2] (yR rfl (yFb FL_31_1 e0) (yR rfl (lb_ i.v O_29 e0 a R2) (yR rfl (yFb FL_31_1 e0) (yR rfl (lb_ f.v O_29 e0 a R1) (Rn QSn ?_)))))
 refine Lc1 rfl ?_
 refine Lk wn (yCall FN_116 (a1 e0)) (sparseref01_trim_ok z t a) ?_
 rintro _ w ⟨g,rfl,a⟩
 refine ⟨_,rfl,?_⟩
 refine Dn [] [3,4] [5] (Rn (yS rfl (yFb FL_31_1 e0) (yS rfl (lb_ f.v O_29 e0 a R2) QSn)) ?_)
 refine Lc1 rfl ?_
 refine Lk wn (yCall FN_116 (a1 e0)) (sparseref01_trim_ok A u a) ?_
 rintro _ w ⟨h,rfl,a⟩
 refine ⟨_,rfl,?_⟩
 refine Dn [] [] [6] (Rn QSn ?_)
 refine Lc1 rfl ?_
 refine Ly wn (a_ g.v e0) (Dn [] [] [7] (Rn QSn ?_))
 refine Lc1 rfl ?_
 refine Ly wn (a_ h.v e0) (Dz [] [] (Rn QSn (y _ _ (seqQ fun a4 B C=>sR fun _ D=>yY (yFb FL_31_0 e0) (yY (lb_ (.bool c) O_4 e0 a R4) (yY (yFb FL_31_0 e0) (yY (lb_ (.bool d) O_4 e0 a R3) (yY (yeqb (by kernel_rfl) e0 e0) (wK D (cB e0 b (fun E b=>?_) fun E b=>?_))))))))))
 ·refine sQ fun _ F=>bE b fun a5 G b=>bE b fun n H b=>dR [0,1,0,0,12,31,63] [4,5,6] 3 folM ?_
  replace a:=a.drew
  refine Dn [0,1,2,3] [] [4] (yR rfl (yFb FL_31_0 e0) (yR rfl (lb_ (.bool c) O_4 e0 a R4) (yR rfl (m_ g.v e0) (yR rfl (m_ h.v e0) (Rn QSn ?_)))))
  refine Lc1 rfl ?_
  replace a:=((a.k17).fz).fz
  refine Lk wn (yCall FN_142 (a2 e0 e0)) (sparseref01_addMag_ok G F1 F0 a) ?_
  rintro _ w ⟨a6,rfl,a⟩
  refine ⟨_,rfl,?_⟩
  refine Dn [] [0,1] [5] (Rn (yS rfl (yFb FL_31_0 e0) (yS rfl (lb_ (.bool c) O_4 e0 a R3) QSn)) ?_)
  refine Lc1 rfl ?_
  replace a:=a.fz
  refine Lk wn (yCall FN_110 (a2 e0 e0)) (sparseref01_make1_ok H F0 a) ?_
  rintro _ w ⟨o,rfl,a⟩
  refine ⟨_,rfl,?_⟩
  refine Dn [] [] [6] (Rn QSn ?_)
  refine Lc1 rfl ?_
  replace a:=a.k17
  refine LT wn (r_stbn (vals':=[.bool n.1,o.v]) (us:=[.bool n.1,o.v]) a ST_31 e0 e0 rfl rfl (one_of rfl) rfl) fun w a=>Dz [] [] (Rn QSn (F _ _ (wp_ret (C _ _ _ rfl ?_))))
  cases b
  exact j _ _ _ (fin1r Tryz.results111 (rcs2 rfl rfl a R0 ST_31 rfl) ⟨_,rfl,((a.k21).facts (allT (allT (allT allI))))⟩)
 ·refine wp_skip (B _ _ (seqQ fun a7 I J=>sR fun _ K=>Ym g.v e0 (Ym h.v e0 (bE b fun a8 L b=>?_))))
  replace a:=((a.k17).fz).fz
  refine yC (yCall FN_143 (a2 e0 e0)) (sparseref01_cmpMag_ok L F1 F0 a) ?_
  rintro _ w ⟨rfl,a⟩
  refine ⟨_,rfl,?_⟩
  refine yY (ygeq e0 rfl) (wK K ?_)
  refine cIf e0 b (fun N b=>?_) fun N b=>?_
  ·refine sQ fun _ O=>bE b fun a9 R b=>bE b fun p S b=>dR [0,1,0,0,12,31,63] [4,5,6] 3 folM ?_
   replace a:=a.drew
   refine Dn [0,1,2,3] [] [4] (yR rfl (yFb FL_31_0 e0) (yR rfl (lb_ (.bool c) O_4 e0 a R2) (yR rfl (m_ g.v e0) (yR rfl (m_ h.v e0) (Rn QSn ?_)))))
   refine Lc1 rfl ?_
   refine Lk wn (yCall FN_144 (a2 e0 e0)) (sparseref01_subMag_ok R F1 F0 a) ?_
   rintro _ w ⟨b0,rfl,a⟩
   refine ⟨_,rfl,?_⟩
   refine Dn [] [0,1] [5] (Rn (yS rfl (yFb FL_31_0 e0) (yS rfl (lb_ (.bool c) O_4 e0 a R3) QSn)) ?_)
   refine Lc1 rfl ?_
   replace a:=a.fz
   refine Lk wn (yCall FN_110 (a2 e0 e0)) (sparseref01_make1_ok S F0 a) ?_
   rintro _ w ⟨q,rfl,a⟩
   refine ⟨_,rfl,?_⟩
   refine Dn [] [] [6] (Rn QSn ?_)
   refine Lc1 rfl ?_
   replace a:=a.k17
   refine LT wn (r_stbn (vals':=[.bool p.1,q.v]) (us:=[.bool p.1,q.v]) a ST_31 e0 e0 rfl rfl (one_of rfl) rfl) fun w a=>Dz [] [] (Rn QSn (O _ _ (wp_ret (J _ _ _ rfl ?_))))
   cases b
   exact j _ _ _ (fin1r Tryz.results111 (rcs2 rfl rfl a R0 ST_31 rfl) ⟨_,rfl,((a.k21).facts (allT (allT (allT allI))))⟩)
  ·refine wp_skip (I _ _ (sQ fun _ T=>bE b fun b1 U b=>bE b fun r V b=>dR [0,1,0,0,12,31,63] [4,5,6] 3 folM ?_))
   replace a:=a.drew
   refine Dn [0,1,2,3] [] [4] (yR rfl (yFb FL_31_0 e0) (yR rfl (lb_ (.bool d) O_4 e0 a R1) (yR rfl (m_ h.v e0) (yR rfl (m_ g.v e0) (Rn QSn ?_)))))
   refine Lc1 rfl ?_
   refine Lk wn (yCall FN_144 (a2 e0 e0)) (sparseref01_subMag_ok U F0 F1 a) ?_
   rintro _ w ⟨b2,rfl,a⟩
   refine ⟨_,rfl,?_⟩
   refine Dn [] [0,1] [5] (Rn (yS rfl (yFb FL_31_0 e0) (yS rfl (lb_ (.bool d) O_4 e0 a R2) QSn)) ?_)
   refine Lc1 rfl ?_
   replace a:=a.fz
   refine Lk wn (yCall FN_110 (a2 e0 e0)) (sparseref01_make1_ok V F0 a) ?_
   rintro _ w ⟨s,rfl,a⟩
   refine ⟨_,rfl,?_⟩
   refine Dn [] [] [6] (Rn QSn ?_)
   refine Lc1 rfl ?_
   replace a:=a.k17
   refine LT wn (r_stbn (vals':=[.bool r.1,s.v]) (us:=[.bool r.1,s.v]) a ST_31 e0 e0 rfl rfl (one_of rfl) rfl) fun w a=>Dz [] [] (Rn QSn (T _ _ (wp_ret ?_)))
   cases b
   exact j _ _ _ (fin1r Tryz.results111 (rcs2 rfl rfl a R0 ST_31 rfl) ⟨_,rfl,((a.k21).facts (allT (allT (allT allI))))⟩)
theorem sparseref01_Sub_ok {b:Bool} {h:LI} {f:Bool} {i:LI} {c g:Hdr} {out:Bool×LI} (d:sparseref01_Sub b h f i=some out) (m:imm (rI .u32) c.v h∈ros) (n:imm (rI .u32) g.v i∈ros) (a:St w0 ros rs w):
  Calls Tryz.prog 105 #[.agg #[.bool b,c.v],.agg #[.bool f,g.v]] w (fun e w=>∃ (j:Hdr),e=.returned (.agg #[.bool out.1,j.v])∧St w0 ros (row 103 (rI .u32) j.v out.2::rs) w):=by
 refine enterQ Tryz.func105 rfl Tryz.ntmps105 rfl fun Q o=>sR fun _ p=>yBb (r_box (vals:=[.bool b,c.v]) a e0 rfl) fun t w a=>yBb (r_box (vals:=[.bool f,g.v]) a e0 rfl) fun u w a=>yBb (rAl a ZT_31) fun x w a=>wK p (sQ fun _ q=>bE d fun y r d=>bE d fun k s d=>?_)
 refine dR [0,0,2,7,15] [2,3,4] 3 folM ?_
 replace a:=a.drew
 refine Dn [0,1] [] [2] (yR rfl (lbs_ [.bool b,c.v] ST_31 e0 a R2) (yR rfl (lbs_ [.bool f,g.v] ST_31 e0 a R1) (Rn QSn ?_)))
 refine Lc1 rfl ?_
 refine Lk wn (yCall FN_71 (a1 e0)) (sparseref01_Neg_ok r n a) ?_
 rintro _ w ⟨z,rfl,a⟩
 refine ⟨_,rfl,?_⟩
 refine Dn [] [0] [3] (Rn (yS rfl (lbs_ [.bool b,c.v] ST_31 e0 a R3) QSn) ?_)
 refine Lc1 rfl ?_
 replace a:=a.fz
 refine Lk wn (yCall FN_111 (a2 e0 e0)) (sparseref01_Add_ok s (mtF m) F0 a) ?_
 rintro _ w ⟨l,rfl,a⟩
 refine ⟨_,rfl,?_⟩
 refine Dn [] [] [4] (Rn QSn ?_)
 refine Lc1 rfl ?_
 replace a:=a.k17
 refine LT wn (r_stbn (vals':=[.bool k.1,l.v]) (us:=[.bool k.1,l.v]) a ST_31 e0 e0 rfl rfl (one_of rfl) rfl) fun w a=>Dz [] [] (Rn QSn (q _ _ (wp_ret ?_)))
 cases d
 exact o _ _ _ (fin1r Tryz.results105 (rcs2 rfl rfl a R0 ST_31 rfl) ⟨_,rfl,((a.k21).facts (allT allI))⟩)
theorem sparseref01_DivMod_ok {K:Bool} {Z:LI} {G:Bool} {a0:LI} {L H:Hdr} {out:Bool×LI×Bool×LI} (b:sparseref01_DivMod K Z G a0=some out) (c0:imm (rI .u32) L.v Z∈ros) (c1:imm (rI .u32) H.v a0∈ros) (a:St w0 ros rs w):
  Calls Tryz.prog 117 #[.agg #[.bool K,L.v],.agg #[.bool G,H.v]] w (fun e w=>∃ (a3 a4:Hdr),e=.returned (.tuple #[.agg #[.bool out.1,a3.v],.agg #[.bool out.2.2.1,a4.v]])∧St w0 (imm (rI .u32) a4.v out.2.2.2::ros) (row 103 (rI .u32) a3.v out.2.1::rs) w):=by
 refine enterQ Tryz.func117 rfl Tryz.ntmps117 rfl fun Q c2=>sR fun _ c3=>yBb (r_box (vals:=[.bool K,L.v]) a e0 rfl) fun f0 w a=>yBb (r_box (vals:=[.bool G,H.v]) a e0 rfl) fun a5 w a=>yBb (rAl a ZT_31) fun A w a=>yBb (rAl a ZT_31) fun B w a=>wK c3 (sQ fun _ c4=>?_)
 refine bE b fun i c5 b=>bE b fun l c6 b=>dR [0,1,0,7,15,31] [1,3,4,5] 4 folM ?_
 replace a:=a.drew
 refine Dn [0,2] [] [1] (yR rfl (lbs_ [.bool K,L.v] ST_31 e0 a R3) (yR rfl (lbs_ [.bool G,H.v] ST_31 e0 a R2) (Rn QSn ?_)))
 refine Lc1 rfl ?_
 refine Lk wn (yCall FN_78 (a1 e0)) (sparseref01_Norm_ok c5 c0 a) ?_
 rintro _ w ⟨O,rfl,a⟩
 refine ⟨_,rfl,?_⟩
 refine Dn [] [2] [3] (Rn (yS rfl (lbs_ [.bool G,H.v] ST_31 e0 a R3) QSn) ?_)
 refine Lc1 rfl ?_
 refine Lk wn (yCall FN_78 (a1 e0)) (sparseref01_Norm_ok c6 c1 a) ?_
 rintro _ w ⟨C,rfl,a⟩
 refine ⟨_,rfl,?_⟩
 refine Dn [] [] [4] (Rn QSn ?_)
 refine Lc1 rfl ?_
 replace a:=a.k22
 refine LT wn (r_stbn (vals':=[.bool i.1,O.v]) (us:=[.bool i.1,O.v]) a ST_31 e0 e0 rfl rfl (one_of rfl) rfl) fun w a=>Dn [] [] [5] (Rn QSn ?_)
 refine Lc1 rfl ?_
 replace a:=a.k22
 refine LT wn (r_stbn (vals':=[.bool l.1,C.v]) (us:=[.bool l.1,C.v]) a ST_31 e0 e0 rfl rfl (one_of rfl) rfl) fun w a=>Dz [] [] (Rn QSn (c4 _ _ (sR fun _ c7=>yY (yFb FL_31_1 e0) (yY (lb_ O.v O_29 e0 a R1) (yY (yFb FL_31_1 e0) (yY (lb_ C.v O_29 e0 a R0) (bE b fun f1 c8 b=>?_)))))))
 replace a:=(((a.k13).fz).k1h).fz
 refine yC (yCall FN_145 (a2 e0 e0)) (sparseref01_divMag_ok c8 F1 F0 a) ?_
 rintro _ w ⟨p,j,rfl,a⟩
 refine ⟨_,rfl,?_⟩
 refine Ym (.tuple #[p.v,j.v]) e0 (yY (x_ p.v e0) (yY (x_ j.v e0) (Ya p.v e0 (Ya j.v e0 (wK c7 (sQ fun _ c9=>bE b fun d I b=>bE b fun g m b=>?_))))))
 refine joinN (n:=50) (fun f w=>∃ (s:Nat) (t:Hdr) (u:Nat) (D:Hdr),f 3=(pB a5)∧f 4=(pB A)∧f 5=(pB B)∧f 8=(pB s)∧f 9=(pB u)∧St w0 (imm (rI .u32) C.v l.2::ros) (box a5 31 [.bool l.1,C.v]::box A 31 [.bool false,hnil.v]::box B 31 [.bool false,hnil.v]::row 103 (rI .u32) t.v d.2::box s 31 [.bool d.1,t.v]::row 103 (rI .u32) D.v g.2::box u 31 [.bool g.1,D.v]::rs) w) (fun k=>?_) ?_
 ·refine dR [0,1,0,4,15,0,63,0,128,0,1023,0,0,8191,16383] [6,10,11,12,13,14] 6 folM ?_
  replace a:=a.drew
  refine Dn [0,1,2,3,4,5,7,8,9] [] [6,11,12] (yR rfl (yFb FL_31_0 e0) (yR rfl (lb_ (.bool i.1) O_4 e0 a R2) (yR rfl (yFb FL_31_0 e0) (yR rfl (lb_ (.bool l.1) O_4 e0 a R1) (yR rfl (yneb (by kernel_rfl) e0 e0) (yR rfl (m_ p.v e0) (yR rfl (yFb FL_31_0 e0) (yR rfl (lb_ (.bool i.1) O_4 e0 a R2) (yR rfl (m_ j.v e0) (Rn QSn ?_))))))))))
  refine Lc rfl ?_ (Lc rfl ?_ (Lc1 rfl ?_))
  ·replace a:=a.fz
   refine Lk wn (yCall FN_110 (a2 e0 e0)) (sparseref01_make1_ok I F0 a) ?_
   rintro _ w ⟨h,rfl,a⟩
   refine ⟨_,rfl,?_⟩
   refine Dn [] [7,8,9] [10,11,12] (Rn (yS rfl (yFb FL_31_0 e0) (yS rfl (lb_ (.bool i.1) O_4 e0 a R2) (yS rfl (m_ j.v e0) QSn))) ?_)
   refine Lc rfl ?_ (Lc rfl ?_ (Lc1 rfl ?_))
   ·refine Lk wn (yCall FN_110 (a2 e0 e0)) (sparseref01_make1_ok m F1 a) ?_
    rintro _ w ⟨c,rfl,a⟩
    refine ⟨_,rfl,?_⟩
    refine Dn [] [] [11,12] (Rn QSn ?_)
    refine Lc rfl ?_ (Lc1 rfl ?_)
    ·refine LB wn (rAl a ZT_31) fun q w a=>Dn [] [] [12] (Rn QSn ?_)
     refine Lc1 rfl ?_
     refine LB wn (rAl a ZT_31) fun r w a=>Dn [] [] [13] (Rn QSn ?_)
     refine Lc1 rfl ?_
     replace a:=a.k17
     refine LT wn (r_stbn (vals':=[.bool d.1,h.v]) (us:=[.bool d.1,h.v]) a ST_31 e0 e0 rfl rfl (one_of rfl) rfl) fun w a=>Dn [] [] [14] (Rn QSn ?_)
     refine Lc1 rfl ?_
     replace a:=a.k17
     exact LT wn (r_stbn (vals':=[.bool g.1,c.v]) (us:=[.bool g.1,c.v]) a ST_31 e0 e0 rfl rfl (one_of rfl) rfl) fun w a=>Dz [] [] (Rn QSn (k _ _ ⟨_,_,_,_,rfl,rfl,rfl,rfl,rfl,((a.k23).facts (allC F2 (allT (allT (allT (allT allI))))))⟩))
    ·refine LB wn (rAl a ZT_31) fun r w a=>Dn [] [] [11] (Rn QSn ?_)
     refine Lc1 rfl ?_
     refine LB wn (rAl a ZT_31) fun q w a=>Dn [] [] [13] (Rn QSn ?_)
     refine Lc1 rfl ?_
     refine LT wn (r_stbn (vals':=[.bool d.1,h.v]) (us:=[.bool d.1,h.v]) a ST_31 e0 e0 rfl rfl (one_of rfl) rfl) fun w a=>Dn [] [] [14] (Rn QSn ?_)
     refine Lc1 rfl ?_
     replace a:=a.k17
     exact LT wn (r_stbn (vals':=[.bool g.1,c.v]) (us:=[.bool g.1,c.v]) a ST_31 e0 e0 rfl rfl (one_of rfl) rfl) fun w a=>Dz [] [] (Rn QSn (k _ _ ⟨_,_,_,_,rfl,rfl,rfl,rfl,rfl,((a.k23).facts (allC F2 (allT (allT (allT (allT allI))))))⟩))
   ·refine LB wn (rAl a ZT_31) fun q w a=>Dn [] [7,8,9] [10,12] (Rn (yS rfl (yFb FL_31_0 e0) (yS rfl (lb_ (.bool i.1) O_4 e0 a R3) (yS rfl (m_ j.v e0) QSn))) ?_)
    refine Lc rfl ?_ (Lc1 rfl ?_)
    ·refine Lk wn (yCall FN_110 (a2 e0 e0)) (sparseref01_make1_ok m F1 a) ?_
     rintro _ w ⟨c,rfl,a⟩
     refine ⟨_,rfl,?_⟩
     refine Dn [] [] [12] (Rn QSn ?_)
     refine Lc1 rfl ?_
     refine LB wn (rAl a ZT_31) fun r w a=>Dn [] [] [13] (Rn QSn ?_)
     refine Lc1 rfl ?_
     replace a:=a.k1h
     refine LT wn (r_stbn (vals':=[.bool d.1,h.v]) (us:=[.bool d.1,h.v]) a ST_31 e0 e0 rfl rfl (one_of rfl) rfl) fun w a=>Dn [] [] [14] (Rn QSn ?_)
     refine Lc1 rfl ?_
     replace a:=a.k17
     exact LT wn (r_stbn (vals':=[.bool g.1,c.v]) (us:=[.bool g.1,c.v]) a ST_31 e0 e0 rfl rfl (one_of rfl) rfl) fun w a=>Dz [] [] (Rn QSn (k _ _ ⟨_,_,_,_,rfl,rfl,rfl,rfl,rfl,((a.k23).facts (allC F2 (allT (allT (allT (allT allI))))))⟩))
    ·refine LB wn (rAl a ZT_31) fun r w a=>Dn [] [7,8,9] [10] (Rn (yS rfl (yFb FL_31_0 e0) (yS rfl (lb_ (.bool i.1) O_4 e0 a R4) (yS rfl (m_ j.v e0) QSn))) ?_)
     refine Lc1 rfl ?_
     refine Lk wn (yCall FN_110 (a2 e0 e0)) (sparseref01_make1_ok m F1 a) ?_
     rintro _ w ⟨c,rfl,a⟩
     refine ⟨_,rfl,?_⟩
     refine Dn [] [] [13] (Rn QSn ?_)
     refine Lc1 rfl ?_
     replace a:=a.k1h
     refine LT wn (r_stbn (vals':=[.bool d.1,h.v]) (us:=[.bool d.1,h.v]) a ST_31 e0 e0 rfl rfl (one_of rfl) rfl) fun w a=>Dn [] [] [14] (Rn QSn ?_)
     refine Lc1 rfl ?_
     replace a:=a.k1h
     exact LT wn (r_stbn (vals':=[.bool g.1,c.v]) (us:=[.bool g.1,c.v]) a ST_31 e0 e0 rfl rfl (one_of rfl) rfl) fun w a=>Dz [] [] (Rn QSn (k _ _ ⟨_,_,_,_,rfl,rfl,rfl,rfl,rfl,((a.k23).facts (allC F2 (allT (allT (allT (allT allI))))))⟩))
   ·refine LB wn (rAl a ZT_31) fun r w a=>Dn [] [7,8,9] [10,11] (Rn (yS rfl (yFb FL_31_0 e0) (yS rfl (lb_ (.bool i.1) O_4 e0 a R3) (yS rfl (m_ j.v e0) QSn))) ?_)
    refine Lc rfl ?_ (Lc1 rfl ?_)
    ·refine Lk wn (yCall FN_110 (a2 e0 e0)) (sparseref01_make1_ok m F1 a) ?_
     rintro _ w ⟨c,rfl,a⟩
     refine ⟨_,rfl,?_⟩
     refine Dn [] [] [11] (Rn QSn ?_)
     refine Lc1 rfl ?_
     refine LB wn (rAl a ZT_31) fun q w a=>Dn [] [] [13] (Rn QSn ?_)
     refine Lc1 rfl ?_
     refine LT wn (r_stbn (vals':=[.bool d.1,h.v]) (us:=[.bool d.1,h.v]) a ST_31 e0 e0 rfl rfl (one_of rfl) rfl) fun w a=>Dn [] [] [14] (Rn QSn ?_)
     refine Lc1 rfl ?_
     replace a:=a.k1h
     exact LT wn (r_stbn (vals':=[.bool g.1,c.v]) (us:=[.bool g.1,c.v]) a ST_31 e0 e0 rfl rfl (one_of rfl) rfl) fun w a=>Dz [] [] (Rn QSn (k _ _ ⟨_,_,_,_,rfl,rfl,rfl,rfl,rfl,((a.k23).facts (allC F2 (allT (allT (allT (allT allI))))))⟩))
    ·refine LB wn (rAl a ZT_31) fun q w a=>Dn [] [7,8,9] [10] (Rn (yS rfl (yFb FL_31_0 e0) (yS rfl (lb_ (.bool i.1) O_4 e0 a R4) (yS rfl (m_ j.v e0) QSn))) ?_)
     refine Lc1 rfl ?_
     refine Lk wn (yCall FN_110 (a2 e0 e0)) (sparseref01_make1_ok m F1 a) ?_
     rintro _ w ⟨c,rfl,a⟩
     refine ⟨_,rfl,?_⟩
     refine Dn [] [] [13] (Rn QSn ?_)
     refine Lc1 rfl ?_
     replace a:=a.k17
     refine LT wn (r_stbn (vals':=[.bool d.1,h.v]) (us:=[.bool d.1,h.v]) a ST_31 e0 e0 rfl rfl (one_of rfl) rfl) fun w a=>Dn [] [] [14] (Rn QSn ?_)
     refine Lc1 rfl ?_
     replace a:=a.k1h
     exact LT wn (r_stbn (vals':=[.bool g.1,c.v]) (us:=[.bool g.1,c.v]) a ST_31 e0 e0 rfl rfl (one_of rfl) rfl) fun w a=>Dz [] [] (Rn QSn (k _ _ ⟨_,_,_,_,rfl,rfl,rfl,rfl,rfl,((a.k23).facts (allC F2 (allT (allT (allT (allT allI))))))⟩))
  ·refine LB wn (rAl a ZT_31) fun q w a=>Dn [] [0,1,2,3,4,5,7,8,9] [6,12] (Rn (yS rfl (yFb FL_31_0 e0) (yS rfl (lb_ (.bool i.1) O_4 e0 a R3) (yS rfl (yFb FL_31_0 e0) (yS rfl (lb_ (.bool l.1) O_4 e0 a R2) (yS rfl (yneb (by kernel_rfl) e0 e0) (yS rfl (m_ p.v e0) (yS rfl (yFb FL_31_0 e0) (yS rfl (lb_ (.bool i.1) O_4 e0 a R3) (yS rfl (m_ j.v e0) QSn))))))))) ?_)
   refine Lc rfl ?_ (Lc1 rfl ?_)
   ·replace a:=a.k17
    replace a:=a.fz
    refine Lk wn (yCall FN_110 (a2 e0 e0)) (sparseref01_make1_ok I F0 a) ?_
    rintro _ w ⟨h,rfl,a⟩
    refine ⟨_,rfl,?_⟩
    refine Dn [] [7,8,9] [10,12] (Rn (yS rfl (yFb FL_31_0 e0) (yS rfl (lb_ (.bool i.1) O_4 e0 a R3) (yS rfl (m_ j.v e0) QSn))) ?_)
    refine Lc rfl ?_ (Lc1 rfl ?_)
    ·refine Lk wn (yCall FN_110 (a2 e0 e0)) (sparseref01_make1_ok m F1 a) ?_
     rintro _ w ⟨c,rfl,a⟩
     refine ⟨_,rfl,?_⟩
     refine Dn [] [] [12] (Rn QSn ?_)
     refine Lc1 rfl ?_
     refine LB wn (rAl a ZT_31) fun r w a=>Dn [] [] [13] (Rn QSn ?_)
     refine Lc1 rfl ?_
     replace a:=a.k13
     refine LT wn (r_stbn (vals':=[.bool d.1,h.v]) (us:=[.bool d.1,h.v]) a ST_31 e0 e0 rfl rfl (one_of rfl) rfl) fun w a=>Dn [] [] [14] (Rn QSn ?_)
     refine Lc1 rfl ?_
     replace a:=a.k17
     exact LT wn (r_stbn (vals':=[.bool g.1,c.v]) (us:=[.bool g.1,c.v]) a ST_31 e0 e0 rfl rfl (one_of rfl) rfl) fun w a=>Dz [] [] (Rn QSn (k _ _ ⟨_,_,_,_,rfl,rfl,rfl,rfl,rfl,((a.k23).facts (allC F2 (allT (allT (allT (allT allI))))))⟩))
    ·refine LB wn (rAl a ZT_31) fun r w a=>Dn [] [7,8,9] [10] (Rn (yS rfl (yFb FL_31_0 e0) (yS rfl (lb_ (.bool i.1) O_4 e0 a R4) (yS rfl (m_ j.v e0) QSn))) ?_)
     refine Lc1 rfl ?_
     refine Lk wn (yCall FN_110 (a2 e0 e0)) (sparseref01_make1_ok m F1 a) ?_
     rintro _ w ⟨c,rfl,a⟩
     refine ⟨_,rfl,?_⟩
     refine Dn [] [] [13] (Rn QSn ?_)
     refine Lc1 rfl ?_
     replace a:=a.k13
     refine LT wn (r_stbn (vals':=[.bool d.1,h.v]) (us:=[.bool d.1,h.v]) a ST_31 e0 e0 rfl rfl (one_of rfl) rfl) fun w a=>Dn [] [] [14] (Rn QSn ?_)
     refine Lc1 rfl ?_
     replace a:=a.k1h
     exact LT wn (r_stbn (vals':=[.bool g.1,c.v]) (us:=[.bool g.1,c.v]) a ST_31 e0 e0 rfl rfl (one_of rfl) rfl) fun w a=>Dz [] [] (Rn QSn (k _ _ ⟨_,_,_,_,rfl,rfl,rfl,rfl,rfl,((a.k23).facts (allC F2 (allT (allT (allT (allT allI))))))⟩))
   ·refine LB wn (rAl a ZT_31) fun r w a=>Dn [] [0,1,2,3,4,5,7,8,9] [6] (Rn (yS rfl (yFb FL_31_0 e0) (yS rfl (lb_ (.bool i.1) O_4 e0 a R4) (yS rfl (yFb FL_31_0 e0) (yS rfl (lb_ (.bool l.1) O_4 e0 a R3) (yS rfl (yneb (by kernel_rfl) e0 e0) (yS rfl (m_ p.v e0) (yS rfl (yFb FL_31_0 e0) (yS rfl (lb_ (.bool i.1) O_4 e0 a R4) (yS rfl (m_ j.v e0) QSn))))))))) ?_)
    refine Lc1 rfl ?_
    replace a:=(a.k1h).fz
    refine Lk wn (yCall FN_110 (a2 e0 e0)) (sparseref01_make1_ok I F0 a) ?_
    rintro _ w ⟨h,rfl,a⟩
    refine ⟨_,rfl,?_⟩
    refine Dn [] [7,8,9] [10] (Rn (yS rfl (yFb FL_31_0 e0) (yS rfl (lb_ (.bool i.1) O_4 e0 a R4) (yS rfl (m_ j.v e0) QSn))) ?_)
    refine Lc1 rfl ?_
    refine Lk wn (yCall FN_110 (a2 e0 e0)) (sparseref01_make1_ok m F1 a) ?_
    rintro _ w ⟨c,rfl,a⟩
    refine ⟨_,rfl,?_⟩
    refine Dn [] [] [13] (Rn QSn ?_)
    refine Lc1 rfl ?_
    replace a:=a.k13
    refine LT wn (r_stbn (vals':=[.bool d.1,h.v]) (us:=[.bool d.1,h.v]) a ST_31 e0 e0 rfl rfl (one_of rfl) rfl) fun w a=>Dn [] [] [14] (Rn QSn ?_)
    refine Lc1 rfl ?_
    replace a:=a.k13
    exact LT wn (r_stbn (vals':=[.bool g.1,c.v]) (us:=[.bool g.1,c.v]) a ST_31 e0 e0 rfl rfl (one_of rfl) rfl) fun w a=>Dz [] [] (Rn QSn (k _ _ ⟨_,_,_,_,rfl,rfl,rfl,rfl,rfl,((a.k23).facts (allC F2 (allT (allT (allT (allT allI))))))⟩))
  ·refine LB wn (rAl a ZT_31) fun r w a=>Dn [] [0,1,2,3,4,5,7,8,9] [6,11] (Rn (yS rfl (yFb FL_31_0 e0) (yS rfl (lb_ (.bool i.1) O_4 e0 a R3) (yS rfl (yFb FL_31_0 e0) (yS rfl (lb_ (.bool l.1) O_4 e0 a R2) (yS rfl (yneb (by kernel_rfl) e0 e0) (yS rfl (m_ p.v e0) (yS rfl (yFb FL_31_0 e0) (yS rfl (lb_ (.bool i.1) O_4 e0 a R3) (yS rfl (m_ j.v e0) QSn))))))))) ?_)
   refine Lc rfl ?_ (Lc1 rfl ?_)
   ·replace a:=a.k17
    replace a:=a.fz
    refine Lk wn (yCall FN_110 (a2 e0 e0)) (sparseref01_make1_ok I F0 a) ?_
    rintro _ w ⟨h,rfl,a⟩
    refine ⟨_,rfl,?_⟩
    refine Dn [] [7,8,9] [10,11] (Rn (yS rfl (yFb FL_31_0 e0) (yS rfl (lb_ (.bool i.1) O_4 e0 a R3) (yS rfl (m_ j.v e0) QSn))) ?_)
    refine Lc rfl ?_ (Lc1 rfl ?_)
    ·refine Lk wn (yCall FN_110 (a2 e0 e0)) (sparseref01_make1_ok m F1 a) ?_
     rintro _ w ⟨c,rfl,a⟩
     refine ⟨_,rfl,?_⟩
     refine Dn [] [] [11] (Rn QSn ?_)
     refine Lc1 rfl ?_
     refine LB wn (rAl a ZT_31) fun q w a=>Dn [] [] [13] (Rn QSn ?_)
     refine Lc1 rfl ?_
     refine LT wn (r_stbn (vals':=[.bool d.1,h.v]) (us:=[.bool d.1,h.v]) a ST_31 e0 e0 rfl rfl (one_of rfl) rfl) fun w a=>Dn [] [] [14] (Rn QSn ?_)
     refine Lc1 rfl ?_
     replace a:=a.k13
     exact LT wn (r_stbn (vals':=[.bool g.1,c.v]) (us:=[.bool g.1,c.v]) a ST_31 e0 e0 rfl rfl (one_of rfl) rfl) fun w a=>Dz [] [] (Rn QSn (k _ _ ⟨_,_,_,_,rfl,rfl,rfl,rfl,rfl,((a.k23).facts (allC F2 (allT (allT (allT (allT allI))))))⟩))
    ·refine LB wn (rAl a ZT_31) fun q w a=>Dn [] [7,8,9] [10] (Rn (yS rfl (yFb FL_31_0 e0) (yS rfl (lb_ (.bool i.1) O_4 e0 a R4) (yS rfl (m_ j.v e0) QSn))) ?_)
     refine Lc1 rfl ?_
     refine Lk wn (yCall FN_110 (a2 e0 e0)) (sparseref01_make1_ok m F1 a) ?_
     rintro _ w ⟨c,rfl,a⟩
     refine ⟨_,rfl,?_⟩
     refine Dn [] [] [13] (Rn QSn ?_)
     refine Lc1 rfl ?_
     replace a:=a.k17
     refine LT wn (r_stbn (vals':=[.bool d.1,h.v]) (us:=[.bool d.1,h.v]) a ST_31 e0 e0 rfl rfl (one_of rfl) rfl) fun w a=>Dn [] [] [14] (Rn QSn ?_)
     refine Lc1 rfl ?_
     replace a:=a.k13
     exact LT wn (r_stbn (vals':=[.bool g.1,c.v]) (us:=[.bool g.1,c.v]) a ST_31 e0 e0 rfl rfl (one_of rfl) rfl) fun w a=>Dz [] [] (Rn QSn (k _ _ ⟨_,_,_,_,rfl,rfl,rfl,rfl,rfl,((a.k23).facts (allC F2 (allT (allT (allT (allT allI))))))⟩))
   ·refine LB wn (rAl a ZT_31) fun q w a=>Dn [] [0,1,2,3,4,5,7,8,9] [6] (Rn (yS rfl (yFb FL_31_0 e0) (yS rfl (lb_ (.bool i.1) O_4 e0 a R4) (yS rfl (yFb FL_31_0 e0) (yS rfl (lb_ (.bool l.1) O_4 e0 a R3) (yS rfl (yneb (by kernel_rfl) e0 e0) (yS rfl (m_ p.v e0) (yS rfl (yFb FL_31_0 e0) (yS rfl (lb_ (.bool i.1) O_4 e0 a R4) (yS rfl (m_ j.v e0) QSn))))))))) ?_)
    refine Lc1 rfl ?_
    replace a:=(a.k1h).fz
    refine Lk wn (yCall FN_110 (a2 e0 e0)) (sparseref01_make1_ok I F0 a) ?_
    rintro _ w ⟨h,rfl,a⟩
    refine ⟨_,rfl,?_⟩
    refine Dn [] [7,8,9] [10] (Rn (yS rfl (yFb FL_31_0 e0) (yS rfl (lb_ (.bool i.1) O_4 e0 a R4) (yS rfl (m_ j.v e0) QSn))) ?_)
    refine Lc1 rfl ?_
    refine Lk wn (yCall FN_110 (a2 e0 e0)) (sparseref01_make1_ok m F1 a) ?_
    rintro _ w ⟨c,rfl,a⟩
    refine ⟨_,rfl,?_⟩
    refine Dn [] [] [13] (Rn QSn ?_)
    refine Lc1 rfl ?_
    replace a:=a.k1h
    refine LT wn (r_stbn (vals':=[.bool d.1,h.v]) (us:=[.bool d.1,h.v]) a ST_31 e0 e0 rfl rfl (one_of rfl) rfl) fun w a=>Dn [] [] [14] (Rn QSn ?_)
    refine Lc1 rfl ?_
    replace a:=a.k13
    exact LT wn (r_stbn (vals':=[.bool g.1,c.v]) (us:=[.bool g.1,c.v]) a ST_31 e0 e0 rfl rfl (one_of rfl) rfl) fun w a=>Dz [] [] (Rn QSn (k _ _ ⟨_,_,_,_,rfl,rfl,rfl,rfl,rfl,((a.k23).facts (allC F2 (allT (allT (allT (allT allI))))))⟩))
 rintro f w ⟨s,t,u,D,a6,R,S,o,x,a⟩
 refine c9 _ _ (sQ fun a7 d0=>sR fun _ d1=>yY (lbs_ [.bool g.1,D.v] ST_31 (eh x) a R6) (bE b fun f2 d2 b=>?_))
 replace a:=(a.k22).fz
 refine yC (yCall FN_34 (a1 e0)) (sparseref01_Sign_ok d2 F0 a) ?_
 rintro _ w ⟨rfl,a⟩
 refine ⟨_,rfl,?_⟩
 refine yY (ylss e0 rfl) (wK d1 ?_)
 have a8:∀ (E:Bool) (T:LI) (y:Bool) (U:LI) (F z:Hdr) (f:FV) w,f 4=(pB A)→f 5=(pB B)→f 8=(pB s)→f 9=(pB u)→St w0 (imm (rI .u32) z.v U::ros) (box A 31 [.bool false,hnil.v]::box B 31 [.bool false,hnil.v]::row 103 (rI .u32) F.v T::box s 31 [.bool E,F.v]::box u 31 [.bool y,z.v]::rs) w→sparseref01_DivMod_j3 E T y U=some out→a7 .normal (fr 50 f) w:=by
  intro E T y U F z f w a9 b0 d3 b1 a b
  refine d0 _ _ (sQ fun _ d4=>dR [0,0,1,7] [2,3] 2 folM ?_)
  replace a:=a.drew
  refine Dn [0,1] [] [2] (yR rfl (lbs_ [.bool E,F.v] ST_31 (eh d3) a R3) (yR rfl (lbs_ [.bool y,z.v] ST_31 (eh b1) a R4) (Rn QSn ?_)))
  refine Lc1 rfl ?_
  refine LT wn (r_stbn (vals':=[.bool E,F.v]) (us:=[.bool E,F.v]) a ST_31 (eh a9) e0 rfl rfl (one_of rfl) rfl) fun w a=>Dn [] [1] [3] (Rn (yS rfl (lbs_ [.bool y,z.v] ST_31 (eh b1) a R4) QSn) ?_)
  refine Lc1 rfl ?_
  replace a:=a.k17
  refine LT wn (r_stbn (vals':=[.bool y,z.v]) (us:=[.bool y,z.v]) a ST_31 (eh b0) e0 rfl rfl (one_of rfl) rfl) fun w a=>Dz [] [] (Rn QSn (d4 _ _ (wp_ret ?_)))
  cases b
  exact c2 _ _ _ (fin2r Tryz.results117 (rcs2 rfl a9 a R1 ST_31 rfl) (rcs2 rfl b0 a R0 ST_31 rfl) ⟨_,_,rfl,(a.k24)⟩)
 refine cIf e0 b (fun d5 b=>?_) fun d5 b=>?_
 ·refine sQ fun _ d6=>bE b fun f3 d7 b=>bE b fun J d8 b=>dR [0,0,2,7,15] [2,3,4] 3 folM ?_
  replace a:=a.drew
  refine Dn [0,1] [] [2] (yR rfl (lbs_ [.bool g.1,D.v] ST_31 (eh x) a R5) (yR rfl (lbs_ [.bool l.1,C.v] ST_31 (eh a6) a R0) (Rn QSn ?_)))
  refine Lc1 rfl ?_
  refine Lk wn (yCall FN_72 (a1 e0)) (sparseref01_Abs_ok d7 F1 a) ?_
  rintro _ w ⟨f4,rfl,a⟩
  refine ⟨_,rfl,?_⟩
  refine Dn [] [0] [3] (Rn (yS rfl (lbs_ [.bool g.1,D.v] ST_31 (eh x) a R6) QSn) ?_)
  refine Lc1 rfl ?_
  replace a:=a.fz
  refine Lk wn (yCall FN_111 (a2 e0 e0)) (sparseref01_Add_ok d8 F1 F0 a) ?_
  rintro _ w ⟨N,rfl,a⟩
  refine ⟨_,rfl,?_⟩
  refine Dn [] [] [4] (Rn QSn ?_)
  refine Lc1 rfl ?_
  replace a:=a.k25
  refine LT wn (r_stbn (vals':=[.bool J.1,N.v]) (us:=[.bool J.1,N.v]) a ST_31 (eh x) e0 rfl rfl (one_of rfl) rfl) fun w a=>Dz [] [] (Rn QSn (d6 _ _ (sR fun _ d9=>yY (yFb FL_31_0 (eh a6)) (yY (lb_ (.bool l.1) O_4 e0 a R2) (wK d9 ?_)))))
  have b2:∀ (V:Bool) (W:LI) (X:Hdr) (f:FV) w,f 4=(pB A)→f 5=(pB B)→f 8=(pB s)→f 9=(pB u)→St w0 ros (box A 31 [.bool false,hnil.v]::box B 31 [.bool false,hnil.v]::row 103 (rI .u32) X.v W::box s 31 [.bool V,X.v]::row 103 (rI .u32) N.v J.2::box u 31 [.bool J.1,N.v]::rs) w→sparseref01_DivMod_j4 J V W=some out→a7 .normal (fr 50 f) w:=by
   intro V W X f w e1 e2 e3 e4 a b
   replace a:=(a.k14).fz
   exact a8 _ _ _ _ _ _ _ _ e1 e2 e3 e4 a b
  refine cB e0 b (fun e5 b=>?_) fun e5 b=>?_
  ·refine bE b fun f5 e6 b=>bE b fun b3 e7 b=>dR [0,0,3,7] [1,2,3] 3 folM ?_
   replace a:=a.drew
   refine Dn [0] [] [1] (yR rfl (lbs_ [.bool d.1,t.v] ST_31 (eh o) a R6) (Rn QSn ?_))
   refine Lc1 rfl ?_
   refine Lk wn (yCall FN_84 (a1 rfl)) (sparseref01_FromInt_ok e6 a) ?_
   rintro _ w ⟨f6,rfl,a⟩
   refine ⟨_,rfl,?_⟩
   refine Dn [] [0] [2] (Rn (yS rfl (lbs_ [.bool d.1,t.v] ST_31 (eh o) a R7) QSn) ?_)
   refine Lc1 rfl ?_
   replace a:=((a.k25).fz).fz
   refine Lk wn (yCall FN_111 (a2 e0 e0)) (sparseref01_Add_ok e7 F1 F0 a) ?_
   rintro _ w ⟨b4,rfl,a⟩
   refine ⟨_,rfl,?_⟩
   refine Dn [] [] [3] (Rn QSn ?_)
   refine Lc1 rfl ?_
   replace a:=a.k25
   exact LT wn (r_stbn (vals':=[.bool b3.1,b4.v]) (us:=[.bool b3.1,b4.v]) a ST_31 (eh o) e0 rfl rfl (one_of rfl) rfl) fun w a=>Dz [] [] (Rn QSn (b2 _ _ _ _ _ R S o x ((a.k26).facts (allT (allT (allT (allT (allT allI)))))) b))
  ·refine bE b fun f7 e8 b=>bE b fun b5 e9 b=>dR [0,0,3,7] [1,2,3] 3 folM ?_
   replace a:=a.drew
   refine Dn [0] [] [1] (yR rfl (lbs_ [.bool d.1,t.v] ST_31 (eh o) a R6) (Rn QSn ?_))
   refine Lc1 rfl ?_
   refine Lk wn (yCall FN_84 (a1 rfl)) (sparseref01_FromInt_ok e8 a) ?_
   rintro _ w ⟨f8,rfl,a⟩
   refine ⟨_,rfl,?_⟩
   refine Dn [] [0] [2] (Rn (yS rfl (lbs_ [.bool d.1,t.v] ST_31 (eh o) a R7) QSn) ?_)
   refine Lc1 rfl ?_
   replace a:=((a.k25).fz).fz
   refine Lk wn (yCall FN_105 (a2 e0 e0)) (sparseref01_Sub_ok e9 F1 F0 a) ?_
   rintro _ w ⟨b6,rfl,a⟩
   refine ⟨_,rfl,?_⟩
   refine Dn [] [] [3] (Rn QSn ?_)
   refine Lc1 rfl ?_
   replace a:=a.k25
   exact LT wn (r_stbn (vals':=[.bool b5.1,b6.v]) (us:=[.bool b5.1,b6.v]) a ST_31 (eh o) e0 rfl rfl (one_of rfl) rfl) fun w a=>Dz [] [] (Rn QSn (b2 _ _ _ _ _ R S o x ((a.k26).facts (allT (allT (allT (allT (allT allI)))))) b))
 ·exact wp_skip (a8 _ _ _ _ _ _ _ _ R S o x ((a.k27).facts (allC F0 (allT (allT allI)))) b)
theorem sparseref01_GCD_ok {q:Bool} {W:LI} {i:Bool} {X:LI} {r j:Hdr} {out:Bool×LI} (A:sparseref01_GCD q W i X=some out) (F:imm (rI .u32) r.v W∈ros) (m:imm (rI .u32) j.v X∈ros) (b:St w0 ros rs w):
  Calls Tryz.prog 88 #[.agg #[.bool q,r.v],.agg #[.bool i,j.v]] w (fun e w=>∃ (Z:Hdr),e=.returned (.agg #[.bool out.1,Z.v])∧St w0 (imm (rI .u32) Z.v out.2::ros) rs w):=by
 refine enterQ Tryz.func88 rfl Tryz.ntmps88 rfl fun Q a4=>sR fun _ a5=>yBb (r_box (vals:=[.bool q,r.v]) b e0 rfl) fun d1 w b=>yBb (r_box (vals:=[.bool i,j.v]) b e0 rfl) fun d2 w b=>yBb (rAl b ZT_31) fun C w b=>wK a5 (sQ fun _ a6=>bE A fun g G A=>bE A fun h o A=>?_)
 refine joinN (n:=25) (fun f w=>∃ (B:Nat) (O:Hdr) (H:Nat) (R:Hdr),f 4=(pB C)∧f 5=(pB B)∧f 6=(pB H)∧St w0 ros (box C 31 [.bool false,hnil.v]::row 103 (rI .u32) O.v g.2::box B 31 [.bool g.1,O.v]::row 103 (rI .u32) R.v h.2::box H 31 [.bool h.1,R.v]::rs) w) (fun k=>?_) ?_
 ·refine dR [0,1,0,7,0,0,63,127] [1,3,4,5,6,7] 6 folM ?_
  replace b:=b.drew
  refine Dn [0,2] [] [1,4,5] (yR rfl (lbs_ [.bool q,r.v] ST_31 e0 b R2) (yR rfl (lbs_ [.bool i,j.v] ST_31 e0 b R1) (Rn QSn ?_)))
  refine Lc rfl ?_ (Lc rfl ?_ (Lc1 rfl ?_))
  ·refine Lk wn (yCall FN_72 (a1 e0)) (sparseref01_Abs_ok G F b) ?_
   rintro _ w ⟨d,rfl,b⟩
   refine ⟨_,rfl,?_⟩
   refine Dn [] [2] [3,4,5] (Rn (yS rfl (lbs_ [.bool i,j.v] ST_31 e0 b R2) QSn) ?_)
   refine Lc rfl ?_ (Lc rfl ?_ (Lc1 rfl ?_))
   ·refine Lk wn (yCall FN_72 (a1 e0)) (sparseref01_Abs_ok o m b) ?_
    rintro _ w ⟨c,rfl,b⟩
    refine ⟨_,rfl,?_⟩
    refine Dn [] [] [4,5] (Rn QSn ?_)
    refine Lc rfl ?_ (Lc1 rfl ?_)
    ·refine LB wn (rAl b ZT_31) fun t w b=>Dn [] [] [5] (Rn QSn ?_)
     refine Lc1 rfl ?_
     refine LB wn (rAl b ZT_31) fun u w b=>Dn [] [] [6] (Rn QSn ?_)
     refine Lc1 rfl ?_
     replace b:=b.k17
     refine LT wn (r_stbn (vals':=[.bool g.1,d.v]) (us:=[.bool g.1,d.v]) b ST_31 e0 e0 rfl rfl (one_of rfl) rfl) fun w b=>Dn [] [] [7] (Rn QSn ?_)
     refine Lc1 rfl ?_
     replace b:=b.k17
     exact LT wn (r_stbn (vals':=[.bool h.1,c.v]) (us:=[.bool h.1,c.v]) b ST_31 e0 e0 rfl rfl (one_of rfl) rfl) fun w b=>Dz [] [] (Rn QSn (k _ _ ⟨_,_,_,_,rfl,rfl,rfl,(b.k28)⟩))
    ·refine LB wn (rAl b ZT_31) fun u w b=>Dn [] [] [4] (Rn QSn ?_)
     refine Lc1 rfl ?_
     refine LB wn (rAl b ZT_31) fun t w b=>Dn [] [] [6] (Rn QSn ?_)
     refine Lc1 rfl ?_
     refine LT wn (r_stbn (vals':=[.bool g.1,d.v]) (us:=[.bool g.1,d.v]) b ST_31 e0 e0 rfl rfl (one_of rfl) rfl) fun w b=>Dn [] [] [7] (Rn QSn ?_)
     refine Lc1 rfl ?_
     replace b:=b.k17
     exact LT wn (r_stbn (vals':=[.bool h.1,c.v]) (us:=[.bool h.1,c.v]) b ST_31 e0 e0 rfl rfl (one_of rfl) rfl) fun w b=>Dz [] [] (Rn QSn (k _ _ ⟨_,_,_,_,rfl,rfl,rfl,(b.k28)⟩))
   ·refine LB wn (rAl b ZT_31) fun t w b=>Dn [] [2] [3,5] (Rn (yS rfl (lbs_ [.bool i,j.v] ST_31 e0 b R3) QSn) ?_)
    refine Lc rfl ?_ (Lc1 rfl ?_)
    ·refine Lk wn (yCall FN_72 (a1 e0)) (sparseref01_Abs_ok o m b) ?_
     rintro _ w ⟨c,rfl,b⟩
     refine ⟨_,rfl,?_⟩
     refine Dn [] [] [5] (Rn QSn ?_)
     refine Lc1 rfl ?_
     refine LB wn (rAl b ZT_31) fun u w b=>Dn [] [] [6] (Rn QSn ?_)
     refine Lc1 rfl ?_
     replace b:=b.k1h
     refine LT wn (r_stbn (vals':=[.bool g.1,d.v]) (us:=[.bool g.1,d.v]) b ST_31 e0 e0 rfl rfl (one_of rfl) rfl) fun w b=>Dn [] [] [7] (Rn QSn ?_)
     refine Lc1 rfl ?_
     replace b:=b.k17
     exact LT wn (r_stbn (vals':=[.bool h.1,c.v]) (us:=[.bool h.1,c.v]) b ST_31 e0 e0 rfl rfl (one_of rfl) rfl) fun w b=>Dz [] [] (Rn QSn (k _ _ ⟨_,_,_,_,rfl,rfl,rfl,(b.k28)⟩))
    ·refine LB wn (rAl b ZT_31) fun u w b=>Dn [] [2] [3] (Rn (yS rfl (lbs_ [.bool i,j.v] ST_31 e0 b R4) QSn) ?_)
     refine Lc1 rfl ?_
     refine Lk wn (yCall FN_72 (a1 e0)) (sparseref01_Abs_ok o m b) ?_
     rintro _ w ⟨c,rfl,b⟩
     refine ⟨_,rfl,?_⟩
     refine Dn [] [] [6] (Rn QSn ?_)
     refine Lc1 rfl ?_
     replace b:=b.k1h
     refine LT wn (r_stbn (vals':=[.bool g.1,d.v]) (us:=[.bool g.1,d.v]) b ST_31 e0 e0 rfl rfl (one_of rfl) rfl) fun w b=>Dn [] [] [7] (Rn QSn ?_)
     refine Lc1 rfl ?_
     replace b:=b.k1h
     exact LT wn (r_stbn (vals':=[.bool h.1,c.v]) (us:=[.bool h.1,c.v]) b ST_31 e0 e0 rfl rfl (one_of rfl) rfl) fun w b=>Dz [] [] (Rn QSn (k _ _ ⟨_,_,_,_,rfl,rfl,rfl,(b.k28)⟩))
   ·refine LB wn (rAl b ZT_31) fun u w b=>Dn [] [2] [3,4] (Rn (yS rfl (lbs_ [.bool i,j.v] ST_31 e0 b R3) QSn) ?_)
    refine Lc rfl ?_ (Lc1 rfl ?_)
    ·refine Lk wn (yCall FN_72 (a1 e0)) (sparseref01_Abs_ok o m b) ?_
     rintro _ w ⟨c,rfl,b⟩
     refine ⟨_,rfl,?_⟩
     refine Dn [] [] [4] (Rn QSn ?_)
     refine Lc1 rfl ?_
     refine LB wn (rAl b ZT_31) fun t w b=>Dn [] [] [6] (Rn QSn ?_)
     refine Lc1 rfl ?_
     refine LT wn (r_stbn (vals':=[.bool g.1,d.v]) (us:=[.bool g.1,d.v]) b ST_31 e0 e0 rfl rfl (one_of rfl) rfl) fun w b=>Dn [] [] [7] (Rn QSn ?_)
     refine Lc1 rfl ?_
     replace b:=b.k1h
     exact LT wn (r_stbn (vals':=[.bool h.1,c.v]) (us:=[.bool h.1,c.v]) b ST_31 e0 e0 rfl rfl (one_of rfl) rfl) fun w b=>Dz [] [] (Rn QSn (k _ _ ⟨_,_,_,_,rfl,rfl,rfl,(b.k28)⟩))
    ·refine LB wn (rAl b ZT_31) fun t w b=>Dn [] [2] [3] (Rn (yS rfl (lbs_ [.bool i,j.v] ST_31 e0 b R4) QSn) ?_)
     refine Lc1 rfl ?_
     refine Lk wn (yCall FN_72 (a1 e0)) (sparseref01_Abs_ok o m b) ?_
     rintro _ w ⟨c,rfl,b⟩
     refine ⟨_,rfl,?_⟩
     refine Dn [] [] [6] (Rn QSn ?_)
     refine Lc1 rfl ?_
     replace b:=b.k17
     refine LT wn (r_stbn (vals':=[.bool g.1,d.v]) (us:=[.bool g.1,d.v]) b ST_31 e0 e0 rfl rfl (one_of rfl) rfl) fun w b=>Dn [] [] [7] (Rn QSn ?_)
     refine Lc1 rfl ?_
     replace b:=b.k1h
     exact LT wn (r_stbn (vals':=[.bool h.1,c.v]) (us:=[.bool h.1,c.v]) b ST_31 e0 e0 rfl rfl (one_of rfl) rfl) fun w b=>Dz [] [] (Rn QSn (k _ _ ⟨_,_,_,_,rfl,rfl,rfl,(b.k28)⟩))
  ·refine LB wn (rAl b ZT_31) fun t w b=>Dn [] [0,2] [1,5] (Rn (yS rfl (lbs_ [.bool q,r.v] ST_31 e0 b R3) (yS rfl (lbs_ [.bool i,j.v] ST_31 e0 b R2) QSn)) ?_)
   refine Lc rfl ?_ (Lc1 rfl ?_)
   ·refine Lk wn (yCall FN_72 (a1 e0)) (sparseref01_Abs_ok G F b) ?_
    rintro _ w ⟨d,rfl,b⟩
    refine ⟨_,rfl,?_⟩
    refine Dn [] [2] [3,5] (Rn (yS rfl (lbs_ [.bool i,j.v] ST_31 e0 b R3) QSn) ?_)
    refine Lc rfl ?_ (Lc1 rfl ?_)
    ·refine Lk wn (yCall FN_72 (a1 e0)) (sparseref01_Abs_ok o m b) ?_
     rintro _ w ⟨c,rfl,b⟩
     refine ⟨_,rfl,?_⟩
     refine Dn [] [] [5] (Rn QSn ?_)
     refine Lc1 rfl ?_
     refine LB wn (rAl b ZT_31) fun u w b=>Dn [] [] [6] (Rn QSn ?_)
     refine Lc1 rfl ?_
     replace b:=b.k13
     refine LT wn (r_stbn (vals':=[.bool g.1,d.v]) (us:=[.bool g.1,d.v]) b ST_31 e0 e0 rfl rfl (one_of rfl) rfl) fun w b=>Dn [] [] [7] (Rn QSn ?_)
     refine Lc1 rfl ?_
     replace b:=b.k17
     exact LT wn (r_stbn (vals':=[.bool h.1,c.v]) (us:=[.bool h.1,c.v]) b ST_31 e0 e0 rfl rfl (one_of rfl) rfl) fun w b=>Dz [] [] (Rn QSn (k _ _ ⟨_,_,_,_,rfl,rfl,rfl,(b.k28)⟩))
    ·refine LB wn (rAl b ZT_31) fun u w b=>Dn [] [2] [3] (Rn (yS rfl (lbs_ [.bool i,j.v] ST_31 e0 b R4) QSn) ?_)
     refine Lc1 rfl ?_
     refine Lk wn (yCall FN_72 (a1 e0)) (sparseref01_Abs_ok o m b) ?_
     rintro _ w ⟨c,rfl,b⟩
     refine ⟨_,rfl,?_⟩
     refine Dn [] [] [6] (Rn QSn ?_)
     refine Lc1 rfl ?_
     replace b:=b.k13
     refine LT wn (r_stbn (vals':=[.bool g.1,d.v]) (us:=[.bool g.1,d.v]) b ST_31 e0 e0 rfl rfl (one_of rfl) rfl) fun w b=>Dn [] [] [7] (Rn QSn ?_)
     refine Lc1 rfl ?_
     replace b:=b.k1h
     exact LT wn (r_stbn (vals':=[.bool h.1,c.v]) (us:=[.bool h.1,c.v]) b ST_31 e0 e0 rfl rfl (one_of rfl) rfl) fun w b=>Dz [] [] (Rn QSn (k _ _ ⟨_,_,_,_,rfl,rfl,rfl,(b.k28)⟩))
   ·refine LB wn (rAl b ZT_31) fun u w b=>Dn [] [0,2] [1] (Rn (yS rfl (lbs_ [.bool q,r.v] ST_31 e0 b R4) (yS rfl (lbs_ [.bool i,j.v] ST_31 e0 b R3) QSn)) ?_)
    refine Lc1 rfl ?_
    refine Lk wn (yCall FN_72 (a1 e0)) (sparseref01_Abs_ok G F b) ?_
    rintro _ w ⟨d,rfl,b⟩
    refine ⟨_,rfl,?_⟩
    refine Dn [] [2] [3] (Rn (yS rfl (lbs_ [.bool i,j.v] ST_31 e0 b R4) QSn) ?_)
    refine Lc1 rfl ?_
    refine Lk wn (yCall FN_72 (a1 e0)) (sparseref01_Abs_ok o m b) ?_
    rintro _ w ⟨c,rfl,b⟩
    refine ⟨_,rfl,?_⟩
    refine Dn [] [] [6] (Rn QSn ?_)
    refine Lc1 rfl ?_
    replace b:=b.k13
    refine LT wn (r_stbn (vals':=[.bool g.1,d.v]) (us:=[.bool g.1,d.v]) b ST_31 e0 e0 rfl rfl (one_of rfl) rfl) fun w b=>Dn [] [] [7] (Rn QSn ?_)
    refine Lc1 rfl ?_
    replace b:=b.k13
    exact LT wn (r_stbn (vals':=[.bool h.1,c.v]) (us:=[.bool h.1,c.v]) b ST_31 e0 e0 rfl rfl (one_of rfl) rfl) fun w b=>Dz [] [] (Rn QSn (k _ _ ⟨_,_,_,_,rfl,rfl,rfl,(b.k28)⟩))
  ·refine LB wn (rAl b ZT_31) fun u w b=>Dn [] [0,2] [1,4] (Rn (yS rfl (lbs_ [.bool q,r.v] ST_31 e0 b R3) (yS rfl (lbs_ [.bool i,j.v] ST_31 e0 b R2) QSn)) ?_)
   refine Lc rfl ?_ (Lc1 rfl ?_)
   ·refine Lk wn (yCall FN_72 (a1 e0)) (sparseref01_Abs_ok G F b) ?_
    rintro _ w ⟨d,rfl,b⟩
    refine ⟨_,rfl,?_⟩
    refine Dn [] [2] [3,4] (Rn (yS rfl (lbs_ [.bool i,j.v] ST_31 e0 b R3) QSn) ?_)
    refine Lc rfl ?_ (Lc1 rfl ?_)
    ·refine Lk wn (yCall FN_72 (a1 e0)) (sparseref01_Abs_ok o m b) ?_
     rintro _ w ⟨c,rfl,b⟩
     refine ⟨_,rfl,?_⟩
     refine Dn [] [] [4] (Rn QSn ?_)
     refine Lc1 rfl ?_
     refine LB wn (rAl b ZT_31) fun t w b=>Dn [] [] [6] (Rn QSn ?_)
     refine Lc1 rfl ?_
     refine LT wn (r_stbn (vals':=[.bool g.1,d.v]) (us:=[.bool g.1,d.v]) b ST_31 e0 e0 rfl rfl (one_of rfl) rfl) fun w b=>Dn [] [] [7] (Rn QSn ?_)
     refine Lc1 rfl ?_
     replace b:=b.k13
     exact LT wn (r_stbn (vals':=[.bool h.1,c.v]) (us:=[.bool h.1,c.v]) b ST_31 e0 e0 rfl rfl (one_of rfl) rfl) fun w b=>Dz [] [] (Rn QSn (k _ _ ⟨_,_,_,_,rfl,rfl,rfl,(b.k28)⟩))
    ·refine LB wn (rAl b ZT_31) fun t w b=>Dn [] [2] [3] (Rn (yS rfl (lbs_ [.bool i,j.v] ST_31 e0 b R4) QSn) ?_)
     refine Lc1 rfl ?_
     refine Lk wn (yCall FN_72 (a1 e0)) (sparseref01_Abs_ok o m b) ?_
     rintro _ w ⟨c,rfl,b⟩
     refine ⟨_,rfl,?_⟩
     refine Dn [] [] [6] (Rn QSn ?_)
     refine Lc1 rfl ?_
     replace b:=b.k17
     refine LT wn (r_stbn (vals':=[.bool g.1,d.v]) (us:=[.bool g.1,d.v]) b ST_31 e0 e0 rfl rfl (one_of rfl) rfl) fun w b=>Dn [] [] [7] (Rn QSn ?_)
     refine Lc1 rfl ?_
     replace b:=b.k13
     exact LT wn (r_stbn (vals':=[.bool h.1,c.v]) (us:=[.bool h.1,c.v]) b ST_31 e0 e0 rfl rfl (one_of rfl) rfl) fun w b=>Dz [] [] (Rn QSn (k _ _ ⟨_,_,_,_,rfl,rfl,rfl,(b.k28)⟩))
   ·refine LB wn (rAl b ZT_31) fun t w b=>Dn [] [0,2] [1] (Rn (yS rfl (lbs_ [.bool q,r.v] ST_31 e0 b R4) (yS rfl (lbs_ [.bool i,j.v] ST_31 e0 b R3) QSn)) ?_)
    refine Lc1 rfl ?_
    refine Lk wn (yCall FN_72 (a1 e0)) (sparseref01_Abs_ok G F b) ?_
    rintro _ w ⟨d,rfl,b⟩
    refine ⟨_,rfl,?_⟩
    refine Dn [] [2] [3] (Rn (yS rfl (lbs_ [.bool i,j.v] ST_31 e0 b R4) QSn) ?_)
    refine Lc1 rfl ?_
    refine Lk wn (yCall FN_72 (a1 e0)) (sparseref01_Abs_ok o m b) ?_
    rintro _ w ⟨c,rfl,b⟩
    refine ⟨_,rfl,?_⟩
    refine Dn [] [] [6] (Rn QSn ?_)
    refine Lc1 rfl ?_
    replace b:=b.k1h
    refine LT wn (r_stbn (vals':=[.bool g.1,d.v]) (us:=[.bool g.1,d.v]) b ST_31 e0 e0 rfl rfl (one_of rfl) rfl) fun w b=>Dn [] [] [7] (Rn QSn ?_)
    refine Lc1 rfl ?_
    replace b:=b.k13
    exact LT wn (r_stbn (vals':=[.bool h.1,c.v]) (us:=[.bool h.1,c.v]) b ST_31 e0 e0 rfl rfl (one_of rfl) rfl) fun w b=>Dz [] [] (Rn QSn (k _ _ ⟨_,_,_,_,rfl,rfl,rfl,(b.k28)⟩))
 rintro f w ⟨B,O,H,R,a7,a8,a9,b⟩
 refine a6 _ _ (sQ fun _ b0=>blockQ fun b1 b2=>bE A fun b3 b4 A=>?_)
 have b5:∀ (D:Bool) (S:LI) (E:Hdr) (f:FV) w,f 4=(pB C)→f 5=(pB B)→St w0 (imm (rI .u32) E.v S::ros) (box C 31 [.bool false,hnil.v]::box B 31 [.bool D,E.v]::rs) w→(D,S)=b3→b1 (.exit 0) (fr 25 f) w:=by
  intro D S E f w a0 b6 b ho
  subst ho
  refine b2 _ _ _ (b0 _ _ (sR fun _ c0=>yY (lbs_ [.bool D,E.v] ST_31 (eh b6) b R1) (yT (r_stbn (vals':=[.bool D,E.v]) (us:=[.bool D,E.v]) b ST_31 (eh a0) e0 rfl rfl (one_of rfl) rfl) fun w b=>wK c0 (wp_ret ?_))))
  cases A
  exact a4 _ _ _ (fin1r Tryz.results88 (rcs2 rfl a0 b R0 ST_31 rfl) ⟨_,rfl,(b.k19)⟩)
 replace b:=(((b.k17).fz).k1h).fz
 refine loopQ (fun s a w=>∃ (J:Bool) (T:LI) (x:Bool) (U:LI) (f:FV) (K y:Hdr),(J,T,x,U)=s∧a=fr 25 f∧f 4=(pB C)∧f 5=(pB B)∧f 6=(pB H)∧St w0 (imm (rI .u32) K.v T::imm (rI .u32) y.v U::ros) (box C 31 [.bool false,hnil.v]::box B 31 [.bool J,K.v]::box H 31 [.bool x,y.v]::rs) w) b4 ⟨_,_,_,_,_,_,_,rfl,rfl,a7,a8,a9,(b.facts (allC F1 (allC F0 (allT (allT allI)))))⟩ ?_
 rintro _ _ w d3 ⟨J,T,x,U,f,K,y,rfl,rfl,a3,L,I,b⟩ p c1 d4 c2 c3
 refine seqQ fun d5 c4 c5=>sR fun _ c6=>yY (lbs_ [.bool x,y.v] ST_31 (eh I) b R2) (bE p fun d6 c7 p=>yC (yCall FN_34 (a1 e0)) (sparseref01_Sign_ok c7 F1 b) ?_)
 rintro _ w ⟨rfl,b⟩
 refine ⟨_,rfl,?_⟩
 refine yY (yneq e0 rfl) (wK c6 ?_)
 rcases iteS p with ⟨V,p⟩ | ⟨V,p⟩
 ·refine condF e0 (nF (dT V)) (wp_exit (c5 _ _ _ rfl ?_))
  cases p
  exact c3 _ _ _ _ rfl rfl (b5 _ _ _ _ _ a3 L ((b.k29).facts (allC F0 (allT (allT allI)))) (c1 _ rfl))
 ·refine condT e0 (nT (dF V)) (wp_skip (c4 _ _ (blockQ fun _ c8=>sR fun _ c9=>yY (lbs_ [.bool J,K.v] ST_31 (eh L) b R1) (yY (lbs_ [.bool x,y.v] ST_31 (eh I) b R2) (bE p fun l d0 p=>yC (yCall FN_117 (a2 e0 e0)) (sparseref01_DivMod_ok d0 F0 F1 b) ?_)))))
  rintro _ w ⟨N,z,rfl,b⟩
  refine ⟨_,rfl,?_⟩
  refine Ym (.tuple #[.agg #[.bool l.1,N.v],.agg #[.bool l.2.2.1,z.v]]) e0 (yY (x_ (.agg #[.bool l.1,N.v]) e0) (yY (x_ (.agg #[.bool l.2.2.1,z.v]) e0) (yBb (rAl b ZT_31) fun d7 w b=>yBb (rAl b ZT_31) fun d8 w b=>yT (r_stbn (vals':=[.bool l.1,N.v]) (us:=[.bool l.1,N.v]) (b.k17) ST_31 e0 e0 rfl rfl (one_of rfl) rfl) fun w b=>yT (r_stbn (vals':=[.bool l.2.2.1,z.v]) (us:=[.bool l.2.2.1,z.v]) (b.k17) ST_31 e0 e0 rfl rfl (one_of rfl) rfl) fun w b=>wK c9 (dR [0,0,1,7] [2,3] 2 folM ?_))))
  replace b:=b.drew
  refine Dn [0,1] [] [2] (yR rfl (lbs_ [.bool x,y.v] ST_31 (eh I) b R5) (yR rfl (lbs_ [.bool l.2.2.1,z.v] ST_31 e0 b R0) (Rn QSn ?_)))
  refine Lc1 rfl ?_
  replace b:=b.k14
  refine LT wn (r_stbn (vals':=[.bool x,y.v]) (us:=[.bool x,y.v]) b ST_31 (eh L) e0 rfl rfl (one_of rfl) rfl) fun w b=>Dn [] [1] [3] (Rn (yS rfl (lbs_ [.bool l.2.2.1,z.v] ST_31 e0 b R1) QSn) ?_)
  refine Lc1 rfl ?_
  replace b:=b.k22
  refine LT wn (r_stbn (vals':=[.bool l.2.2.1,z.v]) (us:=[.bool l.2.2.1,z.v]) b ST_31 (eh I) e0 rfl rfl (one_of rfl) rfl) fun w b=>Dz [] [] (Rn QSn (c8 _ _ _ ?_))
  cases p
  exact c2 _ _ _ rfl ⟨_,_,_,_,_,_,_,rfl,rfl,a3,L,I,((b.k2a).facts (allC F2 (allC F0 (allT (allT (allT allI))))))⟩
theorem sparseref01_Quo_ok {g:Bool} {l:LI} {h:Bool} {m:LI} {i j:Hdr} {out:Bool×LI×Bool} (c:sparseref01_Quo g l h m=some out) (p:imm (rI .u32) i.v l∈ros) (q:imm (rI .u32) j.v m∈ros) (a:St w0 ros rs w):
  Calls Tryz.prog 87 #[.agg #[.bool g,i.v],.agg #[.bool h,j.v]] w (fun e w=>∃ (n:Hdr),e=.returned (.tuple #[.agg #[.bool out.1,n.v],.bool out.2.2])∧St w0 ros (row 103 (rI .u32) n.v out.2.1::rs) w):=by
 refine enterQ Tryz.func87 rfl Tryz.ntmps87 rfl fun Q o=>sR fun _ r=>yBb (r_box (vals:=[.bool g,i.v]) a e0 rfl) fun C w a=>yBb (r_box (vals:=[.bool h,j.v]) a e0 rfl) fun D w a=>yBb (rAl a ZT_31) fun E w a=>Ya (.bool false) rfl (wK r (sR fun _ s=>?_))
 refine yY (lbs_ [.bool g,i.v] ST_31 e0 a R2) (yY (lbs_ [.bool h,j.v] ST_31 e0 a R1) (bE c fun b t c=>yC (yCall FN_117 (a2 e0 e0)) (sparseref01_DivMod_ok t p q a) ?_))
 rintro _ w ⟨d,f,rfl,a⟩
 refine ⟨_,rfl,?_⟩
 refine Ym (.tuple #[.agg #[.bool b.1,d.v],.agg #[.bool b.2.2.1,f.v]]) e0 (yY (x_ (.agg #[.bool b.1,d.v]) e0) (yY (x_ (.agg #[.bool b.2.2.1,f.v]) e0) (yBb (rAl a ZT_31) fun F w a=>yBb (rAl a ZT_31) fun G w a=>yT (r_stbn (vals':=[.bool b.1,d.v]) (us:=[.bool b.1,d.v]) (a.k17) ST_31 e0 e0 rfl rfl (one_of rfl) rfl) fun w a=>yT (r_stbn (vals':=[.bool b.2.2.1,f.v]) (us:=[.bool b.2.2.1,f.v]) (a.k17) ST_31 e0 e0 rfl rfl (one_of rfl) rfl) fun w a=>wK s (seqQ fun H u x=>?_))))
 refine sR fun _ y=>yY (lbs_ [.bool b.2.2.1,f.v] ST_31 e0 a R0) (bE c fun I z c=>yC (yCall FN_34 (a1 e0)) (sparseref01_Sign_ok z F0 a) ?_)
 rintro _ w ⟨rfl,a⟩
 refine ⟨_,rfl,?_⟩
 refine yY (yneq e0 rfl) (wK y ?_)
 rcases iteS c with ⟨k,c⟩ | ⟨k,c⟩
 ·refine condF e0 (nF (dT k)) (wp_skip (u _ _ (sR fun _ A=>yY (lbs_ [.bool b.1,d.v] ST_31 e0 a R1) (yT (r_stbn (vals':=[.bool b.1,d.v]) (us:=[.bool b.1,d.v]) (a.k13) ST_31 e0 e0 rfl rfl (one_of rfl) rfl) fun w a=>Ya (.bool true) rfl (wK A (wp_ret ?_))))))
  cases c
  exact o _ _ _ (fin2r Tryz.results87 (rcs2 rfl rfl a R0 ST_31 rfl) ⟨rfl,rfl⟩ ⟨_,rfl,((a.k2b).facts (allT allI))⟩)
 ·refine condT e0 (nT (dF k)) (sR fun _ B=>yY (ybuild (us:=[.bool false,hnil.v]) [] SO_31 bp0 rfl) (yT (r_stbn (vals':=[.bool false,hnil.v]) (us:=[.bool false,hnil.v]) (a.k13) ST_31 e0 e0 rfl rfl (one_of rfl) rfl) fun w a=>Ya (.bool false) rfl (wK B (wp_ret (x _ _ _ rfl ?_)))))
  cases c
  replace a:=a.rowNh 103 (rI .u32)
  exact o _ _ _ (fin2r Tryz.results87 (rcs2 rfl rfl a R1 ST_31 rfl) ⟨rfl,rfl⟩ ⟨_,rfl,((a.k2c).facts (allT allI))⟩)
end Go.Proofs.YtpfmbaidflhamaaGreatDoor
