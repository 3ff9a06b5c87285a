/- Walks: each function computes its model, printed. -/
import Derived.Test.YtpfmbaidflhamaaDoorW0
namespace Go.Proofs.YtpfmbaidflhamaaDoor
open Go Sx M
set_option maxRecDepth 100000
set_option maxHeartbeats 40000000
set_option linter.unusedVariables false
attribute [local irreducible] wpList Code.wp Calls DR QR QS LA LS St
variable {w0:World} {ros:List Fact} {rs:List Res} {w:World}
theorem exact_twin_ok {q:List (List (Bool×LI))} {O:List (Bool×LI)} {k j:Hdr} {out:(List (List (Bool×LI)))} (m:exact_twin q O=some out) (G:imm (rS (rP rB (rS (rI .u32)))) k.v q∈ros) (H:imm (rP rB (rS (rI .u32))) j.v O∈ros) (b:St w0 ros rs w):
  Calls Tryd.prog 27 #[k.v,j.v] w (fun e w=>∃ (R:Hdr) (S:List Hdr),e=.returned (R.v)∧St w0 ros (row 31 rH R.v S::fam 34 (rP rB (rS (rI .u32))) S out::rs) w):=by
 refine enterQ Tryd.func27 rfl Tryd.ntmps27 rfl fun Q c1=>sR fun _ c2=>Ya hnil.v rfl (wK c2 (sR fun _ c3=>Ya hnil.v rfl (wK c3 (sQ fun _ c4=>sR fun _ c5=>?_))))
 refine Ym k.v e0 (yY (yLen SL_25 e0 b (rdI G)) (Ym (iV 0) rfl (wK c5 (blockQ fun c6 c7=>bE m fun c8 c9 m=>?_))))
 have d0:∀ (I:List (List (Bool×LI))) (r:Hdr) (J:List Hdr) (f:FV) w,f 5=r.v→St w0 ros (row 31 rH r.v J::fam 34 (rP rB (rS (rI .u32))) J I::rs) w→I=c8→c6 (.exit 0) (fr 48 f) w:=by
  intro I r J f w d1 b ho
  subst ho
  refine c7 _ _ _ (c4 _ _ (sR fun _ d2=>Ym r.v (eh d1) (Ya r.v e0 (wK d2 (wp_ret ?_)))))
  cases m
  exact c1 _ _ _ (fin1r Tryd.results27 ⟨rfl,rfl⟩ ⟨_,_,rfl,b⟩)
 replace b:=((b.rowNh 31 rH).fNew 34 (rP rB (rS (rI .u32)))).k10
 refine loopQ (fun s a w=>∃ (o:List (List (Bool×LI))) (d:Int) (f:FV) (h:Hdr) (i:List Hdr),(o,d)=s∧a=fr 48 f∧f 1=j.v∧f 5=h.v∧f 11=k.v∧f 12=iV (q.length:Int)∧f 13=iV d∧St w0 ros (row 31 rH h.v i::fam 34 (rP rB (rS (rI .u32))) i o::rs) w) c9 ⟨_,_,_,_,_,rfl,rfl,rfl,rfl,rfl,rfl,rfl,b⟩ ?_
 rintro _ _ w d3 ⟨o,d,f,h,i,rfl,rfl,d4,T,U,V,t,b⟩ c d5 i6 d6 d7
 refine sR fun _ d8=>yY (ylss (eh t) (eh V)) (wK d8 (seqQ fun i7 d9 e1=>?_))
 refine cIf e0 c (fun e2 c=>?_) fun e2 c=>?_
 ·refine wp_skip (d9 _ _ (sQ fun _ e3=>blockQ fun _ e4=>sR fun _ e5=>Ym (iV d) (eh t) (bE c fun W X c=>yY (yIa SL_25 (eh U) (eh t) b (rdI G) X) ?_)))
  obtain ⟨u,b⟩:=iLs b G X
  refine yY (yCt O_31 e0 b F1 rfl) (Ya (iV d) e0 (Ya u.v e0 (wK e5 (sR fun _ e6=>Ya hnil.v rfl (wK e6 (sQ fun _ e7=>sR fun _ e8=>Ym u.v e0 ?_))))))
  refine yY (yLen SL_31 e0 b (rdI F0)) (Ym (iV 0) rfl (wK e8 (blockQ fun e9 f0=>bE c fun f1 f2 c=>?_)))
  have f3:∀ (K:List (Bool×LI)) (x:Hdr) (f:FV) w,f 1=j.v→f 5=h.v→f 6=iV d→f 8=x.v→f 11=k.v→f 12=iV (q.length:Int)→f 13=iV d→St w0 ros (row 31 rH h.v i::fam 34 (rP rB (rS (rI .u32))) i o::row 34 (rP rB (rS (rI .u32))) x.v K::rs) w→K=f1→e9 (.exit 2) (fr 48 f) w:=by
   intro K x f w y Z a0 a2 a3 a4 a5 b ho
   subst ho
   refine f0 _ _ _ (e7 _ _ (sQ fun f4 f5=>sR fun _ f6=>Ym (iV d) (eh a0) (Ym j.v (eh y) (yY (yLen SL_31 e0 b (rdI H)) (yY (ylss e0 e0) (wK f6 ?_))))))
   have a6:∀ (z:List (Bool×LI)) (p:Hdr) (f:FV) w,f 1=j.v→f 5=h.v→f 8=p.v→f 11=k.v→f 12=iV (q.length:Int)→f 13=iV d→St w0 ros (row 31 rH h.v i::fam 34 (rP rB (rS (rI .u32))) i o::row 34 (rP rB (rS (rI .u32))) p.v z::rs) w→exact_twin_j7 o d z=some d3→f4 .normal (fr 48 f) w:=by
    intro z p f w f7 f8 f9 g0 g1 g2 b m
    refine f5 _ _ (wR (Ym h.v (eh f8) (Ym p.v (eh f9) (yH (rLt (n:=1) (l:=[p]) b SLH_25 [p.v] (bp1 e0) rfl rfl (mks1 rfl (mkF rfl) mks0)) fun i8 w b=>bE m fun i9 a7 m=>?_))))
    replace b:=b.k10
    obtain ⟨j0,ey217,g3⟩:=app_rep a7 (b.famL R2) (show [p].length=[z].length from rfl)
    refine yH (rAp b SLH_25 e0 e0 rO1 g3) fun g4 w b=>?_
    replace b:=(b.k15).fPush
    rw [← ey217,← (app_some a7).1] at b
    refine Ya g4.v e0 (wN (e4 _ _ _ (e3 _ _ (wR (yY (yadd (eh g2) rfl) (Ym (iV (wa .i64 d 1)) e0 (wN ?_)))))))
    cases m
    exact d6 _ _ _ rfl ⟨_,_,_,_,_,rfl,rfl,f7,rfl,g0,g1,rfl,(b.k16)⟩
   refine cIf e0 c (fun g5 c=>?_) fun g5 c=>?_
   ·refine wR (Ym x.v (eh a2) (Ym j.v (eh y) (Ym (iV d) (eh a0) (bE c fun g6 a8 c=>yY (yIa SL_31 e0 e0 b (rdI H) a8) ?_))))
    obtain ⟨j1,j2,b⟩:=iLd b H a8
    obtain ⟨j3,j4,rfl,b⟩:=b.eltP
    obtain ⟨rfl,b⟩:=b.eltB
    obtain ⟨g7,rfl,b⟩:=b.eltS
    refine yY (yCtn (cs:=[.bool g6.1,g7.v]) ST_34 rfl e0 b F1) (bE c fun A g8 c=>yC (yCall FN_51 (a1 e0)) (integer_Norm_ok g8 F0 b) ?_)
    rintro _ w ⟨a9,rfl,b⟩
    refine ⟨_,rfl,?_⟩
    exact yH (rLt (n:=1) (l:=[(A.1,A.2)]) b SL_31 [.agg #[.bool A.1,a9.v]] (bp1 e0) rfl rfl (mks1 (cs:=[.bool A.1,a9.v]) rfl (mkP mkB (mkS F0)) mks0)) fun j5 w b=>bE c fun j6 g9 c=>yH (rAp (b.k17) SL_31 e0 e0 rO1 g9) fun h0 w b=>Ya h0.v e0 (wN (a6 _ _ _ _ y Z rfl a3 a4 a5 ((b.k18).facts (allT (allT (allT allI)))) c))
   ·exact wp_skip (a6 _ _ _ _ y Z a2 a3 a4 a5 b c)
  replace b:=b.rowNh 34 (rP rB (rS (rI .u32)))
  refine loopQ (fun s a w=>∃ (L:List (Bool×LI)) (B:Int) (f:FV) (C:Hdr),(L,B)=s∧a=fr 48 f∧f 1=j.v∧f 5=h.v∧f 6=iV d∧f 8=C.v∧f 11=k.v∧f 12=iV (q.length:Int)∧f 13=iV d∧f 18=u.v∧f 19=iV (W.length:Int)∧f 20=iV B∧St w0 (imm (rP rB (rS (rI .u32))) u.v W::ros) (row 31 rH h.v i::fam 34 (rP rB (rS (rI .u32))) i o::row 34 (rP rB (rS (rI .u32))) C.v L::rs) w) f2 ⟨_,_,_,_,rfl,rfl,d4,T,rfl,rfl,U,V,t,rfl,rfl,rfl,((b.k19).facts (allC F0 (allT (allT allI))))⟩ ?_
  rintro _ _ w j8 ⟨L,B,f,C,rfl,rfl,b0,b1,b2,b3,b4,b5,b6,b7,b8,N,b⟩ g h1 j9 h3 h5
  refine sR fun _ h6=>yY (ylss (eh N) (eh b8)) (wK h6 (seqQ fun k0 h7 h8=>?_))
  refine cIf e0 g (fun h9 g=>?_) fun h9 g=>?_
  ·refine wp_skip (h7 _ _ (sQ fun _ i0=>blockQ fun _ i1=>sR fun _ i2=>bE g fun D b9 g=>yY (yIa SL_31 (eh b7) (eh N) b (rdI F0) b9) ?_))
   obtain ⟨k5,k6,b⟩:=iLd b F0 b9
   obtain ⟨k7,k8,rfl,b⟩:=b.eltP
   obtain ⟨rfl,b⟩:=b.eltB
   obtain ⟨E,rfl,b⟩:=b.eltS
   refine yY (yCtn (cs:=[.bool D.1,E.v]) ST_34 rfl e0 b F1) (yBb (rAl b ZT_34) fun k9 w b=>yT (r_stbn (vals':=[.bool D.1,E.v]) (us:=[.bool D.1,E.v]) b ST_34 e0 e0 rfl rfl (one_of rfl) rfl) fun w b=>wK i2 (wR (Ym C.v (eh b3) (yY (lbs_ [.bool D.1,E.v] ST_34 e0 b R0) (bE g fun F i3 g=>yC (yCall FN_51 (a1 e0)) (integer_Norm_ok i3 F0 b) ?_)))))
   rintro _ w ⟨c0,rfl,b⟩
   refine ⟨_,rfl,?_⟩
   refine yH (rLt (n:=1) (l:=[(F.1,F.2)]) b SL_31 [.agg #[.bool F.1,c0.v]] (bp1 e0) rfl rfl (mks1 (cs:=[.bool F.1,c0.v]) rfl (mkP mkB (mkS F0)) mks0)) fun l0 w b=>bE g fun l1 i4 g=>yH (rAp (b.k1a) SL_31 e0 e0 rO1 i4) fun i5 w b=>Ya i5.v e0 (wN (i1 _ _ _ (i0 _ _ (wR (yY (yadd (eh N) rfl) (Ym (iV (wa .i64 B 1)) e0 (wN ?_)))))))
   cases g
   exact h3 _ _ _ rfl ⟨_,_,_,_,rfl,rfl,b0,b1,b2,rfl,b4,b5,b6,b7,b8,rfl,((b.k1b).facts (allC F3 (allT (allT (allT (allT allI))))))⟩
  ·refine wp_exit (h8 _ _ _ rfl ?_)
   cases g
   exact h5 _ _ _ _ rfl rfl (f3 _ _ _ _ b0 b1 b2 b3 b4 b5 b6 (b.facts (allT allI)) (h1 _ rfl))
 ·refine wp_exit (e1 _ _ _ rfl ?_)
  cases c
  exact d7 _ _ _ _ rfl rfl (d0 _ _ _ _ _ T b (d5 _ rfl))
theorem integer_FromInt_ok {c:Int} {out:Bool×LI} (d:integer_FromInt c=some out) (a:St w0 ros rs w):
  Calls Tryd.prog 48 #[iV c] w (fun e w=>∃ (g:Hdr),e=.returned (.agg #[.bool out.1,g.v])∧St w0 (imm (rI .u32) g.v out.2::ros) rs w):=by
 refine enterQ Tryd.func48 rfl Tryd.ntmps48 rfl fun Q p=>sR fun _ q=>yBb (rAl a ZT_34) fun h w a=>wK q (sR fun _ r=>Ym (iV c) e0 (yY (ycv (k':=.u64) (by kernel_rfl) (by kernel_rfl) e0) (Ya (.int .u64 (wc .u64 c)) e0 (wK r ?_))))
 refine sQ fun s t=>sR fun _ u=>Ym (iV c) e0 (yY (ylss e0 rfl) (wK u ?_))
 have i:∀ (b:Int) (f:FV) w,f 0=iV c→f 2=(pB h)→f 3=.int .u64 b→St w0 ros (box h 34 [.bool false,hnil.v]::rs) w→integer_FromInt_j1 c b=some out→s .normal (fr 20 f) w:=by
  intro b f w x j k a d
  refine t _ _ (sR fun _ y=>Ym (iV c) (eh x) (yY (ylss e0 rfl) (Ym (.int .u64 b) (eh k) (yY (yand e0 rfl) (yY (ycv (k':=.u32) (by kernel_rfl) (by kernel_rfl) e0) (Ym (.int .u64 b) (eh k) (yY (yshrc e0 rfl) (yY (ycv (k':=.u32) (by kernel_rfl) (by kernel_rfl) e0) (yH (rLt (n:=2) (l:=[wc .u32 (wand .u64 b 4294967295),wc .u32 (wsrc .u64 b 32)]) a SL_32 [.int .u32 (wc .u32 (wand .u64 b 4294967295)),.int .u32 (wc .u32 (wsrc .u64 b 32))] (bp2 e0 e0) rfl rfl (mks1 (cs:=[.int .u32 (wc .u32 (wand .u64 b 4294967295))]) rfl mkI (mks1 (cs:=[.int .u32 (wc .u32 (wsrc .u64 b 32))]) rfl mkI mks0))) fun B w a=>bE d fun m z d=>?_)))))))))
  replace a:=a.fz
  refine yC (yCall FN_28 (a2 e0 e0)) (integer_big_ok z F0 a) ?_
  rintro _ w ⟨o,rfl,a⟩
  refine ⟨_,rfl,?_⟩
  refine yT (r_stbn (vals':=[.bool m.1,o.v]) (us:=[.bool m.1,o.v]) a ST_34 (eh j) e0 rfl rfl (one_of rfl) rfl) fun w a=>wK y (wp_ret ?_)
  cases d
  exact p _ _ _ (fin1r Tryd.results48 (rcs2 rfl j a R0 ST_34 rfl) ⟨_,rfl,((a.k13).facts (allC F0 (allT (allT allI))))⟩)
 refine cIf e0 d (fun A d=>?_) fun A d=>?_
 ·exact wR (Ym (.int .u64 (wc .u64 c)) e0 (yY (yneg e0) (Ya (.int .u64 (wneg .u64 (wc .u64 c))) e0 (wN (i _ _ _ rfl rfl rfl a d)))))
 ·exact wp_skip (i _ _ _ rfl rfl rfl a d)
theorem integer_Sign_ok {c:Bool} {h:LI} {d:Hdr} {out:Int} (a:integer_Sign c h=some out) (j:imm (rI .u32) d.v h∈ros) (b:St w0 ros rs w):
  Calls Tryd.prog 18 #[.agg #[.bool c,d.v]] w (fun e w=>e=.returned (iV out)∧St w0 ros rs w):=by
 refine enterQ Tryd.func18 rfl Tryd.ntmps18 rfl fun Q f=>sR fun _ k=>yBb (r_box (vals:=[.bool c,d.v]) b e0 rfl) fun x w b=>Ya (iV 0) rfl (wK k (seqQ fun y l i=>blockQ fun _ g=>sR fun _ m=>yY (yFb FL_34_1 e0) (yY (lb_ d.v O_32 e0 b R0) ?_)))
 refine bE a fun n o a=>yC (yCall FN_30 (a1 e0)) (integer_trim_ok o j b) ?_
 rintro _ w ⟨z,rfl,b⟩
 refine ⟨_,rfl,?_⟩
 refine yY (yLen SL_32 e0 b (rdI F0)) (yY (yeql e0 rfl) (Ya (.bool (decide ((n.length:Int)=0))) e0 (wK m ?_)))
 refine cIf e0 a (fun p a=>?_) fun p a=>?_
 ·refine sR fun _ q=>Ya (iV 0) rfl (wK q (wp_ret (g _ _ _ (i _ _ _ rfl ?_))))
  cases a
  exact f _ _ _ (fin1r Tryd.results18 ⟨rfl,rfl⟩ ⟨rfl,((b.k13).facts (allT allI))⟩)
 ·refine sR fun _ r=>yY (yFb FL_34_0 e0) (yY (lb_ (.bool c) O_4 e0 b R0) (Ya (.bool c) e0 (wK r (cB e0 a (fun s a=>?_) fun s a=>?_))))
  ·refine sR fun _ t=>Ya (iV (-1)) rfl (wK t (wp_ret (g _ _ _ (i _ _ _ rfl ?_))))
   cases a
   exact f _ _ _ (fin1r Tryd.results18 ⟨rfl,rfl⟩ ⟨rfl,((b.k13).facts (allT allI))⟩)
  ·refine wp_skip (g _ _ _ (l _ _ (sR fun _ u=>Ya (iV 1) rfl (wK u (wp_ret ?_)))))
   cases a
   exact f _ _ _ (fin1r Tryd.results18 ⟨rfl,rfl⟩ ⟨rfl,((b.k13).facts (allT allI))⟩)
theorem integer_times_ok {n t:LI} {l g:Hdr} {out:LI} (h:integer_times n t=some out) (u:imm (rI .u32) l.v n∈ros) (r:imm (rI .u32) g.v t∈ros) (b:St w0 ros rs w):
  Calls Tryd.prog 34 #[l.v,g.v] w (fun e w=>∃ (I:Hdr),e=.returned (I.v)∧St w0 (imm (rI .u32) I.v out::ros) rs w):=by
 refine enterQ Tryd.func34 rfl Tryd.ntmps34 rfl fun Q J=>sR fun _ a9=>Ya hnil.v rfl (wK a9 (seqQ fun g7 b0 b1=>sR fun _ b2=>Ym l.v e0 (yY (yLen SL_32 e0 b (rdI u)) (yY (yeql e0 rfl) (Ym (.bool (decide ((n.length:Int)=0))) e0 ?_)))))
 refine joinW 4 (fun f w=>f 0=l.v∧f 1=g.v∧f 19=.bool ((decide ((n.length:Int)=0)) || (decide ((t.length:Int)=0)))∧St w0 ros rs w) (fun K=>?_) ?_
 ·rcases Bool.eq_false_or_eq_true (decide ((n.length:Int)=0)) with i | i
  ·exact gN i (gN i (gN i (yY (pt_ (.bool true) e0 i rfl) (K _ _ ⟨rfl,rfl,(congrArg Value.bool (orT i)),b⟩))))
  ·exact yG i (m_ g.v e0) (yG i (yLen SL_32 e0 b (rdI r)) (yG i (yeql e0 rfl) (yY (pf_ (.bool (decide ((t.length:Int)=0))) e0 i e0) (K _ _ ⟨rfl,rfl,(congrArg Value.bool (orF i)),b⟩))))
 rintro f w ⟨L,x,b3,b⟩
 refine wK b2 (cB (eh b3) h (fun b4 h=>?_) fun b4 h=>?_)
 ·refine sR fun _ b5=>Ya hnil.v rfl (wK b5 (wp_ret (b1 _ _ _ rfl ?_)))
  cases h
  replace b:=b.immNh (rI .u32)
  exact J _ _ _ (fin1r Tryd.results34 ⟨rfl,rfl⟩ ⟨_,rfl,b⟩)
 ·refine wp_skip (b0 _ _ (sR fun _ b6=>Ym l.v (eh L) (yY (yLen SL_32 e0 b (rdI u)) (Ym g.v (eh x) (yY (yLen SL_32 e0 b (rdI r)) (yY (yadd e0 e0) (bE h fun g8 b7 h=>yH (rMk b SL_32 e0 b7) fun c w b=>Ya c.v e0 (wN ?_))))))))
  refine b6 _ _ (sQ fun _ b8=>sR fun _ b9=>Ym l.v (eh L) (yY (yLen SL_32 e0 b (rdI u)) (Ym (iV 0) rfl (wK b9 (blockQ fun c0 c1=>bE h fun c2 c3 h=>?_)))))
  have c4:∀ (E:LI) (f:FV) w,f 5=c.v→St w0 ros (row 58 (rI .u32) c.v E::rs) w→E=c2→c0 (.exit 0) (fr 77 f) w:=by
   intro E f w c5 b ho
   subst ho
   refine c1 _ _ _ (b8 _ _ (sR fun _ c8=>Ym c.v (eh c5) (bE h fun g9 c9 h=>?_)))
   replace b:=b.fz
   refine yC (yCall FN_30 (a1 e0)) (integer_trim_ok c9 F0 b) ?_
   rintro _ w ⟨d0,rfl,b⟩
   refine ⟨_,rfl,?_⟩
   refine Ya d0.v e0 (wK c8 (wp_ret ?_))
   cases h
   exact J _ _ _ (fin1r Tryd.results34 ⟨rfl,rfl⟩ ⟨_,rfl,(b.facts (allC F0 (allT (allT allI))))⟩)
  refine loopQ (fun s a w=>∃ (F:LI) (d:Int) (f:FV),(F,d)=s∧a=fr 77 f∧f 1=g.v∧f 5=c.v∧f 26=l.v∧f 27=iV (n.length:Int)∧f 28=iV d∧St w0 ros (row 58 (rI .u32) c.v F::rs) w) c3 ⟨_,_,_,rfl,rfl,x,rfl,rfl,rfl,rfl,b⟩ ?_
  rintro _ _ w h0 ⟨F,d,f,rfl,rfl,N,O,R,S,A,b⟩ j d1 h1 d2 d3
  refine sR fun _ d4=>yY (ylss (eh A) (eh S)) (wK d4 (seqQ fun h3 d5 d6=>?_))
  refine cIf e0 j (fun d7 j=>?_) fun d7 j=>?_
  ·refine wp_skip (d5 _ _ (sQ fun _ d8=>blockQ fun _ d9=>sR fun _ e1=>Ym (iV d) (eh A) (bE j fun o T j=>yY (yIa SL_32 (eh R) (eh A) b (rdI u) T) (yY (yI O_58 e0 b (rdI u) T) (Ya (iV d) e0 (Ya (.int .u32 o) e0 (wK e1 ?_)))))))
   refine sR fun _ e2=>Ya (.int .u64 0) rfl (wK e2 (sQ fun _ e3=>sR fun _ e4=>Ym g.v (eh N) (yY (yLen SL_32 e0 b (rdI r)) (Ym (iV 0) rfl (wK e4 (blockQ fun e5 e6=>?_))))))
   refine bE j fun e7 e8 j=>?_
   have e9:∀ (G:LI) (y:Int) (f:FV) w,f 1=g.v→f 5=c.v→f 6=iV d→f 8=.int .u64 y→f 26=l.v→f 27=iV (n.length:Int)→f 28=iV d→St w0 ros (row 58 (rI .u32) c.v G::rs) w→(G,y)=e7→e5 (.exit 2) (fr 77 f) w:=by
    intro G y f w U V f0 f1 f2 f3 f4 b ho
    subst ho
    refine e6 _ _ _ (e3 _ _ (wR (Ym c.v (eh V) (Ym (iV d) (eh f0) (Ym g.v (eh U) (yY (yLen SL_32 e0 b (rdI r)) (yY (yadd e0 e0) (Ym (.int .u64 y) (eh f1) (yY (ycv (k':=.u32) (by kernel_rfl) (by kernel_rfl) e0) (bE j fun h5 W j=>yY (yIs SL_32 e0 e0 b rO0 W) (yT (r_sti (cs:=[.int .u32 (wc .u32 y)]) b O_58 rfl e0 e0 rfl mkI W) fun w b=>?_)))))))))))
    refine wN (d9 _ _ _ (d8 _ _ (wR (yY (yadd (eh f4) rfl) (Ym (iV (wa .i64 d 1)) e0 (wN ?_))))))
    cases j
    exact d2 _ _ _ rfl ⟨_,_,_,rfl,rfl,U,V,f2,f3,rfl,b⟩
   refine loopQ (fun s a w=>∃ (H:LI) (m p:Int) (f:FV),(H,m,p)=s∧a=fr 77 f∧f 1=g.v∧f 5=c.v∧f 6=iV d∧f 7=.int .u32 o∧f 8=.int .u64 m∧f 26=l.v∧f 27=iV (n.length:Int)∧f 28=iV d∧f 33=g.v∧f 34=iV (t.length:Int)∧f 35=iV p∧St w0 ros (row 58 (rI .u32) c.v H::rs) w) e8 ⟨_,_,_,_,rfl,rfl,N,O,rfl,rfl,rfl,R,S,A,rfl,rfl,rfl,b⟩ ?_
   rintro _ _ w h6 ⟨H,m,p,f,rfl,rfl,x,B,C,X,Z,a0,a2,a3,a4,a5,D,b⟩ k f5 h7 f6 f7
   refine sR fun _ f8=>yY (ylss (eh D) (eh a5)) (wK f8 (seqQ fun h9 f9 g0=>?_))
   refine cIf e0 k (fun g1 k=>?_) fun g1 k=>?_
   ·refine wp_skip (f9 _ _ (sQ fun _ g2=>blockQ fun _ g3=>sR fun _ g4=>Ym (iV p) (eh D) (bE k fun q a6 k=>yY (yIa SL_32 (eh a4) (eh D) b (rdI r) a6) (yY (yI O_58 e0 b (rdI r) a6) (Ya (iV p) e0 (Ya (.int .u32 q) e0 (wK g4 ?_)))))))
    refine sR fun _ g5=>Ym (.int .u32 o) (eh X) (yY (ycv (k':=.u64) (by kernel_rfl) (by kernel_rfl) e0) (Ym (.int .u32 q) e0 (yY (ycv (k':=.u64) (by kernel_rfl) (by kernel_rfl) e0) (yY (ymul e0 e0) (Ym c.v (eh B) (Ym (iV d) (eh C) (Ym (iV p) e0 (yY (yadd e0 e0) (bE k fun z a7 k=>yY (yIa SL_32 e0 e0 b rO0 a7) (yY (yI O_58 e0 b rO0 a7) ?_))))))))))
    refine yY (ycv (k':=.u64) (by kernel_rfl) (by kernel_rfl) e0) (yY (yadd e0 e0) (Ym (.int .u64 m) (eh Z) (yY (yadd e0 e0) (Ya (.int .u64 (wa .u64 (wa .u64 (wm .u64 (wc .u64 o) (wc .u64 q)) (wc .u64 z)) m)) e0 (wK g5 (sR fun _ g6=>Ym c.v (eh B) (Ym (iV d) (eh C) (Ym (iV p) e0 (yY (yadd e0 e0) (Ym (.int .u64 (wa .u64 (wa .u64 (wm .u64 (wc .u64 o) (wc .u64 q)) (wc .u64 z)) m)) e0 ?_))))))))))
    refine yY (yand e0 rfl) (yY (ycv (k':=.u32) (by kernel_rfl) (by kernel_rfl) e0) (bE k fun i0 a8 k=>yY (yIs SL_32 e0 e0 b rO0 a8) (yT (r_sti (cs:=[.int .u32 (wc .u32 (wand .u64 (wa .u64 (wa .u64 (wm .u64 (wc .u64 o) (wc .u64 q)) (wc .u64 z)) m) 4294967295))]) b O_58 rfl e0 e0 rfl mkI a8) fun w b=>wK g6 (wR (Ym (.int .u64 (wa .u64 (wa .u64 (wm .u64 (wc .u64 o) (wc .u64 q)) (wc .u64 z)) m)) e0 (yY (yshrc e0 rfl) (Ya (.int .u64 (wsrc .u64 (wa .u64 (wa .u64 (wm .u64 (wc .u64 o) (wc .u64 q)) (wc .u64 z)) m) 32)) e0 (wN (g3 _ _ _ ?_)))))))))
    refine g2 _ _ (wR (yY (yadd (eh D) rfl) (Ym (iV (wa .i64 p 1)) e0 (wN ?_))))
    cases k
    exact f6 _ _ _ rfl ⟨_,_,_,_,rfl,rfl,x,B,C,X,rfl,a0,a2,a3,a4,a5,rfl,b⟩
   ·refine wp_exit (g0 _ _ _ rfl ?_)
    cases k
    exact f7 _ _ _ _ rfl rfl (e9 _ _ _ _ x B C Z a0 a2 a3 b (f5 _ rfl))
  ·refine wp_exit (d6 _ _ _ rfl ?_)
   cases j
   exact d3 _ _ _ _ rfl rfl (c4 _ _ _ O b (d1 _ rfl))
theorem integer_Mul_ok {c:Bool} {h:LI} {d:Bool} {i:LI} {g f:Hdr} {out:Bool×LI} (b:integer_Mul c h d i=some out) (m:imm (rI .u32) g.v h∈ros) (n:imm (rI .u32) f.v i∈ros) (a:St w0 ros rs w):
  Calls Tryd.prog 13 #[.agg #[.bool c,g.v],.agg #[.bool d,f.v]] w (fun e w=>∃ (j:Hdr),e=.returned (.agg #[.bool out.1,j.v])∧St w0 (imm (rI .u32) j.v out.2::ros) rs w):=by
 refine enterQ Tryd.func13 rfl Tryd.ntmps13 rfl fun Q o=>sR fun _ p=>yBb (r_box (vals:=[.bool c,g.v]) a e0 rfl) fun x w a=>yBb (r_box (vals:=[.bool d,f.v]) a e0 rfl) fun y w a=>yBb (rAl a ZT_34) fun z w a=>wK p (sQ fun _ q=>bE b fun A r b=>bE b fun B s b=>?_)
 refine bE b fun C t b=>bE b fun k u b=>dR [0,1,0,4,15,0,32,96,0,256,992,2016,4095,8191] [7,10,11,12,13] 5 folM ?_
 replace a:=a.drew
 refine Dn [0,1,2,3,4,5,6,8,9] [] [7] (yR rfl (yFb FL_34_0 e0) (yR rfl (lb_ (.bool c) O_4 e0 a R2) (yR rfl (yFb FL_34_0 e0) (yR rfl (lb_ (.bool d) O_4 e0 a R1) (yR rfl (yneb (by kernel_rfl) e0 e0) (yR rfl (yFb FL_34_1 e0) (yR rfl (lb_ g.v O_32 e0 a R2) (yR rfl (yFb FL_34_1 e0) (yR rfl (lb_ f.v O_32 e0 a R1) (Rn QSn ?_))))))))))
 refine Lc1 rfl ?_
 refine Lk wn (yCall FN_30 (a1 e0)) (integer_trim_ok r m a) ?_
 rintro _ w ⟨D,rfl,a⟩
 refine ⟨_,rfl,?_⟩
 refine Dn [] [0,1,2,3,4,8,9] [10] (Rn (yS rfl (yFb FL_34_0 e0) (yS rfl (lb_ (.bool c) O_4 e0 a R2) (yS rfl (yFb FL_34_0 e0) (yS rfl (lb_ (.bool d) O_4 e0 a R1) (yS rfl (yneb (by kernel_rfl) e0 e0) (yS rfl (yFb FL_34_1 e0) (yS rfl (lb_ f.v O_32 e0 a R1) QSn))))))) ?_)
 refine Lc1 rfl ?_
 refine Lk wn (yCall FN_30 (a1 e0)) (integer_trim_ok s (mtF n) a) ?_
 rintro _ w ⟨E,rfl,a⟩
 refine ⟨_,rfl,?_⟩
 refine Dn [] [0,1,2,3,4] [11] (Rn (yS rfl (yFb FL_34_0 e0) (yS rfl (lb_ (.bool c) O_4 e0 a R2) (yS rfl (yFb FL_34_0 e0) (yS rfl (lb_ (.bool d) O_4 e0 a R1) (yS rfl (yneb (by kernel_rfl) e0 e0) QSn))))) ?_)
 refine Lc1 rfl ?_
 refine Lk wn (yCall FN_34 (a2 e0 e0)) (integer_times_ok t F1 F0 a) ?_
 rintro _ w ⟨F,rfl,a⟩
 refine ⟨_,rfl,?_⟩
 refine Dn [] [0,1,2,3,4] [12] (Rn (yS rfl (yFb FL_34_0 e0) (yS rfl (lb_ (.bool c) O_4 e0 a R2) (yS rfl (yFb FL_34_0 e0) (yS rfl (lb_ (.bool d) O_4 e0 a R1) (yS rfl (yneb (by kernel_rfl) e0 e0) QSn))))) ?_)
 refine Lc1 rfl ?_
 refine Lk wn (yCall FN_28 (a2 e0 e0)) (integer_big_ok u F0 a) ?_
 rintro _ w ⟨l,rfl,a⟩
 refine ⟨_,rfl,?_⟩
 refine Dn [] [] [13] (Rn QSn ?_)
 refine Lc1 rfl ?_
 refine LT wn (r_stbn (vals':=[.bool k.1,l.v]) (us:=[.bool k.1,l.v]) a ST_34 e0 e0 rfl rfl (one_of rfl) rfl) fun w a=>Dz [] [] (Rn QSn (q _ _ (wp_ret ?_)))
 cases b
 exact o _ _ _ (fin1r Tryd.results13 (rcs2 rfl rfl a R0 ST_34 rfl) ⟨_,rfl,((a.k1c).facts (allC F0 (allT (allT (allT (allT allI))))))⟩)
theorem integer_plus_ok {H I:LI} {q r:Hdr} {out:LI} (c:integer_plus H I=some out) (B:imm (rI .u32) q.v H∈ros) (C:imm (rI .u32) r.v I∈ros) (b:St w0 ros rs w):
  Calls Tryd.prog 31 #[q.v,r.v] w (fun e w=>∃ (J:Hdr),e=.returned (J.v)∧St w0 (imm (rI .u32) J.v out::ros) rs w):=by
 refine enterQ Tryd.func31 rfl Tryd.ntmps31 rfl fun Q U=>sR fun _ V=>Ya hnil.v rfl (wK V (sQ fun W X=>sR fun _ Z=>Ym q.v e0 (yY (yLen SL_32 e0 b (rdI B)) (Ym r.v e0 (yY (yLen SL_32 e0 b (rdI C)) (yY (ylss e0 e0) ?_))))))
 refine wK Z ?_
 have K:∀ (k t:LI) (h i:Hdr) (f:FV) w,f 0=h.v→f 1=i.v→St w0 (imm (rI .u32) h.v k::imm (rI .u32) i.v t::ros) rs w→integer_plus_j1 k t=some out→W .normal (fr 58 f) w:=by
  intro k t h i f w L a0 b c
  refine X _ _ (sR fun _ a2=>Ym h.v (eh L) (yY (yLen SL_32 e0 b (rdI F0)) (yY (yadd e0 rfl) (bE c fun e6 a3 c=>yH (rMkc b SL_32 rfl e0 a3) fun a4 w b=>Ya a4.v e0 (wK a2 (sR fun _ a5=>?_))))))
  refine Ya (.int .u64 0) rfl (wK a5 (sQ fun _ a6=>sR fun _ a7=>Ym h.v (eh L) (yY (yLen SL_32 e0 b (rdI F0)) (Ym (iV 0) rfl (wK a7 (blockQ fun a8 a9=>bE c fun b0 b1 c=>?_))))))
  have b2:∀ (D:LI) (m:Int) (z:Hdr) (f:FV) w,f 5=z.v→f 6=.int .u64 m→St w0 ros (row 58 (rI .u32) z.v D::rs) w→(D,m)=b0→a8 (.exit 0) (fr 58 f) w:=by
   intro D m z f w b3 b4 b ho
   subst ho
   refine a9 _ _ _ (a6 _ _ (sR fun _ b5=>Ym z.v (eh b3) (Ym (.int .u64 m) (eh b4) (yY (ycv (k':=.u32) (by kernel_rfl) (by kernel_rfl) e0) (yH (rLt (n:=1) (l:=[wc .u32 m]) b SL_32 [.int .u32 (wc .u32 m)] (bp1 e0) rfl rfl (mks1 (cs:=[.int .u32 (wc .u32 m)]) rfl mkI mks0)) fun e7 w b=>bE c fun e8 b6 c=>yH (rAp (b.k10) SL_32 e0 e0 rO1 b6) fun e9 w b=>bE c fun f0 b7 c=>?_)))))
   replace b:=b.fz
   refine yC (yCall FN_30 (a1 e0)) (integer_trim_ok b7 F0 b) ?_
   rintro _ w ⟨b8,rfl,b⟩
   refine ⟨_,rfl,?_⟩
   refine Ya b8.v e0 (wK b5 (wp_ret ?_))
   cases c
   exact U _ _ _ (fin1r Tryd.results31 ⟨rfl,rfl⟩ ⟨_,rfl,((b.k13).facts (allC F0 (allT (allT allI))))⟩)
  refine loopQ (fun s a w=>∃ (u:LI) (o g:Int) (f:FV) (p:Hdr),(u,o,g)=s∧a=fr 58 f∧f 1=i.v∧f 5=p.v∧f 6=.int .u64 o∧f 21=h.v∧f 22=iV (k.length:Int)∧f 23=iV g∧St w0 (imm (rI .u32) i.v t::imm (rI .u32) h.v k::ros) (row 58 (rI .u32) p.v u::rs) w) b1 ⟨_,_,_,_,_,rfl,rfl,a0,rfl,rfl,rfl,rfl,rfl,(b.facts (allC F1 (allC F0 (allT (allT allI)))))⟩ ?_
  rintro _ _ w b9 ⟨u,o,g,f,p,rfl,rfl,A,E,N,F,G,x,b⟩ d c0 f1 c1 c2
  refine sR fun _ c3=>yY (ylss (eh x) (eh G)) (wK c3 (seqQ fun f2 c4 c5=>?_))
  refine cIf e0 d (fun c6 d=>?_) fun c6 d=>?_
  ·refine wp_skip (c4 _ _ (sQ fun _ c7=>blockQ fun _ c8=>sR fun _ c9=>Ym (iV g) (eh x) (bE d fun y O d=>yY (yIa SL_32 (eh F) (eh x) b (rdI F1) O) (yY (yI O_58 e0 b (rdI F1) O) (Ya (iV g) e0 (Ya (.int .u32 y) e0 (wK c9 ?_)))))))
   refine sR fun _ d0=>Ym (.int .u32 y) e0 (yY (ycv (k':=.u64) (by kernel_rfl) (by kernel_rfl) e0) (Ym (.int .u64 o) (eh N) (yY (yadd e0 e0) (Ya (.int .u64 (wa .u64 (wc .u64 y) o)) e0 (wK d0 (sQ fun d1 d2=>sR fun _ d3=>Ym (iV g) e0 (Ym i.v (eh A) ?_)))))))
   refine yY (yLen SL_32 e0 b (rdI F0)) (yY (ylss e0 e0) (wK d3 ?_))
   have R:∀ (j:Int) (f:FV) w,f 1=i.v→f 5=p.v→f 9=.int .u64 j→f 21=h.v→f 22=iV (k.length:Int)→f 23=iV g→St w0 (imm (rI .u32) i.v t::imm (rI .u32) h.v k::ros) (row 58 (rI .u32) p.v u::rs) w→integer_plus_j5 u g j=some b9→d1 .normal (fr 58 f) w:=by
    intro j f w d4 d5 S d6 d7 d8 b c
    refine d2 _ _ (sR fun _ d9=>Ym p.v (eh d5) (Ym (.int .u64 j) (eh S) (yY (yand e0 rfl) (yY (ycv (k':=.u32) (by kernel_rfl) (by kernel_rfl) e0) (yH (rLt (n:=1) (l:=[wc .u32 (wand .u64 j 4294967295)]) b SL_32 [.int .u32 (wc .u32 (wand .u64 j 4294967295))] (bp1 e0) rfl rfl (mks1 (cs:=[.int .u32 (wc .u32 (wand .u64 j 4294967295))]) rfl mkI mks0)) fun f3 w b=>bE c fun f4 e1 c=>yH (rAp (b.k10) SL_32 e0 e0 rO1 e1) fun e2 w b=>Ya e2.v e0 (wN ?_))))))
    refine d9 _ _ (wR (Ym (.int .u64 j) (eh S) (yY (yshrc e0 rfl) (Ya (.int .u64 (wsrc .u64 j 32)) e0 (wN (c8 _ _ _ (c7 _ _ (wR (yY (yadd (eh d8) rfl) (Ym (iV (wa .i64 g 1)) e0 (wN ?_)))))))))))
    cases c
    exact c1 _ _ _ rfl ⟨_,_,_,_,_,rfl,rfl,d4,rfl,rfl,d6,d7,rfl,(b.k11)⟩
   refine cIf e0 d (fun e3 d=>?_) fun e3 d=>?_
   ·exact wR (Ym (.int .u64 (wa .u64 (wc .u64 y) o)) e0 (Ym i.v (eh A) (Ym (iV g) e0 (bE d fun e4 T d=>yY (yIa SL_32 e0 e0 b (rdI F0) T) (yY (yI O_58 e0 b (rdI F0) T) (yY (ycv (k':=.u64) (by kernel_rfl) (by kernel_rfl) e0) (yY (yadd e0 e0) (Ya (.int .u64 (wa .u64 (wa .u64 (wc .u64 y) o) (wc .u64 e4))) e0 (wN (R _ _ _ A E rfl F G x b d))))))))))
   ·exact wp_skip (R _ _ _ A E rfl F G x b d)
  ·refine wp_exit (c5 _ _ _ rfl ?_)
   cases d
   exact c2 _ _ _ _ rfl rfl (b2 _ _ _ _ _ E N (b.facts (allT (allT allI))) (c0 _ rfl))
 refine cIf e0 c (fun e5 c=>?_) fun e5 c=>?_
 ·exact wR (Ym r.v e0 (Ym q.v e0 (Ya r.v e0 (Ya q.v e0 (wN (K _ _ _ _ _ _ rfl rfl (b.facts (allC C (allC B allI))) c))))))
 ·exact wp_skip (K _ _ _ _ _ _ rfl rfl (b.facts (allC B (allC C allI))) c)
theorem cmp_isNaN_uint32_ok {a:Int} {out:Bool} (b:cmp_isNaN_uint32 a=some out) (c:St w0 ros rs w):
  Calls Tryd.prog 69 #[.int .u32 a] w (fun e w=>e=.returned (.bool out)∧St w0 ros rs w):=by
 refine enterQ Tryd.func69 rfl Tryd.ntmps69 rfl fun Q d=>sR fun _ f=>Ya (.bool false) rfl (wK f (sR fun _ g=>Ym (.int .u32 a) e0 (Ym (.int .u32 a) e0 (yY (yneq e0 e0) (Ya (.bool (!(decide (a=a)))) e0 (wK g ?_))))))
 refine wp_ret ?_
 cases b
 exact d _ _ _ (fin1r Tryd.results69 ⟨rfl,rfl⟩ ⟨rfl,c⟩)
theorem cmp_Compare_uint32_ok {d f out:Int} (a:cmp_Compare_uint32 d f=some out) (b:St w0 ros rs w):
  Calls Tryd.prog 53 #[.int .u32 d,.int .u32 f] w (fun e w=>e=.returned (iV out)∧St w0 ros rs w):=by
 refine enterQ Tryd.func53 rfl Tryd.ntmps53 rfl fun Q c=>sR fun _ j=>Ya (iV 0) rfl (wK j (sR fun _ k=>Ym (.int .u32 d) e0 (bE a fun h l a=>yC (yCall FN_69 (a1 e0)) (cmp_isNaN_uint32_ok l b) ?_)))
 rintro _ w ⟨rfl,b⟩
 refine ⟨_,rfl,?_⟩
 refine Ya (.bool h) e0 (wK k (sR fun _ m=>Ym (.int .u32 f) e0 (bE a fun g n a=>yC (yCall FN_69 (a1 e0)) (cmp_isNaN_uint32_ok n b) ?_)))
 rintro _ w ⟨rfl,b⟩
 refine ⟨_,rfl,?_⟩
 refine Ya (.bool g) e0 (wK m (seqQ fun R o i=>sR fun _ p=>Ym (.bool h) e0 (wK p (cB e0 a (fun q a=>?_) fun q a=>?_))))
 ·refine seqQ fun S r s=>sR fun _ t=>Ym (.bool g) e0 (wK t (cB e0 a (fun u a=>?_) fun u a=>?_))
  ·refine sR fun _ v=>Ya (iV 0) rfl (wK v (wp_ret (s _ _ _ rfl (i _ _ _ rfl ?_))))
   cases a
   exact c _ _ _ (fin1r Tryd.results53 ⟨rfl,rfl⟩ ⟨rfl,b⟩)
  ·refine wp_skip (r _ _ (sR fun _ x=>Ya (iV (-1)) rfl (wK x (wp_ret (i _ _ _ rfl ?_)))))
   cases a
   exact c _ _ _ (fin1r Tryd.results53 ⟨rfl,rfl⟩ ⟨rfl,b⟩)
 ·refine wp_skip (o _ _ (seqQ fun T y z=>sR fun _ A=>Ym (.bool g) e0 (wK A (cB e0 a (fun B a=>?_) fun B a=>?_))))
  ·refine sR fun _ C=>Ya (iV 1) rfl (wK C (wp_ret (z _ _ _ rfl ?_)))
   cases a
   exact c _ _ _ (fin1r Tryd.results53 ⟨rfl,rfl⟩ ⟨rfl,b⟩)
  ·refine wp_skip (y _ _ (seqQ fun U D E=>sR fun _ F=>Ym (.int .u32 d) e0 (Ym (.int .u32 f) e0 (yY (ylss e0 e0) (wK F ?_)))))
   refine cIf e0 a (fun G a=>?_) fun G a=>?_
   ·refine sR fun _ H=>Ya (iV (-1)) rfl (wK H (wp_ret (E _ _ _ rfl ?_)))
    cases a
    exact c _ _ _ (fin1r Tryd.results53 ⟨rfl,rfl⟩ ⟨rfl,b⟩)
   ·refine wp_skip (D _ _ (seqQ fun V I J=>sR fun _ K=>Ym (.int .u32 d) e0 (Ym (.int .u32 f) e0 (yY (ygtr e0 e0) (wK K ?_)))))
    refine cIf e0 a (fun L a=>?_) fun L a=>?_
    ·refine sR fun _ N=>Ya (iV 1) rfl (wK N (wp_ret (J _ _ _ rfl ?_)))
     cases a
     exact c _ _ _ (fin1r Tryd.results53 ⟨rfl,rfl⟩ ⟨rfl,b⟩)
    ·refine wp_skip (I _ _ (sR fun _ O=>Ya (iV 0) rfl (wK O (wp_ret ?_))))
     cases a
     exact c _ _ _ (fin1r Tryd.results53 ⟨rfl,rfl⟩ ⟨rfl,b⟩)
theorem cmp_isNaN_int_ok {a:Int} {out:Bool} (b:cmp_isNaN_int a=some out) (c:St w0 ros rs w):
  Calls Tryd.prog 68 #[iV a] w (fun e w=>e=.returned (.bool out)∧St w0 ros rs w):=by
 refine enterQ Tryd.func68 rfl Tryd.ntmps68 rfl fun Q d=>sR fun _ f=>Ya (.bool false) rfl (wK f (sR fun _ g=>Ym (iV a) e0 (Ym (iV a) e0 (yY (yneq e0 e0) (Ya (.bool (!(decide (a=a)))) e0 (wK g ?_))))))
 refine wp_ret ?_
 cases b
 exact d _ _ _ (fin1r Tryd.results68 ⟨rfl,rfl⟩ ⟨rfl,c⟩)
theorem cmp_Compare_int_ok {d f out:Int} (a:cmp_Compare_int d f=some out) (b:St w0 ros rs w):
  Calls Tryd.prog 52 #[iV d,iV f] w (fun e w=>e=.returned (iV out)∧St w0 ros rs w):=by
 refine enterQ Tryd.func52 rfl Tryd.ntmps52 rfl fun Q c=>sR fun _ j=>Ya (iV 0) rfl (wK j (sR fun _ k=>Ym (iV d) e0 (bE a fun h l a=>yC (yCall FN_68 (a1 e0)) (cmp_isNaN_int_ok l b) ?_)))
 rintro _ w ⟨rfl,b⟩
 refine ⟨_,rfl,?_⟩
 refine Ya (.bool h) e0 (wK k (sR fun _ m=>Ym (iV f) e0 (bE a fun g n a=>yC (yCall FN_68 (a1 e0)) (cmp_isNaN_int_ok n b) ?_)))
 rintro _ w ⟨rfl,b⟩
 refine ⟨_,rfl,?_⟩
 refine Ya (.bool g) e0 (wK m (seqQ fun R o i=>sR fun _ p=>Ym (.bool h) e0 (wK p (cB e0 a (fun q a=>?_) fun q a=>?_))))
 ·refine seqQ fun S r s=>sR fun _ t=>Ym (.bool g) e0 (wK t (cB e0 a (fun u a=>?_) fun u a=>?_))
  ·refine sR fun _ v=>Ya (iV 0) rfl (wK v (wp_ret (s _ _ _ rfl (i _ _ _ rfl ?_))))
   cases a
   exact c _ _ _ (fin1r Tryd.results52 ⟨rfl,rfl⟩ ⟨rfl,b⟩)
  ·refine wp_skip (r _ _ (sR fun _ x=>Ya (iV (-1)) rfl (wK x (wp_ret (i _ _ _ rfl ?_)))))
   cases a
   exact c _ _ _ (fin1r Tryd.results52 ⟨rfl,rfl⟩ ⟨rfl,b⟩)
 ·refine wp_skip (o _ _ (seqQ fun T y z=>sR fun _ A=>Ym (.bool g) e0 (wK A (cB e0 a (fun B a=>?_) fun B a=>?_))))
  ·refine sR fun _ C=>Ya (iV 1) rfl (wK C (wp_ret (z _ _ _ rfl ?_)))
   cases a
   exact c _ _ _ (fin1r Tryd.results52 ⟨rfl,rfl⟩ ⟨rfl,b⟩)
  ·refine wp_skip (y _ _ (seqQ fun U D E=>sR fun _ F=>Ym (iV d) e0 (Ym (iV f) e0 (yY (ylss e0 e0) (wK F ?_)))))
   refine cIf e0 a (fun G a=>?_) fun G a=>?_
   ·refine sR fun _ H=>Ya (iV (-1)) rfl (wK H (wp_ret (E _ _ _ rfl ?_)))
    cases a
    exact c _ _ _ (fin1r Tryd.results52 ⟨rfl,rfl⟩ ⟨rfl,b⟩)
   ·refine wp_skip (D _ _ (seqQ fun V I J=>sR fun _ K=>Ym (iV d) e0 (Ym (iV f) e0 (yY (ygtr e0 e0) (wK K ?_)))))
    refine cIf e0 a (fun L a=>?_) fun L a=>?_
    ·refine sR fun _ N=>Ya (iV 1) rfl (wK N (wp_ret (J _ _ _ rfl ?_)))
     cases a
     exact c _ _ _ (fin1r Tryd.results52 ⟨rfl,rfl⟩ ⟨rfl,b⟩)
    ·refine wp_skip (I _ _ (sR fun _ O=>Ya (iV 0) rfl (wK O (wp_ret ?_))))
     cases a
     exact c _ _ _ (fin1r Tryd.results52 ⟨rfl,rfl⟩ ⟨rfl,b⟩)
theorem integer_compare_ok {m u:LI} {h i:Hdr} {out:Int} (d:integer_compare m u=some out) (j:imm (rI .u32) h.v m∈ros) (k:imm (rI .u32) i.v u∈ros) (b:St w0 ros rs w):
  Calls Tryd.prog 32 #[h.v,i.v] w (fun e w=>e=.returned (iV out)∧St w0 ros rs w):=by
 refine enterQ Tryd.func32 rfl Tryd.ntmps32 rfl fun Q n=>sR fun _ H=>Ya (iV 0) rfl (wK H (seqQ fun b2 I J=>sR fun _ K=>Ym h.v e0 (yY (yLen SL_32 e0 b (rdI j)) (Ym i.v e0 (yY (yLen SL_32 e0 b (rdI k)) (yY (yneq e0 e0) ?_))))))
 refine wK K ?_
 rcases iteS d with ⟨o,d⟩ | ⟨o,d⟩
 ·refine condF e0 (nF (dT o)) (wp_skip (I _ _ (seqQ fun b3 L N=>sR fun _ O=>Ym h.v e0 (yY (yLen SL_32 e0 b (rdI j)) (yY (ysub e0 rfl) (Ya (iV (ws .i64 (m.length:Int) 1)) e0 (wK O (blockQ fun x y=>bE d fun z R d=>?_))))))))
  have S:∀ (f:FV) w,St w0 ros rs w→.inl ()=z→x (.exit 0) (fr 41 f) w:=by
   intro f w b ho
   subst ho
   refine y _ _ _ (L _ _ (sR fun _ T=>Ya (iV 0) rfl (wK T (wp_ret ?_))))
   cases d
   exact n _ _ _ (fin1r Tryd.results32 ⟨rfl,rfl⟩ ⟨rfl,b⟩)
  have U:∀ (p:Int) (f:FV) w,f 4=iV p→St w0 ros rs w→.inr p=z→x .ret (fr 41 f) w:=by
   intro p f w V b ho
   subst ho
   refine y _ _ _ (N _ _ _ rfl ?_)
   cases d
   exact n _ _ _ (fin1r Tryd.results32 ⟨rfl,V⟩ ⟨rfl,b⟩)
  refine loopQ (fun s a w=>∃ (g:Int) (f:FV),g=s∧a=fr 41 f∧f 0=h.v∧f 1=i.v∧f 5=iV g∧St w0 ros rs w) R ⟨_,_,rfl,rfl,rfl,rfl,rfl,b⟩ ?_
  rintro _ _ w b4 ⟨g,f,rfl,rfl,q,r,l,b⟩ c A b5 W B
  refine seqQ fun b6 X Z=>sR fun _ a0=>Ym (iV g) (eh l) (yY (ygeq e0 rfl) (wK a0 ?_))
  refine cIf e0 c (fun a1 c=>?_) fun a1 c=>?_
  ·refine wp_skip (X _ _ (seqQ fun b7 a3 a4=>blockQ fun _ C=>sQ fun _ a5=>bE c fun b8 D c=>bE c fun b9 E c=>dR [0,0,3,7,0,0,48,112,255] [] 0 folM ?_))
   replace b:=b.drew
   refine Dz [0,1,2,3,4,5,6,7,8] [] (yR rfl (m_ h.v (eh q)) (yR rfl (m_ (iV g) (eh l)) (yR rfl (yIa SL_32 e0 e0 b (rdI j) D) (yR rfl (yI O_58 e0 b (rdI j) D) (yR rfl (m_ i.v (eh r)) (yR rfl (m_ (iV g) (eh l)) (yR rfl (yIa SL_32 e0 e0 b (rdI k) E) (yR rfl (yI O_58 e0 b (rdI k) E) (yR rfl (yneq e0 e0) (Rn QSn (a5 _ _ ?_)))))))))))
   rcases iteS c with ⟨t,c⟩ | ⟨t,c⟩
   ·refine condF e0 (nF (dT t)) (wp_skip (C _ _ _ (a3 _ _ (wR (Ym (iV g) (eh l) (yY (ysub e0 rfl) (Ya (iV (ws .i64 g 1)) e0 (wN ?_))))))))
    cases c
    exact W _ _ _ rfl ⟨_,_,rfl,rfl,q,r,rfl,b⟩
   ·refine condT e0 (nT (dF t)) (sQ fun _ a6=>bE c fun c0 F c=>bE c fun c1 G c=>bE c fun a7 a8 c=>dR [0,0,3,7,0,0,48,112,255,511] [8,9] 2 folM ?_)
    replace b:=b.drew
    refine Dn [0,1,2,3,4,5,6,7] [] [8] (yR rfl (m_ h.v (eh q)) (yR rfl (m_ (iV g) (eh l)) (yR rfl (yIa SL_32 e0 e0 b (rdI j) F) (yR rfl (yI O_58 e0 b (rdI j) F) (yR rfl (m_ i.v (eh r)) (yR rfl (m_ (iV g) (eh l)) (yR rfl (yIa SL_32 e0 e0 b (rdI k) G) (yR rfl (yI O_58 e0 b (rdI k) G) (Rn QSn ?_)))))))))
    refine Lc1 rfl ?_
    refine Lk wn (yCall FN_53 (a2 e0 e0)) (cmp_Compare_uint32_ok a8 b) ?_
    rintro _ w ⟨rfl,b⟩
    refine ⟨_,rfl,?_⟩
    refine Dn [] [] [9] (Rn QSn ?_)
    refine Lc1 rfl ?_
    refine Ly wn (a_ (iV a7) e0) (Dz [] [] (Rn QSn (a6 _ _ (wp_ret (C _ _ _ (a4 _ _ _ rfl ?_))))))
    cases c
    exact B _ _ _ _ rfl rfl (U _ _ _ rfl b (A _ rfl))
  ·refine wp_exit (Z _ _ _ rfl ?_)
   cases c
   exact B _ _ _ _ rfl rfl (S _ _ b (A _ rfl))
 ·refine condT e0 (nT (dF o)) (sR fun _ a9=>Ym h.v e0 (yY (yLen SL_32 e0 b (rdI j)) (Ym i.v e0 (yY (yLen SL_32 e0 b (rdI k)) (bE d fun b0 b1 d=>yC (yCall FN_52 (a2 e0 e0)) (cmp_Compare_int_ok b1 b) ?_)))))
  rintro _ w ⟨rfl,b⟩
  refine ⟨_,rfl,?_⟩
  refine Ya (iV b0) e0 (wK a9 (wp_ret (J _ _ _ rfl ?_)))
  cases d
  exact n _ _ _ (fin1r Tryd.results32 ⟨rfl,rfl⟩ ⟨rfl,b⟩)
theorem integer_minus_ok {p A:LI} {k l:Hdr} {out:LI} (g:integer_minus p A=some out) (q:imm (rI .u32) k.v p∈ros) (t:imm (rI .u32) l.v A∈ros) (b:St w0 ros rs w):
  Calls Tryd.prog 33 #[k.v,l.v] w (fun e w=>∃ (B:Hdr),e=.returned (B.v)∧St w0 (imm (rI .u32) B.v out::ros) rs w):=by
 refine enterQ Tryd.func33 rfl Tryd.ntmps33 rfl fun Q I=>sR fun _ J=>Ya hnil.v rfl (wK J (sR fun _ K=>Ym k.v e0 (yY (yLen SL_32 e0 b (rdI q)) (bE g fun c7 L g=>yH (rMk b SL_32 e0 L) fun h w b=>Ya h.v e0 ?_))))
 refine wK K (sR fun _ N=>Ya (.int .u64 0) rfl (wK N (sQ fun _ O=>sR fun _ R=>Ym k.v e0 (yY (yLen SL_32 e0 b (rdI q)) (Ym (iV 0) rfl (wN ?_))))))
 refine R _ _ (blockQ fun S T=>bE g fun U V g=>?_)
 have W:∀ (u:LI) (f:FV) w,f 5=h.v→St w0 ros (row 58 (rI .u32) h.v u::rs) w→u=U→S (.exit 0) (fr 47 f) w:=by
  intro u f w X b ho
  subst ho
  refine T _ _ _ (O _ _ (sR fun _ Z=>Ym h.v (eh X) (bE g fun c8 a0 g=>?_)))
  replace b:=b.fz
  refine yC (yCall FN_30 (a1 e0)) (integer_trim_ok a0 F0 b) ?_
  rintro _ w ⟨a2,rfl,b⟩
  refine ⟨_,rfl,?_⟩
  refine Ya a2.v e0 (wK Z (wp_ret ?_))
  cases g
  exact I _ _ _ (fin1r Tryd.results33 ⟨rfl,rfl⟩ ⟨_,rfl,(b.facts (allC F0 (allT (allT allI))))⟩)
 refine loopQ (fun s a w=>∃ (m:LI) (i d:Int) (f:FV),(m,i,d)=s∧a=fr 47 f∧f 1=l.v∧f 5=h.v∧f 6=.int .u64 i∧f 13=k.v∧f 14=iV (p.length:Int)∧f 15=iV d∧St w0 ros (row 58 (rI .u32) h.v m::rs) w) V ⟨_,_,_,_,rfl,rfl,rfl,rfl,rfl,rfl,rfl,rfl,b⟩ ?_
 rintro _ _ w a3 ⟨m,i,d,f,rfl,rfl,r,x,a4,y,z,n,b⟩ c a5 c9 a6 a7
 refine sR fun _ a8=>yY (ylss (eh n) (eh z)) (wK a8 (seqQ fun d0 a9 b0=>?_))
 refine cIf e0 c (fun b1 c=>?_) fun b1 c=>?_
 ·refine wp_skip (a9 _ _ (sQ fun _ b2=>blockQ fun _ b3=>sR fun _ b4=>Ym (iV d) (eh n) (bE c fun o C c=>yY (yIa SL_32 (eh y) (eh n) b (rdI q) C) (yY (yI O_58 e0 b (rdI q) C) (Ya (iV d) e0 (Ya (.int .u32 o) e0 (wK b4 ?_)))))))
  refine sR fun _ b5=>Ym (.int .u32 o) e0 (yY (ycv (k':=.u64) (by kernel_rfl) (by kernel_rfl) e0) (Ym (.int .u64 i) (eh a4) (yY (ysub e0 e0) (Ya (.int .u64 (ws .u64 (wc .u64 o) i)) e0 (wK b5 (sQ fun b6 b7=>sR fun _ b8=>Ym (iV d) e0 (Ym l.v (eh r) ?_)))))))
  refine yY (yLen SL_32 e0 b (rdI t)) (yY (ylss e0 e0) (wK b8 ?_))
  have D:∀ (j:Int) (f:FV) w,f 1=l.v→f 5=h.v→f 7=iV d→f 9=.int .u64 j→f 13=k.v→f 14=iV (p.length:Int)→f 15=iV d→St w0 ros (row 58 (rI .u32) h.v m::rs) w→integer_minus_j4 m d j=some a3→b6 .normal (fr 47 f) w:=by
   intro j f w b9 E c0 F c1 c2 c3 b g
   refine b7 _ _ (sR fun _ c4=>Ym h.v (eh E) (Ym (iV d) (eh c0) (Ym (.int .u64 j) (eh F) (yY (yand e0 rfl) (yY (ycv (k':=.u32) (by kernel_rfl) (by kernel_rfl) e0) (bE g fun d1 G g=>yY (yIs SL_32 e0 e0 b rO0 G) (yT (r_sti (cs:=[.int .u32 (wc .u32 (wand .u64 j 4294967295))]) b O_58 rfl e0 e0 rfl mkI G) fun w b=>wK c4 ?_)))))))
   refine wR (Ym (.int .u64 j) (eh F) (yY (yshrc e0 rfl) (yY (yand e0 rfl) (Ya (.int .u64 (wand .u64 (wsrc .u64 j 32) 1)) e0 (wN (b3 _ _ _ (b2 _ _ (wR (yY (yadd (eh c3) rfl) (Ym (iV (wa .i64 d 1)) e0 (wN ?_)))))))))))
   cases g
   exact a6 _ _ _ rfl ⟨_,_,_,_,rfl,rfl,b9,E,rfl,c1,c2,rfl,b⟩
  refine cIf e0 c (fun c5 c=>?_) fun c5 c=>?_
  ·exact wR (Ym (.int .u64 (ws .u64 (wc .u64 o) i)) e0 (Ym l.v (eh r) (Ym (iV d) e0 (bE c fun c6 H c=>yY (yIa SL_32 e0 e0 b (rdI t) H) (yY (yI O_58 e0 b (rdI t) H) (yY (ycv (k':=.u64) (by kernel_rfl) (by kernel_rfl) e0) (yY (ysub e0 e0) (Ya (.int .u64 (ws .u64 (ws .u64 (wc .u64 o) i) (wc .u64 c6))) e0 (wN (D _ _ _ r x rfl rfl y z n b c))))))))))
  ·exact wp_skip (D _ _ _ r x rfl rfl y z n b c)
 ·refine wp_exit (b0 _ _ _ rfl ?_)
  cases c
  exact a7 _ _ _ _ rfl rfl (W _ _ _ x b (a5 _ rfl))
theorem integer_Add_ok {c:Bool} {l:LI} {d:Bool} {m:LI} {i f:Hdr} {out:Bool×LI} (b:integer_Add c l d m=some out) (x:imm (rI .u32) i.v l∈ros) (y:imm (rI .u32) f.v m∈ros) (a:St w0 ros rs w):
  Calls Tryd.prog 12 #[.agg #[.bool c,i.v],.agg #[.bool d,f.v]] w (fun e w=>∃ (n:Hdr),e=.returned (.agg #[.bool out.1,n.v])∧St w0 (imm (rI .u32) n.v out.2::ros) rs w):=by
 refine enterQ Tryd.func12 rfl Tryd.ntmps12 rfl fun Q j=>sR fun _ z=>yBb (r_box (vals:=[.bool c,i.v]) a e0 rfl) fun W w a=>yBb (r_box (vals:=[.bool d,f.v]) a e0 rfl) fun X w a=>yBb (rAl a ZT_34) fun Z w a=>wK z (sQ fun _ A=>bE b fun a0 B b=>bE b fun a3 C b=>?_)
 refine dR [0,1,3,0,8,31,63,127] [2,5,6,7] 4 folM ?_
 replace a:=a.drew
 refine Dn [0,1,3,4] [] [2] (yR rfl (yFb FL_34_1 e0) (yR rfl (lb_ i.v O_32 e0 a R2) (yR rfl (yFb FL_34_1 e0) (yR rfl (lb_ f.v O_32 e0 a R1) (Rn QSn ?_)))))
 refine Lc1 rfl ?_
 refine Lk wn (yCall FN_30 (a1 e0)) (integer_trim_ok B x a) ?_
 rintro _ w ⟨g,rfl,a⟩
 refine ⟨_,rfl,?_⟩
 refine Dn [] [3,4] [5] (Rn (yS rfl (yFb FL_34_1 e0) (yS rfl (lb_ f.v O_32 e0 a R1) QSn)) ?_)
 refine Lc1 rfl ?_
 refine Lk wn (yCall FN_30 (a1 e0)) (integer_trim_ok C (mtF y) a) ?_
 rintro _ w ⟨h,rfl,a⟩
 refine ⟨_,rfl,?_⟩
 refine Dn [] [] [6] (Rn QSn ?_)
 refine Lc1 rfl ?_
 refine Ly wn (a_ g.v e0) (Dn [] [] [7] (Rn QSn ?_))
 refine Lc1 rfl ?_
 refine Ly wn (a_ h.v e0) (Dz [] [] (Rn QSn (A _ _ (seqQ fun a4 D o=>blockQ fun _ k=>sR fun _ E=>yY (yFb FL_34_0 e0) (yY (lb_ (.bool c) O_4 e0 a R2) (yY (yFb FL_34_0 e0) (yY (lb_ (.bool d) O_4 e0 a R1) (yY (yeqb (by kernel_rfl) e0 e0) (Ya (.bool (c == d)) e0 ?_)))))))))
 refine wK E (cB e0 b (fun F b=>?_) fun F b=>?_)
 ·refine sQ fun _ G=>bE b fun a5 H b=>bE b fun p I b=>dR [0,1,0,0,12,31,63] [4,5,6] 3 folM ?_
  replace a:=a.drew
  refine Dn [0,1,2,3] [] [4] (yR rfl (yFb FL_34_0 e0) (yR rfl (lb_ (.bool c) O_4 e0 a R2) (yR rfl (m_ g.v e0) (yR rfl (m_ h.v e0) (Rn QSn ?_)))))
  refine Lc1 rfl ?_
  refine Lk wn (yCall FN_31 (a2 e0 e0)) (integer_plus_ok H F1 F0 a) ?_
  rintro _ w ⟨a6,rfl,a⟩
  refine ⟨_,rfl,?_⟩
  refine Dn [] [0,1] [5] (Rn (yS rfl (yFb FL_34_0 e0) (yS rfl (lb_ (.bool c) O_4 e0 a R2) QSn)) ?_)
  refine Lc1 rfl ?_
  refine Lk wn (yCall FN_28 (a2 e0 e0)) (integer_big_ok I F0 a) ?_
  rintro _ w ⟨q,rfl,a⟩
  refine ⟨_,rfl,?_⟩
  refine Dn [] [] [6] (Rn QSn ?_)
  refine Lc1 rfl ?_
  refine LT wn (r_stbn (vals':=[.bool p.1,q.v]) (us:=[.bool p.1,q.v]) a ST_34 e0 e0 rfl rfl (one_of rfl) rfl) fun w a=>Dz [] [] (Rn QSn (G _ _ (wp_ret (k _ _ _ (o _ _ _ rfl ?_)))))
  cases b
  exact j _ _ _ (fin1r Tryd.results12 (rcs2 rfl rfl a R0 ST_34 rfl) ⟨_,rfl,((a.k1c).facts (allC F0 (allT (allT (allT (allT allI))))))⟩)
 ·refine sR fun _ J=>Ym g.v e0 (Ym h.v e0 (bE b fun K L b=>yC (yCall FN_32 (a2 e0 e0)) (integer_compare_ok L F1 F0 a) ?_))
  rintro _ w ⟨rfl,a⟩
  refine ⟨_,rfl,?_⟩
  refine yY (ygeq e0 rfl) (Ya (.bool (decide ((0:Int)≤K))) e0 (wK J ?_))
  refine cIf e0 b (fun N b=>?_) fun N b=>?_
  ·refine sQ fun _ O=>bE b fun a7 R b=>bE b fun r S b=>dR [0,1,0,0,12,31,63] [4,5,6] 3 folM ?_
   replace a:=a.drew
   refine Dn [0,1,2,3] [] [4] (yR rfl (yFb FL_34_0 e0) (yR rfl (lb_ (.bool c) O_4 e0 a R2) (yR rfl (m_ g.v e0) (yR rfl (m_ h.v e0) (Rn QSn ?_)))))
   refine Lc1 rfl ?_
   refine Lk wn (yCall FN_33 (a2 e0 e0)) (integer_minus_ok R F1 F0 a) ?_
   rintro _ w ⟨a8,rfl,a⟩
   refine ⟨_,rfl,?_⟩
   refine Dn [] [0,1] [5] (Rn (yS rfl (yFb FL_34_0 e0) (yS rfl (lb_ (.bool c) O_4 e0 a R2) QSn)) ?_)
   refine Lc1 rfl ?_
   refine Lk wn (yCall FN_28 (a2 e0 e0)) (integer_big_ok S F0 a) ?_
   rintro _ w ⟨s,rfl,a⟩
   refine ⟨_,rfl,?_⟩
   refine Dn [] [] [6] (Rn QSn ?_)
   refine Lc1 rfl ?_
   refine LT wn (r_stbn (vals':=[.bool r.1,s.v]) (us:=[.bool r.1,s.v]) a ST_34 e0 e0 rfl rfl (one_of rfl) rfl) fun w a=>Dz [] [] (Rn QSn (O _ _ (wp_ret (k _ _ _ (o _ _ _ rfl ?_)))))
   cases b
   exact j _ _ _ (fin1r Tryd.results12 (rcs2 rfl rfl a R0 ST_34 rfl) ⟨_,rfl,((a.k1c).facts (allC F0 (allT (allT (allT (allT allI))))))⟩)
  ·refine wp_skip (k _ _ _ (D _ _ (sQ fun _ T=>bE b fun a9 U b=>bE b fun t V b=>dR [0,1,0,0,12,31,63] [4,5,6] 3 folM ?_)))
   replace a:=a.drew
   refine Dn [0,1,2,3] [] [4] (yR rfl (yFb FL_34_0 e0) (yR rfl (lb_ (.bool d) O_4 e0 a R1) (yR rfl (m_ h.v e0) (yR rfl (m_ g.v e0) (Rn QSn ?_)))))
   refine Lc1 rfl ?_
   refine Lk wn (yCall FN_33 (a2 e0 e0)) (integer_minus_ok U F0 F1 a) ?_
   rintro _ w ⟨b0,rfl,a⟩
   refine ⟨_,rfl,?_⟩
   refine Dn [] [0,1] [5] (Rn (yS rfl (yFb FL_34_0 e0) (yS rfl (lb_ (.bool d) O_4 e0 a R1) QSn)) ?_)
   refine Lc1 rfl ?_
   refine Lk wn (yCall FN_28 (a2 e0 e0)) (integer_big_ok V F0 a) ?_
   rintro _ w ⟨u,rfl,a⟩
   refine ⟨_,rfl,?_⟩
   refine Dn [] [] [6] (Rn QSn ?_)
   refine Lc1 rfl ?_
   refine LT wn (r_stbn (vals':=[.bool t.1,u.v]) (us:=[.bool t.1,u.v]) a ST_34 e0 e0 rfl rfl (one_of rfl) rfl) fun w a=>Dz [] [] (Rn QSn (T _ _ (wp_ret ?_)))
   cases b
   exact j _ _ _ (fin1r Tryd.results12 (rcs2 rfl rfl a R0 ST_34 rfl) ⟨_,rfl,((a.k1c).facts (allC F0 (allT (allT (allT (allT allI))))))⟩)
theorem integer_Sub_ok {d:Bool} {h:LI} {b:Bool} {i:LI} {f c:Hdr} {out:Bool×LI} (g:integer_Sub d h b i=some out) (m:imm (rI .u32) f.v h∈ros) (n:imm (rI .u32) c.v i∈ros) (a:St w0 ros rs w):
  Calls Tryd.prog 84 #[.agg #[.bool d,f.v],.agg #[.bool b,c.v]] w (fun e w=>∃ (j:Hdr),e=.returned (.agg #[.bool out.1,j.v])∧St w0 (imm (rI .u32) j.v out.2::ros) rs w):=by
 refine enterQ Tryd.func84 rfl Tryd.ntmps84 rfl fun Q o=>sR fun _ p=>yBb (r_box (vals:=[.bool d,f.v]) a e0 rfl) fun t w a=>yBb (r_box (vals:=[.bool b,c.v]) a e0 rfl) fun u w a=>yBb (rAl a ZT_34) fun x w a=>wK p (sR fun _ q=>yY (yFb FL_34_0 e0) ?_)
 refine yY (lb_ (.bool b) O_4 e0 a R1) (yY (ynot e0) (yY (yFb FL_34_0 e0) (yT (r_stb1 (vals':=[.bool (!b),c.v]) (a.k10) O_4 e0 e0 rfl rfl rfl rfl) fun w a=>wK q (sR fun _ r=>yY (lbs_ [.bool d,f.v] ST_34 e0 a R2) (yY (lbs_ [.bool (!b),c.v] ST_34 e0 a R0) (bE g fun k s g=>yC (yCall FN_12 (a2 e0 e0)) (integer_Add_ok s m n a) ?_))))))
 rintro _ w ⟨l,rfl,a⟩
 refine ⟨_,rfl,?_⟩
 refine yT (r_stbn (vals':=[.bool k.1,l.v]) (us:=[.bool k.1,l.v]) (a.k10) ST_34 e0 e0 rfl rfl (one_of rfl) rfl) fun w a=>wK r (wp_ret ?_)
 cases g
 exact o _ _ _ (fin1r Tryd.results84 (rcs2 rfl rfl a R0 ST_34 rfl) ⟨_,rfl,(a.k1c)⟩)
end Go.Proofs.YtpfmbaidflhamaaDoor
