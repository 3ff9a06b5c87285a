/- Walks: each function computes its model, printed. -/
import Derived.Test.YthpeajepbffinaaGreatW2
namespace Go.Proofs.YthpeajepbffinaaGreat
open Go Sx M
set_option maxRecDepth 100000
set_option maxHeartbeats 40000000
set_option linter.unusedVariables false
attribute [local irreducible] wpList Code.wp Calls DR QR QS LA LS St
variable {w0:World} {ros:List Fact} {rs:List Res} {w:World}
theorem matching_full_ok {j h:Int} {out:LI} (i:matching_full j h=some out) (b:St w0 ros rs w):
  Calls Tryz.prog 157 #[iV j,iV h] w (fun e w=>∃ (o:Hdr),e=.returned (o.v)∧St w0 ros (row 3 I1 o.v out::rs) w):=by
 refine enterQ Tryz.func157 rfl Tryz.ntmps157 rfl fun Q t=>sR fun _ u=>Ya hnil.v rfl (wK u (sR fun _ x=>Ym (iV j) e0 (bE i fun y z i=>yH (rMk b SL_22 e0 z) fun c w b=>Ya c.v e0 (wN ?_))))
 refine x _ _ (sQ fun _ A=>sR fun _ B=>Ym c.v e0 (yY (yLen SL_22 e0 b rO0) (Ym (iV 0) rfl (wK B (blockQ fun C D=>bE i fun E F i=>?_)))))
 have G:∀ (k:LI) (f:FV) w,f 5=c.v→St w0 ros (row 3 I1 c.v k::rs) w→k=E→C (.exit 0) (fr 20 f) w:=by
  intro k f w H b ho
  subst ho
  refine D _ _ _ (A _ _ (sR fun _ I=>Ym c.v (eh H) (Ya c.v e0 (wK I (wp_ret ?_)))))
  cases i
  exact t _ _ _ (fin1r Tryz.results157 ⟨rfl,rfl⟩ ⟨_,rfl,b⟩)
 refine loopQ (fun s a w=>∃ (l:LI) (d:Int) (f:FV),(l,d)=s∧a=fr 20 f∧f 1=iV h∧f 5=c.v∧f 10=iV (y.length:Int)∧f 11=iV d∧St w0 ros (row 3 I1 c.v l::rs) w) F ⟨_,_,_,rfl,rfl,rfl,rfl,rfl,rfl,b⟩ ?_
 rintro _ _ w W ⟨l,d,f,rfl,rfl,p,m,q,n,b⟩ g J X K L
 refine sR fun _ N=>yY (ylss (eh n) (eh q)) (wK N (seqQ fun Z O R=>?_))
 refine cIf e0 g (fun S g=>?_) fun S g=>?_
 ·refine wp_skip (O _ _ (sQ fun _ T=>blockQ fun _ U=>sR fun _ V=>Ym (iV d) (eh n) (Ya (iV d) e0 (wK V (wR (Ym c.v (eh m) (Ym (iV d) e0 (Ym (iV h) (eh p) ?_))))))))
  refine bE g fun a0 r g=>yY (yIs SL_22 e0 e0 b rO0 r) (yT (r_sti (cs:=[iV h]) b O_3 rfl e0 e0 rfl mkI r) fun w b=>wN (U _ _ _ (T _ _ (wR (yY (yadd (eh n) rfl) (Ym (iV (wa .i64 d 1)) e0 (wN ?_)))))))
  cases g
  exact K _ _ _ rfl ⟨_,_,_,rfl,rfl,p,m,q,rfl,b⟩
 ·refine wp_exit (R _ _ _ rfl ?_)
  cases g
  exact L _ _ _ _ rfl rfl (G _ _ _ m b (J _ rfl))
theorem matching_kuhn_try_step {rec:L2→LI→LI→(List Bool)→Int→Option (LI×LI×(List Bool)×Bool)} (b7:∀ {w0:World} {ros:List Fact} {rs:List Res} {w:World} {m:L2} {x y:LI} {z:List Bool} {l:Int} {d:Nat} {j k g h:Hdr} {out:LI×LI×(List Bool)×Bool} (o:rec m x y z l=some out) (b:St w0 ros (box d 164 [j.v,k.v,g.v,h.v]::row 22 S1 j.v m::row 3 I1 k.v x::row 3 I1 g.v y::row 4 rB h.v z::rs) w),Calls Tryz.prog 158 #[(pB d),iV l] w (fun e w=>e=.returned (.bool out.2.2.2)∧St w0 ros (row 22 S1 j.v m::row 3 I1 k.v out.1::row 3 I1 g.v out.2.1::row 4 rB h.v out.2.2.1::box d 164 [j.v,k.v,g.v,h.v]::rs) w)) {w0:World} {ros:List Fact} {rs:List Res} {w:World} {m:L2} {x y:LI} {z:List Bool} {l:Int} {d:Nat} {j k g h:Hdr} {out:LI×LI×(List Bool)×Bool} (o:matching_kuhn_try_body rec m x y z l=some out) (b:St w0 ros (box d 164 [j.v,k.v,g.v,h.v]::row 22 S1 j.v m::row 3 I1 k.v x::row 3 I1 g.v y::row 4 rB h.v z::rs) w):
  Calls Tryz.prog 158 #[(pB d),iV l] w (fun e w=>e=.returned (.bool out.2.2.2)∧St w0 ros (row 22 S1 j.v m::row 3 I1 k.v out.1::row 3 I1 g.v out.2.1::row 4 rB h.v out.2.2.1::box d 164 [j.v,k.v,g.v,h.v]::rs) w):=by
 refine enterQ Tryz.func158 rfl Tryz.ntmps158 rfl fun Q Z=>sR fun _ b8=>Ya (.bool false) rfl (wK b8 (seqQ fun g0 b9 c0=>sR fun _ c1=>Ym (pB d) e0 (yY (yn e0) (yY (yFb FL_164_0 e0) (yY (lb_ j.v O_24 e0 b R0) (Ym (iV l) e0 ?_))))))
 refine bE o fun t a0 o=>yY (yIa SL_24 e0 e0 b rO1 a0) ?_
 obtain ⟨u,c2,b⟩:=rLs b rO1 a0
 refine yY (yCe O_22 e0 c2 rfl) (yY (yLen SL_22 e0 b (rdI F0)) (Ym (iV 0) rfl (wK c1 (blockQ fun a1 a3=>bE o fun a4 c3 o=>?_))))
 have c4:∀ (F G:LI) (H:List Bool) (f:FV) w,St w0 ros (row 22 S1 j.v m::row 3 I1 k.v F::row 3 I1 g.v G::row 4 rB h.v H::box d 164 [j.v,k.v,g.v,h.v]::rs) w→.inl (F,G,H)=a4→a1 (.exit 0) (fr 66 f) w:=by
  intro F G H f w b ho
  subst ho
  refine a3 _ _ _ (b9 _ _ (sR fun _ c5=>Ya (.bool false) rfl (wK c5 (wp_ret ?_))))
  cases o
  exact Z _ _ _ (fin1r Tryz.results158 ⟨rfl,rfl⟩ ⟨rfl,b⟩)
 have c6:∀ (I J:LI) (K:List Bool) (f:FV) w,f 4=.bool true→St w0 ros (row 22 S1 j.v m::row 3 I1 k.v I::row 3 I1 g.v J::row 4 rB h.v K::box d 164 [j.v,k.v,g.v,h.v]::rs) w→.inr (I,J,K)=a4→a1 .ret (fr 66 f) w:=by
  intro I J K f w c7 b ho
  subst ho
  refine a3 _ _ _ (c0 _ _ _ rfl ?_)
  cases o
  exact Z _ _ _ (fin1r Tryz.results158 ⟨rfl,c7⟩ ⟨rfl,b⟩)
 refine loopQ (fun s a w=>∃ (L N:LI) (O:List Bool) (r:Int) (f:FV),(L,N,O,r)=s∧a=fr 66 f∧f 0=(pB d)∧f 1=iV l∧f 13=u.v∧f 14=iV (t.length:Int)∧f 15=iV r∧St w0 (imm I1 u.v t::ros) (row 22 S1 j.v m::row 3 I1 k.v L::row 3 I1 g.v N::row 4 rB h.v O::box d 164 [j.v,k.v,g.v,h.v]::rs) w) c3 ⟨_,_,_,_,_,rfl,rfl,rfl,rfl,rfl,rfl,rfl,(b.pk 5 [1,1,1,1,0] rfl)⟩ ?_
 rintro _ _ w c8 ⟨L,N,O,r,f,rfl,rfl,q,R,B,C,A,b⟩ c a5 g1 c9 a6
 refine sR fun _ d0=>yY (ylss (eh A) (eh C)) (wK d0 (seqQ fun g2 d1 d2=>?_))
 refine cIf e0 c (fun d3 c=>?_) fun d3 c=>?_
 ·refine wp_skip (d1 _ _ (seqQ fun d4 d5 d6=>?_))
  have a7:∀ (S T:LI) (U:List Bool) (f:FV) w,f 0=(pB d)→f 1=iV l→f 13=u.v→f 14=iV (t.length:Int)→f 15=iV r→St w0 (imm I1 u.v t::ros) (row 22 S1 j.v m::row 3 I1 k.v S::row 3 I1 g.v T::row 4 rB h.v U::box d 164 [j.v,k.v,g.v,h.v]::rs) w→matching_kuhn_try_j12 r S T U=some c8→d4 .normal (fr 66 f) w:=by
   intro S T U f w d7 d8 d9 e1 e2 b o
   refine d5 _ _ (wR (yY (yadd (eh e2) rfl) (Ym (iV (wa .i64 r 1)) e0 (wN ?_))))
   cases o
   exact c9 _ _ _ rfl ⟨_,_,_,_,_,rfl,rfl,d7,d8,d9,e1,rfl,b⟩
  refine blockQ fun _ V=>sR fun _ e3=>bE c fun n a8 c=>yY (yIa SL_22 (eh B) (eh A) b (rdI F0) a8) (yY (yI O_3 e0 b (rdI F0) a8) (Ya (iV n) e0 (wK e3 (seqQ fun g3 e4 e5=>sR fun _ e6=>Ym (pB d) (eh q) (yY (yn e0) ?_)))))
  refine yY (yFb FL_164_3 e0) (yY (lb_ h.v O_93 e0 b R4) (Ym (iV n) e0 (bE c fun g4 a9 c=>yY (yIa SL_93 e0 e0 b rO3 a9) (yY (yB O_4 e0 b rO3 a9) (wK e6 (cB e0 c (fun e7 c=>?_) fun e7 c=>?_))))))
  ·exact wp_exit (e5 _ _ _ rfl (V _ _ _ (a7 _ _ _ _ _ q R B C A b c)))
  ·refine wp_skip (e4 _ _ (sR fun _ e8=>Ym (pB d) (eh q) (yY (yn e0) (yY (yFb FL_164_3 e0) (yY (lb_ h.v O_93 e0 b R4) (Ym (iV n) e0 (bE c fun g5 b0 c=>yY (yIs SL_93 e0 e0 b rO3 b0) (yT (r_sti (cs:=[.bool true]) (b.pk 4 [3,0,0,0] rfl) O_4 rfl e0 rfl rfl mkB b0) fun w b=>wN ?_))))))))
   refine e8 _ _ (sR fun _ e9=>Ym (pB d) (eh q) (yY (yn e0) (yY (yFb FL_164_2 e0) (yY (lb_ g.v O_22 e0 b R4) (Ym (iV n) e0 (bE c fun f0 b2 c=>yY (yIa SL_22 e0 e0 b rO3 b2) (yY (yI O_3 e0 b rO3 b2) (yY (yeql e0 rfl) (Ym (.bool (decide (f0=(-1)))) e0 (bE c fun D p c=>?_))))))))))
   refine joinW 10 (fun f w=>f 0=(pB d)∧f 1=iV l∧f 6=iV n∧f 13=u.v∧f 14=iV (t.length:Int)∧f 15=iV r∧f 50=.bool D.1∧St w0 (imm I1 u.v t::ros) (row 22 S1 j.v m::row 3 I1 k.v D.2.1::row 3 I1 g.v D.2.2.1::row 4 rB h.v D.2.2.2::box d 164 [j.v,k.v,g.v,h.v]::rs) w) (fun b3=>?_) ?_
   ·rcases iteS p with ⟨i,p⟩ | ⟨i,p⟩
    ·refine gN (dT i) (gN (dT i) (gN (dT i) (gN (dT i) (gN (dT i) (gN (dT i) (gN (dT i) (gN (dT i) (gN (dT i) (yY (pt_ (.bool true) e0 (dT i) rfl) ?_)))))))))
     cases p
     exact b3 _ _ ⟨q,R,rfl,B,C,A,rfl,(b.pk 5 [1,1,1,0,0] rfl)⟩
    ·refine yG (dF i) (m_ (pB d) (eh q)) (yG (dF i) (m_ (pB d) (eh q)) (yG (dF i) (yn e0) (yG (dF i) (yFb FL_164_2 e0) (yG (dF i) (lb_ g.v O_22 e0 b R4) (yG (dF i) (m_ (iV n) e0) (bE p fun g6 b4 p=>yG (dF i) (yIa SL_22 e0 e0 b rO3 b4) (yG (dF i) (yI O_3 e0 b rO3 b4) (bE p fun f1 f2 p=>?_))))))))
     replace b:=b.pk 5 [4,1,1,1,0] rfl
     refine Yc (wG (dF i)) rfl (yCall FN_158 (a2 e0 e0)) (b7 f2 b) ?_
     rintro _ w ⟨rfl,b⟩
     refine ⟨_,rfl,?_⟩
     refine yY (pf_ (.bool f1.2.2.2) e0 (dF i) e0) ?_
     cases p
     exact b3 _ _ ⟨q,R,rfl,B,C,A,rfl,b⟩
   rintro f w ⟨W,E,X,f3,f4,f5,f6,b⟩
   refine wK e9 (cB (eh f6) c (fun f7 c=>?_) fun f7 c=>?_)
   ·refine sQ fun _ f8=>bE c fun g7 b5 c=>bE c fun g8 b6 c=>dR [0,1,3,7,0,0,32,96,224,0,0,0,1535,5631,16383,32767] [13,15] 2 folM ?_
    replace b:=b.drew
    refine Dn [0,1,2,3,4,5,6,7,8,9,10,11,12] [] [13] (yR rfl (m_ (pB d) (eh W)) (yR rfl (yn e0) (yR rfl (yFb FL_164_1 e0) (yR rfl (lb_ k.v O_22 e0 b R4) (yR rfl (m_ (iV l) (eh E)) (yR rfl (m_ (pB d) (eh W)) (yR rfl (yn e0) (yR rfl (yFb FL_164_2 e0) (yR rfl (lb_ g.v O_22 e0 b R4) (yR rfl (m_ (iV n) (eh X)) (yR rfl (m_ (iV n) (eh X)) (yR rfl (m_ (iV l) (eh E)) (yR rfl (yIs SL_22 e0 e0 b rO1 b5) ?_)))))))))))))
    refine Rn QSn ?_
    refine Lc1 rfl ?_
    replace b:=b.pk 2 [1,0] rfl
    refine LT wn (r_sti (cs:=[iV n]) b O_3 rfl e0 e0 rfl mkI b5) fun w b=>Dn [14] [9,11] [15] (yR rfl (yIs SL_22 e0 e0 b rO2 b6) (Rn (yS rfl (m_ (iV n) (eh X)) (yS rfl (m_ (iV l) (eh E)) QSn)) ?_))
    refine Lc1 rfl ?_
    replace b:=b.pk 3 [2,0,0] rfl
    refine LT wn (r_sti (cs:=[iV l]) b O_3 rfl e0 e0 rfl mkI b6) fun w b=>Dz [] [] (Rn QSn (f8 _ _ (sR fun _ f9=>Ya (.bool true) rfl (wK f9 (wp_ret (V _ _ _ (d6 _ _ _ rfl ?_)))))))
    cases c
    exact a6 _ _ _ _ rfl rfl (c6 _ _ _ _ _ rfl ((b.pk 5 [2,1,0,0,0] rfl).facts (allT allI)) (a5 _ rfl))
   ·exact wp_skip (V _ _ _ (a7 _ _ _ _ _ W E f3 f4 f5 b c))
 ·refine wp_exit (d2 _ _ _ rfl ?_)
  cases c
  exact a6 _ _ _ _ rfl rfl (c4 _ _ _ _ _ (b.facts (allT allI)) (a5 _ rfl))
theorem matching_kuhn_try_ok_n (n:Nat):∀ {w0:World} {ros:List Fact} {rs:List Res} {w:World} {g:L2} {i j:LI} {k:List Bool} {l:Int} {h:Nat} {a b c d:Hdr} {out:LI×LI×(List Bool)×Bool} (f:matching_kuhn_try n g i j k l=some out) (m:St w0 ros (box h 164 [a.v,b.v,c.v,d.v]::row 22 S1 a.v g::row 3 I1 b.v i::row 3 I1 c.v j::row 4 rB d.v k::rs) w),
  Calls Tryz.prog 158 #[(pB h),iV l] w (fun e w=>e=.returned (.bool out.2.2.2)∧St w0 ros (row 22 S1 a.v g::row 3 I1 b.v out.1::row 3 I1 c.v out.2.1::row 4 rB d.v out.2.2.1::box h 164 [a.v,b.v,c.v,d.v]::rs) w):=by
 induction n with
 | zero=>intro _ _ _ _ _ _ _ _ _ _ _ _ _ _ out f; cases f
 | succ n ih=>exact fun f m=>matching_kuhn_try_step (rec:=matching_kuhn_try n) ih f m
theorem matching_kuhn_try_ok {f:L2} {h i:LI} {j:List Bool} {k:Int} {g:Nat} {a b c d:Hdr} {out:LI×LI×(List Bool)×Bool} (l:matching_kuhn_try FUEL f h i j k=some out) (m:St w0 ros (box g 164 [a.v,b.v,c.v,d.v]::row 22 S1 a.v f::row 3 I1 b.v h::row 3 I1 c.v i::row 4 rB d.v j::rs) w):
  Calls Tryz.prog 158 #[(pB g),iV k] w (fun e w=>e=.returned (.bool out.2.2.2)∧St w0 ros (row 22 S1 a.v f::row 3 I1 b.v out.1::row 3 I1 c.v out.2.1::row 4 rB d.v out.2.2.1::box g 164 [a.v,b.v,c.v,d.v]::rs) w):=matching_kuhn_try_ok_n FUEL l m
theorem matching_matched_ok {c d:Int} {D E F:LI} {n o p:Hdr} {out:L2×LI×LI×(List Bool)} (g:matching_matched c d D E F=some out) (S:imm I1 n.v D∈ros) (T:imm I1 o.v E∈ros) (U:imm (rI .u64) p.v F∈ros) (b:St w0 ros rs w):
  Calls Tryz.prog 140 #[.agg #[iV c,iV d,n.v,o.v,p.v]] w (fun e w=>∃ (G:Nat) (H I J K:Hdr),e=.returned (pB G)∧St w0 ros (row 22 S1 H.v out.1::row 3 I1 I.v out.2.1::row 3 I1 J.v out.2.2.1::row 4 rB K.v out.2.2.2::box G 164 [H.v,I.v,J.v,K.v]::rs) w):=by
 refine enterQ Tryz.func140 rfl Tryz.ntmps140 rfl fun Q V=>sR fun _ W=>yBb (r_box (vals:=[iV c,iV d,n.v,o.v,p.v]) b e0 rfl) fun L w b=>Ya (.pointer none) rfl (wK W (sQ fun _ X=>bE g fun N Z g=>bE g fun c8 a0 g=>bE g fun c9 a3 g=>dR [0,1,0,4,15,0,32,127,255,511,1023] [1,4,7,9,10] 5 folM ?_))
 replace b:=b.drew
 refine Dn [0,2,3,5,6] [] [1] (yR rfl (lbs_ [iV c,iV d,n.v,o.v,p.v] ST_91 e0 b R0) (yR rfl (yFb FL_91_1 e0) (yR rfl (lb_ (iV d) O_3 e0 b R0) (yR rfl (yFb FL_91_0 e0) (yR rfl (lb_ (iV c) O_3 e0 b R0) (Rn QSn ?_))))))
 refine Lc1 rfl ?_
 refine Lk wn (yCall FN_156 (a1 e0)) (matching_Edges_ok Z S T U b) ?_
 rintro _ w ⟨j,rfl,b⟩
 refine ⟨_,rfl,?_⟩
 refine Dn [] [2,3,5,6] [4] (Rn (yS rfl (yFb FL_91_1 e0) (yS rfl (lb_ (iV d) O_3 e0 b R1) (yS rfl (yFb FL_91_0 e0) (yS rfl (lb_ (iV c) O_3 e0 b R1) QSn)))) ?_)
 refine Lc1 rfl ?_
 refine Lk wn (yCall FN_157 (a2 e0 rfl)) (matching_full_ok a0 b) ?_
 rintro _ w ⟨k,rfl,b⟩
 refine ⟨_,rfl,?_⟩
 refine Dn [] [5,6] [7] (Rn (yS rfl (yFb FL_91_0 e0) (yS rfl (lb_ (iV c) O_3 e0 b R2) QSn)) ?_)
 refine Lc1 rfl ?_
 refine Lk wn (yCall FN_157 (a2 e0 rfl)) (matching_full_ok a3 b) ?_
 rintro _ w ⟨l,rfl,b⟩
 refine ⟨_,rfl,?_⟩
 refine Dn [8] [] [9] (yR rfl (ybuild (us:=[j.v,k.v,l.v,hnil.v]) [(0,j.v),(1,k.v),(2,l.v)] SO_164 (bp3 e0 e0 e0) rfl) (Rn QSn ?_))
 refine Lc1 rfl ?_
 refine LB wn (r_box (vals:=[j.v,k.v,l.v,hnil.v]) b e0 rfl) fun h w b=>Dn [] [] [10] (Rn QSn ?_)
 refine Lc1 rfl ?_
 refine Ly wn (a_ (pB h) e0) (Dz [] [] (Rn QSn (X _ _ (sQ fun _ a4=>sR fun _ a5=>yY (yFb FL_91_1 e0) (yY (lb_ (iV d) O_3 e0 b R4) (Ym (iV 0) rfl (wK a5 (blockQ fun a6 a7=>bE g fun a8 a9 g=>?_))))))))
 have b0:∀ (r t:LI) (u:List Bool) (x:Hdr) (f:FV) w,f 3=(pB h)→St w0 ros (row 22 S1 j.v N::row 3 I1 k.v r::row 3 I1 l.v t::row 4 rB x.v u::box h 164 [j.v,k.v,l.v,x.v]::rs) w→(r,t,u)=a8→a6 (.exit 0) (fr 31 f) w:=by
  intro r t u x f w b1 b ho
  subst ho
  refine a7 _ _ _ (a4 _ _ (sR fun _ b2=>Ym (pB h) (eh b1) (Ya (pB h) e0 (wK b2 (wp_ret ?_)))))
  cases g
  exact V _ _ _ (fin1r Tryz.results140 ⟨rfl,rfl⟩ ⟨_,_,_,_,_,rfl,b⟩)
 replace b:=b.rowNh 4 rB
 refine loopQ (fun s a w=>∃ (y z:LI) (A:List Bool) (m:Int) (f:FV) (B:Hdr),(y,z,A,m)=s∧a=fr 31 f∧f 1=(pB L)∧f 3=(pB h)∧f 16=iV d∧f 17=iV m∧St w0 ros (box L 91 [iV c,iV d,n.v,o.v,p.v]::row 22 S1 j.v N::row 3 I1 k.v y::row 3 I1 l.v z::row 4 rB B.v A::box h 164 [j.v,k.v,l.v,B.v]::rs) w) a9 ⟨_,_,_,_,_,_,rfl,rfl,rfl,rfl,rfl,rfl,(b.pk 6 [5,4,3,2,0,0] rfl)⟩ ?_
 rintro _ _ w d0 ⟨y,z,A,m,f,B,rfl,rfl,O,q,R,C,b⟩ i b3 d1 b4 b5
 refine sR fun _ b6=>yY (ylss (eh C) (eh R)) (wK b6 (seqQ fun d2 b7 b8=>?_))
 refine cIf e0 i (fun c0 i=>?_) fun c0 i=>?_
 ·refine wp_skip (b7 _ _ (sQ fun _ c1=>blockQ fun _ c2=>sR fun _ c3=>Ym (iV m) (eh C) (Ya (iV m) e0 (wK c3 (sR fun _ c4=>Ym (pB h) (eh q) (yY (yFb FL_91_0 (eh O)) ?_))))))
  refine yY (lb_ (iV c) O_3 e0 b R0) (bE i fun d3 c5 i=>yH (rMk b SL_93 e0 c5) fun c6 w b=>yY (yn e0) (yY (yFb FL_164_3 e0) (yT (r_stb1 (vals':=[j.v,k.v,l.v,c6.v]) (b.pk 7 [6,0,0,0,0,0,0] rfl) O_93 e0 e0 rfl rfl rfl rfl) fun w b=>wK c4 (wR (Ym (pB h) (eh q) (Ym (iV m) e0 (bE i fun d4 c7 i=>?_)))))))
  replace b:=b.pk 6 [0,2,2,2,0,0] rfl
  refine yC (yCall FN_158 (a2 e0 e0)) (matching_kuhn_try_ok c7 b) ?_
  rintro _ w ⟨rfl,b⟩
  refine ⟨_,rfl,?_⟩
  refine wN (c2 _ _ _ (c1 _ _ (wR (yY (yadd (eh C) rfl) (Ym (iV (wa .i64 m 1)) e0 (wN ?_))))))
  cases i
  exact b4 _ _ _ rfl ⟨_,_,_,_,_,_,rfl,rfl,O,q,R,rfl,(b.pk 7 [5,0,0,0,0,0] rfl)⟩
 ·refine wp_exit (b8 _ _ _ rfl ?_)
  cases i
  exact b5 _ _ _ _ rfl rfl (b0 _ _ _ _ _ _ q (b.pk 6 [1,1,1,1,1] rfl) (b3 _ rfl))
theorem matching_Reachable_ok {D y:Int} {d6 d7 d8:LI} {L N O:Hdr} {out:(List Bool)×(List Bool)} (p:matching_Reachable D y d6 d7 d8=some out) (g8:imm I1 L.v d6∈ros) (g9:imm I1 N.v d7∈ros) (h0:imm (rI .u64) O.v d8∈ros) (b:St w0 ros rs w):
  Calls Tryz.prog 123 #[.agg #[iV D,iV y,L.v,N.v,O.v]] w (fun e w=>∃ (d9 e1:Hdr),e=.returned (.tuple #[d9.v,e1.v])∧St w0 ros (row 4 rB d9.v out.1::row 4 rB e1.v out.2::rs) w):=by
 refine enterQ Tryz.func123 rfl Tryz.ntmps123 rfl fun Q h1=>sR fun _ h2=>yBb (r_box (vals:=[iV D,iV y,L.v,N.v,O.v]) b e0 rfl) fun s6 w b=>Ya hnil.v rfl (Ya hnil.v rfl (wK h2 (sR fun _ k2=>yY (lbs_ [iV D,iV y,L.v,N.v,O.v] ST_91 e0 b R0) (bE p fun c h3 p=>yC (yCall FN_140 (a1 e0)) (matching_matched_ok h3 g8 g9 h0 b) ?_))))
 rintro _ w ⟨h,k,i,m,o,rfl,b⟩
 refine ⟨_,rfl,?_⟩
 refine Ya (pB h) e0 (wK k2 (sQ fun _ h5=>bE p fun R e2 p=>bE p fun h7 a0 p=>?_))
 refine joinN (n:=89) (fun f w=>∃ (g d:Hdr),f 2=g.v∧f 3=d.v∧f 4=(pB h)∧St w0 ros (row 4 rB g.v R::row 4 rB d.v h7::row 22 S1 k.v c.1::row 3 I1 i.v c.2.1::row 3 I1 m.v c.2.2.1::row 4 rB o.v c.2.2.2::box h 164 [k.v,i.v,m.v,o.v]::rs) w) (fun a2=>?_) ?_
 ·refine dR [0,1,3,0,8,24,7,127] [2,5,6,7] 4 folM ?_
  replace b:=b.drew
  refine Dn [0,1,3,4] [] [2,5] (yR rfl (yFb FL_91_0 e0) (yR rfl (lb_ (iV D) O_3 e0 b R5) (yR rfl (yFb FL_91_1 e0) (yR rfl (lb_ (iV y) O_3 e0 b R5) (Rn QSn ?_)))))
  refine Lc rfl ?_ (Lc1 rfl ?_)
  ·refine LH wn (rMk b SL_93 e0 e2) fun S w b=>Dn [] [3,4] [5,6] (Rn (yS rfl (yFb FL_91_1 e0) (yS rfl (lb_ (iV y) O_3 e0 b R6) QSn)) ?_)
   refine Lc rfl ?_ (Lc1 rfl ?_)
   ·refine LH wn (rMk b SL_93 e0 a0) fun J w b=>Dn [] [] [6] (Rn QSn ?_)
    refine Lc1 rfl ?_
    refine Ly wn (a_ S.v e0) (Dn [] [] [7] (Rn QSn ?_))
    refine Lc1 rfl ?_
    exact Ly wn (a_ J.v e0) (Dz [] [] (Rn QSn (a2 _ _ ⟨_,_,rfl,rfl,rfl,(b.pk 8 [1,0,0,0,0,0,0] rfl)⟩)))
   ·refine Ly wn (a_ S.v e0) (Dn [] [3,4] [5] (Rn (yS rfl (yFb FL_91_1 e0) (yS rfl (lb_ (iV y) O_3 e0 b R6) QSn)) ?_))
    refine Lc1 rfl ?_
    refine LH wn (rMk b SL_93 e0 a0) fun J w b=>Dn [] [] [7] (Rn QSn ?_)
    refine Lc1 rfl ?_
    exact Ly wn (a_ J.v e0) (Dz [] [] (Rn QSn (a2 _ _ ⟨_,_,rfl,rfl,rfl,(b.pk 8 [1,0,0,0,0,0,0] rfl)⟩)))
  ·refine LH wn (rMk b SL_93 e0 a0) fun J w b=>Dn [] [0,1] [2] (Rn (yS rfl (yFb FL_91_0 e0) (yS rfl (lb_ (iV D) O_3 e0 b R6) QSn)) ?_)
   refine Lc1 rfl ?_
   refine LH wn (rMk b SL_93 e0 e2) fun S w b=>Dn [] [] [6] (Rn QSn ?_)
   refine Lc1 rfl ?_
   refine Ly wn (a_ S.v e0) (Dn [] [] [7] (Rn QSn ?_))
   refine Lc1 rfl ?_
   exact Ly wn (a_ J.v e0) (Dz [] [] (Rn QSn (a2 _ _ ⟨_,_,rfl,rfl,rfl,(b.pk 8 [0,0,0,0,0,0,0] rfl)⟩)))
 rintro f w ⟨g,d,E,F,z,b⟩
 refine h5 _ _ (sR fun _ h9=>Ya hnil.v rfl (wK h9 (sQ fun _ i0=>sR fun _ i1=>Ym (pB h) (eh z) (yY (yn e0) (yY (yFb FL_164_1 e0) (yY (lb_ i.v O_22 e0 b R6) (yY (yLen SL_22 e0 b rO3) ?_)))))))
 refine Ym (iV 0) rfl (wK i1 (blockQ fun i2 i3=>bE p fun i4 i5 p=>?_))
 have i6:∀ (a3:List Bool) (a4:LI) (a5:Hdr) (f:FV) w,f 2=g.v→f 3=d.v→f 4=(pB h)→f 5=a5.v→St w0 ros (row 4 rB g.v R::row 4 rB d.v a3::row 22 S1 k.v c.1::row 3 I1 i.v c.2.1::row 3 I1 m.v c.2.2.1::row 4 rB o.v c.2.2.2::box h 164 [k.v,i.v,m.v,o.v]::row 3 I1 a5.v a4::rs) w→(a3,a4)=i4→i2 (.exit 0) (fr 89 f) w:=by
  intro a3 a4 a5 f w i7 i8 i9 j0 b ho
  subst ho
  refine i3 _ _ _ (i0 _ _ (sQ fun _ j2=>blockQ fun j3 j4=>bE p fun j5 j6 p=>?_))
  have j7:∀ (a6 a7:List Bool) (f:FV) w,f 2=g.v→f 3=d.v→St w0 ros (row 4 rB g.v a6::row 4 rB d.v a7::rs) w→(a6,a7)=j5→j3 (.exit 2) (fr 89 f) w:=by
   intro a6 a7 f w j8 j9 b ho
   subst ho
   refine j4 _ _ _ (j2 _ _ (sR fun _ k0=>Ym g.v (eh j8) (Ym d.v (eh j9) (Ya g.v e0 (Ya d.v e0 (wK k0 (wp_ret ?_)))))))
   cases p
   exact h1 _ _ _ (fin2r Tryz.results123 ⟨rfl,rfl⟩ ⟨rfl,rfl⟩ ⟨_,_,rfl,b⟩)
  replace b:=(b.pk 8 [7,0,0,0,0,0,0,0] rfl).toQ
  refine loopQ (fun s a w=>∃ (a8 a9:List Bool) (T:LI) (f:FV) (A:Hdr),(a8,a9,T)=s∧a=fr 89 f∧f 2=g.v∧f 3=d.v∧f 4=(pB h)∧f 5=A.v∧St w0 ros (row 4 rB g.v a8::row 4 rB d.v a9::row 22 S1 k.v c.1::row 3 I1 i.v c.2.1::row 3 I1 m.v c.2.2.1::row 4 rB o.v c.2.2.2::box h 164 [k.v,i.v,m.v,o.v]::rowS 3 I1 A.v T::rs) w) j6 ⟨_,_,_,_,_,rfl,rfl,i7,i8,i9,j0,(b.pk 8 [1,1,1,1,1,1,1,0] rfl)⟩ ?_
  rintro _ _ w s7 ⟨a8,a9,T,f,A,rfl,rfl,e3,e4,e5,b0,b⟩ r k7 s8 k8 k9
  refine seqQ fun s9 l0 l1=>sR fun _ l2=>Ym A.v (eh b0) (yY (yLen SL_22 e0 b (rdQ R7)) (yY (ygtr e0 rfl) (wK l2 ?_)))
  refine cIf e0 r (fun l3 r=>?_) fun l3 r=>?_
  ·refine wp_skip (l0 _ _ (blockQ fun _ l4=>sR fun _ l5=>Ym A.v (eh b0) (bE r fun e6 e7 r=>yY (yIa SL_22 e0 rfl b (rdQ R7) e7) (yY (yI O_3 e0 b (rdQ R7) e7) (Ya (iV e6) e0 (wK l5 (sR fun _ l6=>?_)))))))
   refine Ym A.v (eh b0) (bE r fun t0 e8 r=>?_)
   replace b:=b.pk 8 [7,0,0,0,0,0,0,0] rfl
   refine yY (ySl (k2:=.i64) SL_22 e0 b (rdQ R0) (.inl (congrArg some rfl)) (.inr ⟨rfl,rfl⟩) e8) ?_
   replace b:=b.qcut e8 rfl
   refine Ya ((subH A 1 1 (T.length:Int)).v) e0 (wK l6 (sR fun _ l7=>Ym (pB h) (eh e5) (yY (yn e0) (yY (yFb FL_164_0 e0) (yY (lb_ k.v O_24 e0 b R7) (Ym (iV e6) e0 (bE r fun G e9 r=>yY (yIa SL_24 e0 e0 b rO3 e9) ?_)))))))
   obtain ⟨H,l8,b⟩:=rLs b rO3 e9
   refine yY (yCe O_22 e0 l8 rfl) (yY (yLen SL_22 e0 b (rdI F0)) (Ym (iV 0) rfl (wK l7 (blockQ fun l9 m0=>bE r fun m1 m2 r=>?_))))
   have m3:∀ (b1 b2:List Bool) (b3:LI) (b4:Hdr) (f:FV) w,f 2=g.v→f 3=d.v→f 4=(pB h)→f 5=b4.v→St w0 ros (row 4 rB g.v b1::row 4 rB d.v b2::row 22 S1 k.v c.1::row 3 I1 i.v c.2.1::row 3 I1 m.v c.2.2.1::row 4 rB o.v c.2.2.2::box h 164 [k.v,i.v,m.v,o.v]::rowS 3 I1 b4.v b3::rs) w→(b1,b2,b3)=m1→l9 (.exit 4) (fr 89 f) w:=by
    intro b1 b2 b3 b4 f w m4 m5 m6 m7 b ho
    subst ho
    refine m0 _ _ _ (l4 _ _ _ ?_)
    cases r
    exact k8 _ _ _ rfl ⟨_,_,_,_,_,rfl,rfl,m4,m5,m6,m7,b⟩
   refine loopQ (fun s a w=>∃ (b5 U:List Bool) (V:LI) (B:Int) (f:FV) (I:Hdr),(b5,U,V,B)=s∧a=fr 89 f∧f 2=g.v∧f 3=d.v∧f 4=(pB h)∧f 5=I.v∧f 54=H.v∧f 55=iV (G.length:Int)∧f 56=iV B∧St w0 (imm I1 H.v G::ros) (row 4 rB g.v b5::row 4 rB d.v U::row 22 S1 k.v c.1::row 3 I1 i.v c.2.1::row 3 I1 m.v c.2.2.1::row 4 rB o.v c.2.2.2::box h 164 [k.v,i.v,m.v,o.v]::rowS 3 I1 I.v V::rs) w) m2 ⟨_,_,_,_,_,_,rfl,rfl,e3,e4,e5,rfl,rfl,rfl,rfl,(b.pk 8 [1,1,1,1,1,1,1,0] rfl)⟩ ?_
   rintro _ _ w m8 ⟨b5,U,V,B,f,I,rfl,rfl,E,F,z,b6,b7,b8,W,b⟩ j m9 t1 n0 n1
   refine sR fun _ n2=>yY (ylss (eh W) (eh b8)) (wK n2 (seqQ fun t2 n3 n5=>?_))
   refine cIf e0 j (fun n6 j=>?_) fun n6 j=>?_
   ·refine wp_skip (n3 _ _ (sQ fun _ n7=>blockQ fun n8 n9=>sR fun _ o0=>bE j fun c0 f0 j=>yY (yIa SL_22 (eh b7) (eh W) b (rdI F0) f0) (yY (yI O_3 e0 b (rdI F0) f0) (Ya (iV c0) e0 (wK o0 (sR fun _ o1=>?_))))))
    refine Ym g.v (eh E) (Ym (iV c0) e0 (bE j fun c1 f1 j=>yY (yIs SL_93 e0 e0 b rO0 f1) (yT (r_sti (cs:=[.bool true]) b O_4 rfl e0 rfl rfl mkB f1) fun w b=>wK o1 (sR fun _ o2=>Ym (pB h) (eh z) (yY (yn e0) (yY (yFb FL_164_2 e0) (yY (lb_ m.v O_22 e0 b R6) ?_)))))))
    refine Ym (iV c0) e0 (bE j fun x f2 j=>yY (yIa SL_22 e0 e0 b rO4 f2) (yY (yI O_3 e0 b rO4 f2) (Ya (iV x) e0 (wK o2 (sR fun _ o3=>Ym (iV x) e0 (yY (yneq e0 rfl) (Ym (.bool (!(decide (x=(-1))))) e0 (bE j fun o5 C j=>?_))))))))
    refine joinW 6 (fun f w=>f 2=g.v∧f 3=d.v∧f 4=(pB h)∧f 5=I.v∧f 11=iV x∧f 54=H.v∧f 55=iV (G.length:Int)∧f 56=iV B∧f 78=.bool o5∧St w0 (imm I1 H.v G::ros) (row 4 rB g.v c1::row 4 rB d.v U::row 22 S1 k.v c.1::row 3 I1 i.v c.2.1::row 3 I1 m.v c.2.2.1::row 4 rB o.v c.2.2.2::box h 164 [k.v,i.v,m.v,o.v]::rowS 3 I1 I.v V::rs) w) (fun f3=>?_) ?_
    ·rcases iteS C with ⟨t,C⟩ | ⟨t,C⟩
     ·refine gN (nF (dT t)) (gN (nF (dT t)) (gN (nF (dT t)) (gN (nF (dT t)) (gN (nF (dT t)) (yY (pf_ (.bool false) e0 (nF (dT t)) rfl) ?_)))))
      cases C
      exact f3 _ _ ⟨E,F,z,b6,rfl,b7,b8,W,rfl,b⟩
     ·refine yG (nT (dF t)) (m_ d.v (eh F)) (yG (nT (dF t)) (m_ (iV x) e0) (bE C fun o6 f4 C=>yG (nT (dF t)) (yIa SL_93 e0 e0 b rO1 f4) (yG (nT (dF t)) (yB O_4 e0 b rO1 f4) (yG (nT (dF t)) (ynot e0) (yY (pt_ (.bool (!o6)) e0 (nT (dF t)) e0) ?_)))))
      cases C
      exact f3 _ _ ⟨E,F,z,b6,rfl,b7,b8,W,rfl,b⟩
    rintro f w ⟨f5,c2,f6,f7,f8,f9,g0,g1,o7,b⟩
    refine wK o3 ?_
    have g2:∀ (c3:List Bool) (c4:LI) (c5:Hdr) (f:FV) w,f 2=g.v→f 3=d.v→f 4=(pB h)→f 5=c5.v→f 54=H.v→f 55=iV (G.length:Int)→f 56=iV B→St w0 (imm I1 H.v G::ros) (row 4 rB g.v c1::row 4 rB d.v c3::row 22 S1 k.v c.1::row 3 I1 i.v c.2.1::row 3 I1 m.v c.2.2.1::row 4 rB o.v c.2.2.2::box h 164 [k.v,i.v,m.v,o.v]::rowS 3 I1 c5.v c4::rs) w→matching_Reachable_j26 c1 B c3 c4=some m8→n8 .normal (fr 89 f) w:=by
     intro c3 c4 c5 f w o8 o9 p0 p1 p2 p3 p4 b p
     refine n9 _ _ _ (n7 _ _ (wR (yY (yadd (eh p4) rfl) (Ym (iV (wa .i64 B 1)) e0 (wN ?_)))))
     cases p
     exact n0 _ _ _ rfl ⟨_,_,_,_,_,_,rfl,rfl,o8,o9,p0,p1,p2,p3,rfl,b⟩
    refine cB (eh o7) j (fun p5 j=>?_) fun p5 j=>?_
    ·refine sR fun _ p6=>Ym d.v (eh c2) (Ym (iV x) (eh f8) (bE j fun t3 g3 j=>yY (yIs SL_93 e0 e0 b rO1 g3) (yT (r_sti (cs:=[.bool true]) (b.pk 2 [1,0] rfl) O_4 rfl e0 rfl rfl mkB g3) fun w b=>wK p6 (wR (Ym I.v (eh f7) (Ym (iV x) (eh f8) (yH (rLt (n:=1) (l:=[x]) b SL_22 [iV x] (bp1 e0) rfl rfl (mks1 (cs:=[iV x]) rfl mkI mks0)) ?_)))))))
     exact fun t4 w b=>bE j fun t5 p7 j=>yH (rQAp (b.pk 9 [8,0,0,0,0,0,0,0,0] rfl) SL_22 e0 e0 rO1 (List.cons_ne_nil _ _) p7) fun p8 w b=>Ya p8.v e0 (wN (g2 _ _ _ _ _ f5 c2 f6 rfl f9 g0 g1 (b.pk 9 [3,2,2,2,2,2,2,0] rfl) j))
    ·exact wp_skip (g2 _ _ _ _ _ f5 c2 f6 f7 f9 g0 g1 b j)
   ·refine wp_exit (n5 _ _ _ rfl ?_)
    cases j
    exact n1 _ _ _ _ rfl rfl (m3 _ _ _ _ _ _ E F z b6 (b.facts (allT allI)) (m9 _ rfl))
  ·refine wp_exit (l1 _ _ _ rfl ?_)
   cases r
   exact k9 _ _ _ _ rfl rfl (j7 _ _ _ _ e3 e4 (b.pk 8 [0,0] rfl) (k7 _ rfl))
 replace b:=b.rowNh 3 I1
 refine loopQ (fun s a w=>∃ (c6:List Bool) (c7:LI) (u:Int) (f:FV) (X:Hdr),(c6,c7,u)=s∧a=fr 89 f∧f 2=g.v∧f 3=d.v∧f 4=(pB h)∧f 5=X.v∧f 23=i.v∧f 24=iV (c.2.1.length:Int)∧f 25=iV u∧St w0 ros (row 4 rB g.v R::row 4 rB d.v c6::row 22 S1 k.v c.1::row 3 I1 i.v c.2.1::row 3 I1 m.v c.2.2.1::row 4 rB o.v c.2.2.2::box h 164 [k.v,i.v,m.v,o.v]::row 3 I1 X.v c7::rs) w) i5 ⟨_,_,_,_,_,rfl,rfl,E,F,z,rfl,rfl,rfl,rfl,(b.pk 8 [1,1,1,1,1,1,1,0] rfl)⟩ ?_
 rintro _ _ w p9 ⟨c6,c7,u,f,X,rfl,rfl,c8,Z,c9,d0,d1,d2,K,b⟩ q q0 t6 q4 q5
 refine sR fun _ q6=>yY (ylss (eh K) (eh d2)) (wK q6 (seqQ fun t7 q7 q8=>?_))
 refine cIf e0 q (fun q9 q=>?_) fun q9 q=>?_
 ·refine wp_skip (q7 _ _ (sQ fun _ r0=>blockQ fun r1 r2=>sR fun _ r3=>Ym (iV u) (eh K) (bE q fun g4 g5 q=>yY (yIa SL_22 (eh d1) (eh K) b rO3 g5) (yY (yI O_3 e0 b rO3 g5) (Ya (iV u) e0 (Ya (iV g4) e0 (wK r3 ?_)))))))
  refine sR fun _ r4=>Ym (iV g4) e0 (yY (yeql e0 rfl) (wK r4 ?_))
  have g6:∀ (d3:List Bool) (d4:LI) (d5:Hdr) (f:FV) w,f 2=g.v→f 3=d.v→f 4=(pB h)→f 5=d5.v→f 23=i.v→f 24=iV (c.2.1.length:Int)→f 25=iV u→St w0 ros (row 4 rB g.v R::row 4 rB d.v d3::row 22 S1 k.v c.1::row 3 I1 i.v c.2.1::row 3 I1 m.v c.2.2.1::row 4 rB o.v c.2.2.2::box h 164 [k.v,i.v,m.v,o.v]::row 3 I1 d5.v d4::rs) w→matching_Reachable_j27 u d3 d4=some p9→r1 .normal (fr 89 f) w:=by
   intro d3 d4 d5 f w r5 r6 r7 r8 r9 s0 s1 b p
   refine r2 _ _ _ (r0 _ _ (wR (yY (yadd (eh s1) rfl) (Ym (iV (wa .i64 u 1)) e0 (wN ?_)))))
   cases p
   exact q4 _ _ _ rfl ⟨_,_,_,_,_,rfl,rfl,r5,r6,r7,r8,r9,s0,rfl,b⟩
  refine cIf e0 q (fun s2 q=>?_) fun s2 q=>?_
  ·refine sR fun _ s3=>Ym d.v (eh Z) (Ym (iV u) e0 (bE q fun t8 g7 q=>yY (yIs SL_93 e0 e0 b rO1 g7) (yT (r_sti (cs:=[.bool true]) (b.pk 2 [1,0] rfl) O_4 rfl e0 rfl rfl mkB g7) fun w b=>wK s3 (wR (Ym X.v (eh d0) (Ym (iV u) e0 (yH (rLt (n:=1) (l:=[u]) b SL_22 [iV u] (bp1 e0) rfl rfl (mks1 (cs:=[iV u]) rfl mkI mks0)) ?_)))))))
   exact fun t9 w b=>bE q fun u0 s4 q=>yH (rAp (b.pk 9 [8,0,0,0,0,0,0,0,0] rfl) SL_22 e0 e0 rO1 s4) fun s5 w b=>Ya s5.v e0 (wN (g6 _ _ _ _ _ c8 Z c9 rfl d1 d2 K (b.pk 9 [3,2,2,2,2,2,2,0] rfl) q))
  ·exact wp_skip (g6 _ _ _ _ _ c8 Z c9 d0 d1 d2 K b q)
 ·refine wp_exit (q8 _ _ _ rfl ?_)
  cases q
  exact q5 _ _ _ _ rfl rfl (i6 _ _ _ _ _ c8 Z c9 d0 b (q0 _ rfl))
theorem matching_List_ok {m:List Bool} {g:Bool} {h:Hdr} {out:LI} (i:matching_List m g=some out) (p:imm rB h.v m∈ros) (b:St w0 ros rs w):
  Calls Tryz.prog 124 #[h.v,.bool g] w (fun e w=>∃ (B:Hdr),e=.returned (B.v)∧St w0 ros (row 3 I1 B.v out::rs) w):=by
 refine enterQ Tryz.func124 rfl Tryz.ntmps124 rfl fun Q F=>sR fun _ G=>Ya hnil.v rfl (wK G (sR fun _ H=>Ya hnil.v rfl (wK H (sQ fun _ I=>sR fun _ J=>?_))))
 refine Ym h.v e0 (yY (yLen SL_93 e0 b (rdI p)) (Ym (iV 0) rfl (wK J (blockQ fun K L=>bE i fun N O i=>?_))))
 have R:∀ (q:LI) (j:Hdr) (f:FV) w,f 5=j.v→St w0 ros (row 3 I1 j.v q::rs) w→q=N→K (.exit 0) (fr 24 f) w:=by
  intro q j f w S b ho
  subst ho
  refine L _ _ _ (I _ _ (sR fun _ T=>Ym j.v (eh S) (Ya j.v e0 (wK T (wp_ret ?_)))))
  cases i
  exact F _ _ _ (fin1r Tryz.results124 ⟨rfl,rfl⟩ ⟨_,rfl,b⟩)
 replace b:=b.rowNh 3 I1
 refine loopQ (fun s a w=>∃ (r:LI) (d:Int) (f:FV) (o:Hdr),(r,d)=s∧a=fr 24 f∧f 1=.bool g∧f 5=o.v∧f 8=h.v∧f 9=iV (m.length:Int)∧f 10=iV d∧St w0 ros (row 3 I1 o.v r::rs) w) O ⟨_,_,_,_,rfl,rfl,rfl,rfl,rfl,rfl,rfl,b⟩ ?_
 rintro _ _ w U ⟨r,d,f,o,rfl,rfl,t,u,x,y,k,b⟩ c V b6 W X
 refine sR fun _ Z=>yY (ylss (eh k) (eh y)) (wK Z (seqQ fun b7 a0 a1=>?_))
 refine cIf e0 c (fun a2 c=>?_) fun a2 c=>?_
 ·refine wp_skip (a0 _ _ (sQ fun _ a3=>blockQ fun a4 a5=>sR fun _ a6=>Ym (iV d) (eh k) (bE c fun C D c=>yY (yIa SL_93 (eh x) (eh k) b (rdI p) D) (yY (yB O_4 e0 b (rdI p) D) (Ya (iV d) e0 (Ya (.bool C) e0 (wK a6 ?_)))))))
  refine sR fun _ a7=>Ym (.bool C) e0 (Ym (.bool g) (eh t) (yY (yeqb (by kernel_rfl) e0 e0) (wK a7 ?_)))
  have E:∀ (z:LI) (A:Hdr) (f:FV) w,f 1=.bool g→f 5=A.v→f 8=h.v→f 9=iV (m.length:Int)→f 10=iV d→St w0 ros (row 3 I1 A.v z::rs) w→matching_List_j4 d z=some U→a4 .normal (fr 24 f) w:=by
   intro z A f w a8 a9 b0 b1 b2 b i
   refine a5 _ _ _ (a3 _ _ (wR (yY (yadd (eh b2) rfl) (Ym (iV (wa .i64 d 1)) e0 (wN ?_)))))
   cases i
   exact W _ _ _ rfl ⟨_,_,_,_,rfl,rfl,a8,a9,b0,b1,rfl,b⟩
  refine cB e0 c (fun b3 c=>?_) fun b3 c=>?_
  ·exact wR (Ym o.v (eh u) (Ym (iV d) e0 (yH (rLt (n:=1) (l:=[d]) b SL_22 [iV d] (bp1 e0) rfl rfl (mks1 (cs:=[iV d]) rfl mkI mks0)) fun b8 w b=>bE c fun b9 b4 c=>yH (rAp (b.pk 2 [1,0] rfl) SL_22 e0 e0 rO1 b4) fun b5 w b=>Ya b5.v e0 (wN (E _ _ _ _ t rfl x y k (b.pk 2 [0] rfl) c)))))
  ·exact wp_skip (E _ _ _ _ t u x y k b c)
 ·refine wp_exit (a1 _ _ _ rfl ?_)
  cases c
  exact X _ _ _ _ rfl rfl (R _ _ _ _ u b (V _ rfl))
theorem matching_Cover_ok {c d:Int} {o p q:LI} {f g h:Hdr} {out:LI×LI×Int} (b:matching_Cover c d o p q=some out) (r:imm I1 f.v o∈ros) (s:imm I1 g.v p∈ros) (t:imm (rI .u64) h.v q∈ros) (a:St w0 ros rs w):
  Calls Tryz.prog 104 #[.agg #[iV c,iV d,f.v,g.v,h.v]] w (fun e w=>∃ (u x:Hdr),e=.returned (.tuple #[.agg #[u.v,x.v],iV out.2.2])∧St w0 ros (row 3 I1 u.v out.1::row 3 I1 x.v out.2.1::rs) w):=by
 refine enterQ Tryz.func104 rfl Tryz.ntmps104 rfl fun Q y=>sR fun _ z=>yBb (r_box (vals:=[iV c,iV d,f.v,g.v,h.v]) a e0 rfl) fun L w a=>yBb (rAl a ZT_86) fun N w a=>Ya (iV 0) rfl (wK z (sR fun _ A=>yY (lbs_ [iV c,iV d,f.v,g.v,h.v] ST_91 e0 a R1) (bE b fun i B b=>?_)))
 refine yC (yCall FN_122 (a1 e0)) (matrix_Check_ok B r s t a) ?_
 rintro _ w ⟨rfl,a⟩
 refine ⟨_,rfl,?_⟩
 refine Ya (iV i) e0 (wK A (seqQ fun O C D=>sR fun _ E=>Ym (iV i) e0 (yY (yneq e0 rfl) (wK E ?_))))
 rcases iteS b with ⟨n,b⟩ | ⟨n,b⟩
 ·refine condF e0 (nF (dT n)) (wp_skip (C _ _ (sR fun _ F=>yY (lbs_ [iV c,iV d,f.v,g.v,h.v] ST_91 e0 a R1) (bE b fun R G b=>yC (yCall FN_123 (a1 e0)) (matching_Reachable_ok G r s t a) ?_))))
  rintro _ w ⟨j,k,rfl,a⟩
  refine ⟨_,rfl,?_⟩
  refine Ym (.tuple #[j.v,k.v]) e0 (yY (x_ j.v e0) (yY (x_ k.v e0) (Ya j.v e0 (Ya k.v e0 (wK F (sR fun _ H=>Ym j.v e0 (bE b fun S I b=>?_)))))))
  replace a:=a.fz
  refine yC (yCall FN_124 (a2 e0 rfl)) (matching_List_ok I F0 a) ?_
  rintro _ w ⟨l,rfl,a⟩
  refine ⟨_,rfl,?_⟩
  refine Ym k.v e0 (bE b fun T J b=>?_)
  replace a:=(a.pk 2 [1,0] rfl).fz
  refine yC (yCall FN_124 (a2 e0 rfl)) (matching_List_ok J F0 a) ?_
  rintro _ w ⟨m,rfl,a⟩
  refine ⟨_,rfl,?_⟩
  refine yY (ybuild (us:=[l.v,m.v]) [(0,l.v),(1,m.v)] SO_86 (bp2 e0 e0) rfl) (yT (r_stbn (vals':=[l.v,m.v]) (us:=[l.v,m.v]) (a.pk 3 [2,0,0] rfl) ST_86 e0 e0 rfl rfl (one_of rfl) rfl) fun w a=>Ya (iV 0) rfl (wK H (wp_ret ?_)))
  cases b
  exact y _ _ _ (fin2r Tryz.results104 (rcs2 rfl rfl a R0 ST_86 rfl) ⟨rfl,rfl⟩ ⟨_,_,rfl,((a.pk 4 [2,1] rfl).facts (allT (allT allI)))⟩)
 ·refine condT e0 (nT (dF n)) (sR fun _ K=>yY (ybuild (us:=[hnil.v,hnil.v]) [] SO_86 bp0 rfl) (Ym (iV i) e0 (yT (r_stbn (vals':=[hnil.v,hnil.v]) (us:=[hnil.v,hnil.v]) a ST_86 e0 e0 rfl rfl (one_of rfl) rfl) fun w a=>Ya (iV i) e0 (wK K (wp_ret (D _ _ _ rfl ?_))))))
  cases b
  replace a:=(a.rowNh 3 I1).rowNh 3 I1
  exact y _ _ _ (fin2r Tryz.results104 (rcs2 rfl rfl a R2 ST_86 rfl) ⟨rfl,rfl⟩ ⟨_,_,rfl,(a.pk 4 [1,0] rfl)⟩)
theorem dissect_cover_ok {e6:L2} {e7:LI} {r L:Hdr} {out:(List Bool)} (i:dissect_cover e6 e7=some out) (N:imm S1 r.v e6∈ros) (e8:imm I1 L.v e7∈ros) (b:St w0 ros rs w):
  Calls Tryz.prog 86 #[.agg #[r.v],L.v] w (fun e w=>∃ (e9:Hdr),e=.returned (e9.v)∧St w0 ros (row 4 rB e9.v out::rs) w):=by
 refine enterQ Tryz.func86 rfl Tryz.ntmps86 rfl fun Q f0=>sR fun _ i2=>yBb (r_box (vals:=[r.v]) b e0 rfl) fun t w b=>Ya hnil.v rfl (wK i2 (sQ fun _ i3=>bE i fun g i4 i=>bE i fun c i5 i=>dR [0,0,3,0,0,31,63,127] [2,5,6,7] 4 folM ?_))
 replace b:=b.drew
 refine Dn [0,1,3,4] [] [2] (yR rfl (lbs_ [r.v] ST_26 e0 b R0) (yR rfl (m_ L.v e0) (yR rfl (lbs_ [r.v] ST_26 e0 b R0) (yR rfl (m_ L.v e0) (Rn QSn ?_)))))
 refine Lc1 rfl ?_
 refine Lk wn (yCall FN_103 (a3 e0 e0 rfl)) (dissect_border_ok i4 N e8 b) ?_
 rintro _ w ⟨j,rfl,b⟩
 refine ⟨_,rfl,?_⟩
 refine Dn [] [3,4] [5] (Rn (yS rfl (lbs_ [r.v] ST_26 e0 b R1) (yS rfl (m_ L.v e0) QSn)) ?_)
 refine Lc1 rfl ?_
 refine Lk wn (yCall FN_103 (a3 e0 e0 rfl)) (dissect_border_ok i5 N e8 b) ?_
 rintro _ w ⟨h,rfl,b⟩
 refine ⟨_,rfl,?_⟩
 refine Dn [] [] [6] (Rn QSn ?_)
 refine Lc1 rfl ?_
 refine Ly wn (a_ j.v e0) (Dn [] [] [7] (Rn QSn ?_))
 refine Lc1 rfl ?_
 refine Ly wn (a_ h.v e0) (Dz [] [] (Rn QSn (i3 _ _ (sR fun _ i6=>Ym j.v e0 (yY (yLen SL_22 e0 b rO1) (Ym h.v e0 (yY (yLen SL_22 e0 b rO0) (yH (rLt (n:=1) (l:=[0]) b SL_22 [iV 0] (bp1 rfl) rfl rfl (mks1 (cs:=[iV 0]) rfl mkI mks0)) fun a5 w b=>yY (ybuild (us:=[iV (g.length:Int),iV (c.length:Int),a5.v,hnil.v,hnil.v]) [(0,iV (g.length:Int)),(1,iV (c.length:Int)),(2,a5.v)] SO_91 (bp3 e0 e0 e0) rfl) (yBb (rAl b ZT_91) ?_)))))))))
 refine fun u w b=>yT (r_stbn (vals':=[iV (g.length:Int),iV (c.length:Int),a5.v,hnil.v,hnil.v]) (us:=[iV (g.length:Int),iV (c.length:Int),a5.v,hnil.v,hnil.v]) b ST_91 e0 e0 rfl rfl (one_of rfl) rfl) fun w b=>wK i6 (sQ fun _ i7=>sR fun _ i8=>Ym h.v e0 (yY (yLen SL_22 e0 b rO2) (Ym (iV 0) rfl (wK i8 (blockQ fun i9 j0=>?_)))))
 refine bE i fun j1 j2 i=>?_
 have j3:∀ (b4 b6 b7:LI) (a6 a7 a8:Hdr) (f:FV) w,f 2=(pB t)→f 5=j.v→f 6=h.v→f 7=(pB u)→St w0 ros (box t 26 [r.v]::row 3 I1 j.v g::row 3 I1 h.v c::row 3 I1 a6.v b4::row 3 I1 a7.v b6::row 82 (rI .u64) a8.v b7::box u 91 [iV (g.length:Int),iV (c.length:Int),a6.v,a7.v,a8.v]::rs) w→(b4,b6,b7)=j1→i9 (.exit 0) (fr 119 f) w:=by
  intro b4 b6 b7 a6 a7 a8 f w j4 j5 j6 j7 b ho
  subst ho
  refine j0 _ _ _ (i7 _ _ (sR fun _ j8=>yY (yFb FL_26_0 (eh j4)) (yY (lb_ r.v O_24 e0 b R0) (yY (yLen SL_24 e0 b (rdI N)) (bE i fun w1 j9 i=>yH (rMk b SL_93 e0 j9) fun p w b=>Ya p.v e0 (wK j8 (sQ fun _ k0=>?_)))))))
  refine wR (yY (lbs_ [iV (g.length:Int),iV (c.length:Int),a6.v,a7.v,a8.v] ST_91 (eh j7) b R7) (bE i fun x k6 i=>?_))
  replace b:=(((((b.pk 5 [4,0,0,0,0] rfl).fz).pk 5 [4,0,0,0,0] rfl).fz).pk 5 [4,0,0,0,0] rfl).fz
  refine yC (yCall FN_104 (a1 e0)) (matching_Cover_ok k6 F2 F1 F0 b) ?_
  rintro _ w ⟨C,y,rfl,b⟩
  refine ⟨_,rfl,?_⟩
  refine Ym (.tuple #[.agg #[C.v,y.v],iV x.2.2]) e0 (yY (x_ (.agg #[C.v,y.v]) e0) (yY (x_ (iV x.2.2) e0) (yBb (rAl b ZT_86) fun a9 w b=>yT (r_stbn (vals':=[C.v,y.v]) (us:=[C.v,y.v]) b ST_86 e0 e0 rfl rfl (one_of rfl) rfl) fun w b=>Ya (iV x.2.2) e0 (wK k0 (seqQ fun w2 k7 k8=>sR fun _ k9=>Ym (iV x.2.2) e0 ?_)))))
  refine yY (yneq e0 rfl) (wK k9 ?_)
  rcases iteS i with ⟨b8,i⟩ | ⟨b8,i⟩
  ·refine condF e0 (nF (dT b8)) (wp_skip (k7 _ _ (sQ fun _ l0=>sR fun _ l1=>yY (yFb FL_86_0 e0) (yY (lb_ C.v O_22 e0 b R0) (yY (yLen SL_22 e0 b rO1) (Ym (iV 0) rfl (wK l1 (blockQ fun l2 l3=>bE i fun l4 l5 i=>?_))))))))
   have l6:∀ (b9:List Bool) (f:FV) w,f 6=h.v→f 14=p.v→f 15=(pB a9)→St w0 ros (row 3 I1 h.v c::row 4 rB p.v b9::row 3 I1 C.v x.1::row 3 I1 y.v x.2.1::box a9 86 [C.v,y.v]::rs) w→b9=l4→l2 (.exit 4) (fr 119 f) w:=by
    intro b9 f w l7 l8 l9 b ho
    subst ho
    refine l3 _ _ _ (l0 _ _ (sQ fun _ m0=>sR fun _ m1=>yY (yFb FL_86_1 (eh l9)) (yY (lb_ y.v O_22 e0 b R4) (yY (yLen SL_22 e0 b rO3) (Ym (iV 0) rfl (wK m1 (blockQ fun m2 m3=>bE i fun m4 m5 i=>?_)))))))
    have m6:∀ (c0:List Bool) (f:FV) w,f 14=p.v→St w0 ros (row 4 rB p.v c0::rs) w→c0=m4→m2 (.exit 6) (fr 119 f) w:=by
     intro c0 f w m7 b ho
     subst ho
     refine m3 _ _ _ (m0 _ _ (sR fun _ m8=>Ym p.v (eh m7) (Ya p.v e0 (wK m8 (wp_ret ?_)))))
     cases i
     exact f0 _ _ _ (fin1r Tryz.results86 ⟨rfl,rfl⟩ ⟨_,rfl,b⟩)
    refine loopQ (fun s a w=>∃ (c1:List Bool) (b0:Int) (f:FV),(c1,b0)=s∧a=fr 119 f∧f 6=h.v∧f 14=p.v∧f 105=y.v∧f 106=iV (x.2.1.length:Int)∧f 107=iV b0∧St w0 ros (row 3 I1 h.v c::row 4 rB p.v c1::row 3 I1 y.v x.2.1::rs) w) m5 ⟨_,_,_,rfl,rfl,l7,l8,rfl,rfl,rfl,(b.pk 5 [0,0,1] rfl)⟩ ?_
    rintro _ _ w w3 ⟨c1,b0,f,rfl,rfl,f1,c2,f2,f3,c3,b⟩ z m9 w4 n0 n1
    refine sR fun _ n2=>yY (ylss (eh c3) (eh f3)) (wK n2 (seqQ fun w5 n3 n4=>?_))
    refine cIf e0 z (fun n5 z=>?_) fun n5 z=>?_
    ·refine wp_skip (n3 _ _ (sQ fun _ n6=>blockQ fun _ n7=>sR fun _ n8=>bE z fun f4 f5 z=>yY (yIa SL_22 (eh f2) (eh c3) b rO2 f5) (yY (yI O_3 e0 b rO2 f5) (Ya (iV f4) e0 (wK n8 (wR (Ym p.v (eh c2) ?_)))))))
     refine Ym h.v (eh f1) (Ym (iV f4) e0 (bE z fun w6 f6 z=>yY (yIa SL_22 e0 e0 b rO0 f6) (yY (yI O_3 e0 b rO0 f6) (bE z fun w7 f7 z=>yY (yIs SL_93 e0 e0 b rO1 f7) (yT (r_sti (cs:=[.bool true]) (b.pk 2 [1,0] rfl) O_4 rfl e0 rfl rfl mkB f7) fun w b=>wN (n7 _ _ _ (n6 _ _ (wR (yY (yadd (eh c3) rfl) ?_)))))))))
     refine Ym (iV (wa .i64 b0 1)) e0 (wN ?_)
     cases z
     exact n0 _ _ _ rfl ⟨_,_,_,rfl,rfl,f1,c2,f2,f3,rfl,(b.pk 3 [1,0,0] rfl)⟩
    ·refine wp_exit (n4 _ _ _ rfl ?_)
     cases z
     exact n1 _ _ _ _ rfl rfl (m6 _ _ _ c2 (b.pk 3 [1] rfl) (m9 _ rfl))
   refine loopQ (fun s a w=>∃ (c4:List Bool) (b1:Int) (f:FV),(c4,b1)=s∧a=fr 119 f∧f 5=j.v∧f 6=h.v∧f 14=p.v∧f 15=(pB a9)∧f 91=C.v∧f 92=iV (x.1.length:Int)∧f 93=iV b1∧St w0 ros (row 3 I1 j.v g::row 3 I1 h.v c::row 4 rB p.v c4::row 3 I1 C.v x.1::row 3 I1 y.v x.2.1::box a9 86 [C.v,y.v]::rs) w) l5 ⟨_,_,_,rfl,rfl,j5,j6,rfl,rfl,rfl,rfl,rfl,((b.pk 8 [5,5,3,1,1,0] rfl).facts (allT (allT (allT allI))))⟩ ?_
   rintro _ _ w w8 ⟨c4,b1,f,rfl,rfl,f8,f9,c5,g0,g1,g2,c6,b⟩ A n9 w9 o0 o1
   refine sR fun _ o2=>yY (ylss (eh c6) (eh g2)) (wK o2 (seqQ fun x0 o3 o4=>?_))
   refine cIf e0 A (fun o5 A=>?_) fun o5 A=>?_
   ·refine wp_skip (o3 _ _ (sQ fun _ o6=>blockQ fun _ o7=>sR fun _ o8=>bE A fun g3 g4 A=>yY (yIa SL_22 (eh g1) (eh c6) b rO3 g4) (yY (yI O_3 e0 b rO3 g4) (Ya (iV g3) e0 (wK o8 (wR (Ym p.v (eh c5) ?_)))))))
    refine Ym j.v (eh f8) (Ym (iV g3) e0 (bE A fun x2 g5 A=>yY (yIa SL_22 e0 e0 b rO0 g5) (yY (yI O_3 e0 b rO0 g5) (bE A fun x4 g6 A=>yY (yIs SL_93 e0 e0 b rO2 g6) (yT (r_sti (cs:=[.bool true]) (b.pk 3 [2,0,0] rfl) O_4 rfl e0 rfl rfl mkB g6) fun w b=>wN (o7 _ _ _ (o6 _ _ (wR (yY (yadd (eh c6) rfl) ?_)))))))))
    refine Ym (iV (wa .i64 b1 1)) e0 (wN ?_)
    cases A
    exact o0 _ _ _ rfl ⟨_,_,_,rfl,rfl,f8,f9,c5,g0,g1,g2,rfl,(b.pk 6 [1,1,0,0,0,0] rfl)⟩
   ·refine wp_exit (o4 _ _ _ rfl ?_)
    cases A
    exact o1 _ _ _ _ rfl rfl (l6 _ _ _ f9 c5 g0 (b.pk 6 [1,1,1,1,1] rfl) (n9 _ rfl))
  ·refine condT e0 (nT (dF b8)) (sR fun _ o9=>Ym p.v e0 (Ya p.v e0 (wK o9 (wp_ret (k8 _ _ _ rfl ?_)))))
   cases i
   exact f0 _ _ _ (fin1r Tryz.results86 ⟨rfl,rfl⟩ ⟨_,rfl,((b.pk 8 [3] rfl).facts (allT (allT (allT allI))))⟩)
 replace b:=(b.rowNh 3 I1).rowNh 82 (rI .u64)
 refine loopQ (fun s a w=>∃ (G c7 c8:LI) (D:Int) (f:FV) (m c9 d0:Hdr),(G,c7,c8,D)=s∧a=fr 119 f∧f 2=(pB t)∧f 5=j.v∧f 6=h.v∧f 7=(pB u)∧f 33=h.v∧f 34=iV (c.length:Int)∧f 35=iV D∧St w0 ros (box t 26 [r.v]::row 3 I1 j.v g::row 3 I1 h.v c::row 3 I1 m.v G::row 3 I1 c9.v c7::row 82 (rI .u64) d0.v c8::box u 91 [iV (g.length:Int),iV (c.length:Int),m.v,c9.v,d0.v]::rs) w) j2 ⟨_,_,_,_,_,_,_,_,rfl,rfl,rfl,rfl,rfl,rfl,rfl,rfl,rfl,(b.pk 7 [6,5,4,3,1,0,0] rfl)⟩ ?_
 rintro _ _ w x5 ⟨G,c7,c8,D,f,m,c9,d0,rfl,rfl,g7,d1,g8,g9,h0,h1,d2,b⟩ B p0 x6 p1 p2
 refine sR fun _ p3=>yY (ylss (eh d2) (eh h1)) (wK p3 (seqQ fun x7 p4 p5=>?_))
 refine cIf e0 B (fun p6 B=>?_) fun p6 B=>?_
 ·refine wp_skip (p4 _ _ (sQ fun _ p7=>blockQ fun _ p8=>sR fun _ p9=>bE B fun O h3 B=>yY (yIa SL_22 (eh h0) (eh d2) b rO2 h3) (yY (yI O_3 e0 b rO2 h3) (Ya (iV O) e0 (wK p9 (sQ fun _ q0=>sQ fun _ q3=>?_))))))
  refine wR (Ym j.v (eh d1) (yY (yLen SL_22 e0 b rO1) (Ym (iV 0) rfl (wK q3 (blockQ fun q4 q5=>bE B fun q6 q7 B=>?_)))))
  have q8:∀ (J d3:LI) (R b2:Hdr) (f:FV) w,f 2=(pB t)→f 5=j.v→f 6=h.v→f 7=(pB u)→f 33=h.v→f 34=iV (c.length:Int)→f 35=iV D→St w0 ros (box t 26 [r.v]::row 3 I1 j.v g::row 3 I1 h.v c::row 3 I1 m.v G::row 3 I1 R.v J::row 82 (rI .u64) b2.v d3::box u 91 [iV (g.length:Int),iV (c.length:Int),m.v,R.v,b2.v]::rs) w→(J,d3)=q6→q4 (.exit 2) (fr 119 f) w:=by
   intro J d3 R b2 f w q9 r0 r1 b3 r2 r3 r4 b ho
   subst ho
   refine q5 _ _ _ (q0 _ _ (wR (yY (yFb FL_91_2 (eh b3)) (yY (lb_ m.v O_22 e0 b R6) (yY (yFb FL_91_3 (eh b3)) (yY (lb_ R.v O_22 e0 b R6) (yY (yLen SL_22 e0 b rO4) (yH (rLt (n:=1) (l:=[(J.length:Int)]) b SL_22 [iV (J.length:Int)] (bp1 e0) rfl rfl (mks1 (cs:=[iV (J.length:Int)]) rfl mkI mks0)) fun x8 w b=>bE B fun x9 r5 B=>yH (rAp (b.pk 5 [4,0,0,0,0] rfl) SL_22 e0 e0 rO1 r5) fun r7 w b=>yY (yFb FL_91_2 (eh b3)) ?_))))))))
   refine yT (r_stb1 (vals':=[iV (g.length:Int),iV (c.length:Int),r7.v,R.v,b2.v]) (b.pk 8 [7,0,0,0,0,0,0,0] rfl) O_22 e0 e0 rfl rfl rfl rfl) fun w b=>wN (p8 _ _ _ (p7 _ _ (wR (yY (yadd (eh r4) rfl) (Ym (iV (wa .i64 D 1)) e0 (wN ?_))))))
   cases B
   exact p1 _ _ _ rfl ⟨_,_,_,_,_,_,_,_,rfl,rfl,q9,r0,r1,b3,r2,r3,rfl,(b.pk 8 [3,3,3,1,2,2,0] rfl)⟩
  refine loopQ (fun s a w=>∃ (d4 d5:LI) (o:Int) (f:FV) (E q:Hdr),(d4,d5,o)=s∧a=fr 119 f∧f 2=(pB t)∧f 5=j.v∧f 6=h.v∧f 7=(pB u)∧f 9=iV O∧f 33=h.v∧f 34=iV (c.length:Int)∧f 35=iV D∧f 39=j.v∧f 40=iV (g.length:Int)∧f 41=iV o∧St w0 ros (box t 26 [r.v]::row 3 I1 j.v g::row 3 I1 h.v c::row 3 I1 m.v G::row 3 I1 E.v d4::row 82 (rI .u64) q.v d5::box u 91 [iV (g.length:Int),iV (c.length:Int),m.v,E.v,q.v]::rs) w) q7 ⟨_,_,_,_,_,_,rfl,rfl,g7,d1,g8,g9,rfl,h0,h1,d2,rfl,rfl,rfl,b⟩ ?_
  rintro _ _ w r9 ⟨d4,d5,o,f,E,q,rfl,rfl,K,S,T,d,U,V,W,X,Z,a0,H,b⟩ k s0 y0 s1 s2
  refine sR fun _ s3=>yY (ylss (eh H) (eh a0)) (wK s3 (seqQ fun y1 s4 s5=>?_))
  refine cIf e0 k (fun s6 k=>?_) fun s6 k=>?_
  ·refine wp_skip (s4 _ _ (sQ fun _ s7=>blockQ fun s8 s9=>sR fun _ t0=>Ym (iV o) (eh H) (bE k fun h5 h6 k=>yY (yIa SL_22 (eh Z) (eh H) b rO1 h6) (yY (yI O_3 e0 b rO1 h6) (Ya (iV o) e0 (Ya (iV h5) e0 (wK t0 ?_)))))))
   refine sR fun _ t1=>yY (yFb FL_26_0 (eh K)) (yY (lb_ r.v O_24 e0 b R0) (Ym (iV O) (eh U) (bE k fun y2 h8 k=>yY (yIa SL_24 e0 e0 b (rdI N) h8) ?_)))
   obtain ⟨y3,b⟩:=iLs b N h8
   refine yY (yCt O_22 e0 b F1 rfl) (Ym (iV h5) e0 (bE k fun I t2 k=>yC (yCall FN_84 (a2 e0 e0)) (slices_BinarySearch_int_ok t2 F0 b) ?_))
   rintro _ w ⟨rfl,b⟩
   refine ⟨_,rfl,?_⟩
   refine Ym (.tuple #[iV I.1,.bool I.2]) e0 (yY (x_ (iV I.1) e0) (yY (x_ (.bool I.2) e0) (Ya (iV I.1) e0 (Ya (.bool I.2) e0 (wK t1 (sR fun _ t3=>Ym (.bool I.2) e0 (wK t3 ?_)))))))
   have i0:∀ (d6 d7:LI) (d8 d9:Hdr) (f:FV) w,f 2=(pB t)→f 5=j.v→f 6=h.v→f 7=(pB u)→f 9=iV O→f 33=h.v→f 34=iV (c.length:Int)→f 35=iV D→f 39=j.v→f 40=iV (g.length:Int)→f 41=iV o→St w0 ros (box t 26 [r.v]::row 3 I1 j.v g::row 3 I1 h.v c::row 3 I1 m.v G::row 3 I1 d8.v d6::row 82 (rI .u64) d9.v d7::box u 91 [iV (g.length:Int),iV (c.length:Int),m.v,d8.v,d9.v]::rs) w→dissect_cover_j32 o d6 d7=some r9→s8 .normal (fr 119 f) w:=by
    intro d6 d7 d8 d9 f w t4 t5 t6 t7 t8 t9 u0 u1 u2 u3 u4 b i
    refine s9 _ _ _ (s7 _ _ (wR (yY (yadd (eh u4) rfl) (Ym (iV (wa .i64 o 1)) e0 (wN ?_)))))
    cases i
    exact s1 _ _ _ rfl ⟨_,_,_,_,_,_,rfl,rfl,t4,t5,t6,t7,t8,t9,u0,u1,u2,u3,rfl,b⟩
   refine cB e0 k (fun u5 k=>?_) fun u5 k=>?_
   ·refine bE k fun u6 e1 k=>bE k fun u7 e2 k=>?_
    refine joinN (n:=119) (fun f w=>∃ (e3 e4:Hdr),f 2=(pB t)∧f 5=j.v∧f 6=h.v∧f 7=(pB u)∧f 9=iV O∧f 33=h.v∧f 34=iV (c.length:Int)∧f 35=iV D∧f 39=j.v∧f 40=iV (g.length:Int)∧f 41=iV o∧St w0 ros (box t 26 [r.v]::row 3 I1 j.v g::row 3 I1 h.v c::row 3 I1 m.v G::row 3 I1 e3.v u6::row 82 (rI .u64) e4.v u7::box u 91 [iV (g.length:Int),iV (c.length:Int),m.v,e3.v,e4.v]::rs) w) (fun e5=>?_) ?_
    ·refine dR [0,1,0,4,15,0,32,0,255,127,1023,2047,4095] [3,4,7,8,10,12] 6 folM ?_
     replace b:=b.drew
     refine Dn [0,1,2,5,6] [] [3,7] (yR rfl (yFb FL_91_3 (eh d)) (yR rfl (lb_ E.v O_22 e0 b R6) (yR rfl (m_ (iV o) e0) (yR rfl (yFb FL_91_4 (eh d)) (yR rfl (lb_ q.v O_89 e0 b R6) (Rn QSn ?_))))))
     refine Lc rfl ?_ (Lc1 rfl ?_)
     ·refine LH wn (rLt (n:=1) (l:=[o]) b SL_22 [iV o] (bp1 e0) rfl rfl (mks1 (cs:=[iV o]) rfl mkI mks0)) fun u8 w b=>Dn [] [0,1,5,6] [4,7] (Rn (yS rfl (yFb FL_91_3 (eh d)) (yS rfl (lb_ E.v O_22 e0 b R7) (yS rfl (yFb FL_91_4 (eh d)) (yS rfl (lb_ q.v O_89 e0 b R7) QSn)))) ?_)
      refine Lc rfl ?_ (Lc1 rfl ?_)
      ·replace b:=b.pk 6 [5,0,0,0,0,0] rfl
       refine LH wn (rAp b SL_22 e0 e0 rO1 e1) fun F w b=>Dn [9] [5,6] [7] (yR rfl (yFb FL_91_3 (eh d)) (Rn (yS rfl (yFb FL_91_4 (eh d)) (yS rfl (lb_ q.v O_89 e0 b R7) QSn)) ?_))
       refine Lc1 rfl ?_
       refine LH wn (rLt (n:=1) (l:=[4607182418800017408]) b SL_89 [.int .u64 4607182418800017408] (bp1 rfl) rfl rfl (mks1 (cs:=[.int .u64 4607182418800017408]) rfl mkI mks0)) fun i1 w b=>Dn [] [5,6,9] [8] (Rn (yS rfl (yFb FL_91_4 (eh d)) (yS rfl (lb_ q.v O_89 e0 b R8) (yS rfl (yFb FL_91_3 (eh d)) QSn))) ?_)
       refine Lc1 rfl ?_
       replace b:=b.pk 8 [7,0,0,0,0,0,0,0] rfl
       refine LH wn (rAp b SL_89 e0 e0 rO1 e2) fun a4 w b=>Dn [] [9] [10] (Rn (yS rfl (yFb FL_91_3 (eh d)) QSn) ?_)
       refine Lc1 rfl ?_
       replace b:=b.pk 9 [8,0,0,0,0,0,0,0,0] rfl
       refine LT wn (r_stb1 (vals':=[iV (g.length:Int),iV (c.length:Int),m.v,F.v,q.v]) b O_22 e0 e0 rfl rfl rfl rfl) fun w b=>Dn [11] [] [12] (yR rfl (yFb FL_91_4 (eh d)) (Rn QSn ?_))
       refine Lc1 rfl ?_
       exact LT wn (r_stb1 (vals':=[iV (g.length:Int),iV (c.length:Int),m.v,F.v,a4.v]) b O_89 e0 e0 rfl rfl rfl rfl) fun w b=>Dz [] [] (Rn QSn (e5 _ _ ⟨_,_,K,S,T,d,U,V,W,X,Z,a0,H,((b.pk 9 [5,5,5,5,3,1,0] rfl).facts (allT (allT allI)))⟩))
      ·refine LH wn (rLt (n:=1) (l:=[4607182418800017408]) b SL_89 [.int .u64 4607182418800017408] (bp1 rfl) rfl rfl (mks1 (cs:=[.int .u64 4607182418800017408]) rfl mkI mks0)) fun i1 w b=>Dn [] [0,1,5,6] [4] (Rn (yS rfl (yFb FL_91_3 (eh d)) (yS rfl (lb_ E.v O_22 e0 b R8) (yS rfl (yFb FL_91_4 (eh d)) (yS rfl (lb_ q.v O_89 e0 b R8) QSn)))) ?_)
       refine Lc1 rfl ?_
       replace b:=b.pk 7 [6,0,0,0,0,0,0] rfl
       refine LH wn (rAp b SL_22 e0 e0 rO2 e1) fun F w b=>Dn [9] [5,6] [8] (yR rfl (yFb FL_91_3 (eh d)) (Rn (yS rfl (yFb FL_91_4 (eh d)) (yS rfl (lb_ q.v O_89 e0 b R8) QSn)) ?_))
       refine Lc1 rfl ?_
       replace b:=b.pk 8 [7,0,0,0,0,0,0,0] rfl
       refine LH wn (rAp b SL_89 e0 e0 rO2 e2) fun a4 w b=>Dn [] [9] [10] (Rn (yS rfl (yFb FL_91_3 (eh d)) QSn) ?_)
       refine Lc1 rfl ?_
       replace b:=b.pk 9 [8,0,0,0,0,0,0,0,0] rfl
       refine LT wn (r_stb1 (vals':=[iV (g.length:Int),iV (c.length:Int),m.v,F.v,q.v]) b O_22 e0 e0 rfl rfl rfl rfl) fun w b=>Dn [11] [] [12] (yR rfl (yFb FL_91_4 (eh d)) (Rn QSn ?_))
       refine Lc1 rfl ?_
       exact LT wn (r_stb1 (vals':=[iV (g.length:Int),iV (c.length:Int),m.v,F.v,a4.v]) b O_89 e0 e0 rfl rfl rfl rfl) fun w b=>Dz [] [] (Rn QSn (e5 _ _ ⟨_,_,K,S,T,d,U,V,W,X,Z,a0,H,((b.pk 9 [5,5,5,5,2,1,0] rfl).facts (allT (allT allI)))⟩))
     ·refine LH wn (rLt (n:=1) (l:=[4607182418800017408]) b SL_89 [.int .u64 4607182418800017408] (bp1 rfl) rfl rfl (mks1 (cs:=[.int .u64 4607182418800017408]) rfl mkI mks0)) fun i1 w b=>Dn [] [0,1,2,5,6] [3] (Rn (yS rfl (yFb FL_91_3 (eh d)) (yS rfl (lb_ E.v O_22 e0 b R7) (yS rfl (m_ (iV o) e0) (yS rfl (yFb FL_91_4 (eh d)) (yS rfl (lb_ q.v O_89 e0 b R7) QSn))))) ?_)
      refine Lc1 rfl ?_
      refine LH wn (rLt (n:=1) (l:=[o]) b SL_22 [iV o] (bp1 e0) rfl rfl (mks1 (cs:=[iV o]) rfl mkI mks0)) fun u8 w b=>Dn [] [0,1,5,6] [4] (Rn (yS rfl (yFb FL_91_3 (eh d)) (yS rfl (lb_ E.v O_22 e0 b R8) (yS rfl (yFb FL_91_4 (eh d)) (yS rfl (lb_ q.v O_89 e0 b R8) QSn)))) ?_)
      refine Lc1 rfl ?_
      replace b:=b.pk 7 [6,0,0,0,0,0,0] rfl
      refine LH wn (rAp b SL_22 e0 e0 rO1 e1) fun F w b=>Dn [9] [5,6] [8] (yR rfl (yFb FL_91_3 (eh d)) (Rn (yS rfl (yFb FL_91_4 (eh d)) (yS rfl (lb_ q.v O_89 e0 b R8) QSn)) ?_))
      refine Lc1 rfl ?_
      replace b:=b.pk 8 [7,0,0,0,0,0,0,0] rfl
      refine LH wn (rAp b SL_89 e0 e0 rO3 e2) fun a4 w b=>Dn [] [9] [10] (Rn (yS rfl (yFb FL_91_3 (eh d)) QSn) ?_)
      refine Lc1 rfl ?_
      replace b:=b.pk 9 [8,0,0,0,0,0,0,0,0] rfl
      refine LT wn (r_stb1 (vals':=[iV (g.length:Int),iV (c.length:Int),m.v,F.v,q.v]) b O_22 e0 e0 rfl rfl rfl rfl) fun w b=>Dn [11] [] [12] (yR rfl (yFb FL_91_4 (eh d)) (Rn QSn ?_))
      refine Lc1 rfl ?_
      exact LT wn (r_stb1 (vals':=[iV (g.length:Int),iV (c.length:Int),m.v,F.v,a4.v]) b O_89 e0 e0 rfl rfl rfl rfl) fun w b=>Dz [] [] (Rn QSn (e5 _ _ ⟨_,_,K,S,T,d,U,V,W,X,Z,a0,H,((b.pk 9 [5,5,5,5,2,1,0] rfl).facts (allT (allT allI)))⟩))
    rintro f w ⟨e3,e4,u9,v0,v1,v2,v3,v4,v5,v6,v7,v8,v9,b⟩
    exact i0 _ _ _ _ _ _ u9 v0 v1 v2 v3 v4 v5 v6 v7 v8 v9 b k
   ·exact wp_skip (i0 _ _ _ _ _ _ K S T d U V W X Z a0 H (b.facts (allT (allT allI))) k)
  ·refine wp_exit (s5 _ _ _ rfl ?_)
   cases k
   exact s2 _ _ _ _ rfl rfl (q8 _ _ _ _ _ _ K S T d V W X b (s0 _ rfl))
 ·refine wp_exit (p5 _ _ _ rfl ?_)
  cases B
  exact p2 _ _ _ _ rfl rfl (j3 _ _ _ _ _ _ _ _ g7 d1 g8 g9 b (p0 _ rfl))
theorem dissect_separate_ok {z:L2} {p:Hdr} {out:LI×LI×LI} (g:dissect_separate z=some out) (G:imm S1 p.v z∈ros) (b:St w0 ros rs w):
  Calls Tryz.prog 56 #[.agg #[p.v]] w (fun e w=>∃ (a3 a4 a5:Hdr),e=.returned (.agg #[a3.v,a4.v,a5.v])∧St w0 ros (row 3 I1 a3.v out.1::row 3 I1 a4.v out.2.1::row 3 I1 a5.v out.2.2::rs) w):=by
 refine enterQ Tryz.func56 rfl Tryz.ntmps56 rfl fun Q b5=>sR fun _ b6=>yBb (r_box (vals:=[p.v]) b e0 rfl) fun g8 w b=>yBb (rAl b ZT_46) fun j w b=>wK b6 (sR fun _ b7=>yY (lbs_ [p.v] ST_26 e0 b R1) (bE g fun g9 b8 g=>yC (yCall FN_85 (a1 e0)) (dissect_units_ok b8 G b) ?_))
 rintro _ w ⟨h0,h1,h3,rfl,b⟩
 refine ⟨_,rfl,?_⟩
 refine bE g fun q b9 g=>?_
 replace b:=b.fz.fz
 refine yC (yCall FN_43 (a1 e0)) (dissect_bisect_ok b9 F2 F1 F0 b) ?_
 rintro _ w ⟨h,rfl,b⟩
 refine ⟨_,rfl,?_⟩
 refine Ym (.tuple #[h.v,.bool q.2]) e0 (yY (x_ h.v e0) (yY (x_ (.bool q.2) e0) (Ya h.v e0 (Ya (.bool q.2) e0 (wK b7 (sR fun _ c0=>yY (lbs_ [p.v] ST_26 e0 b R2) (Ym h.v e0 (bE g fun H c1 g=>?_))))))))
 replace b:=b.fz
 refine yC (yCall FN_86 (a2 e0 e0)) (dissect_cover_ok c1 (F_4 G) F0 b) ?_
 rintro _ w ⟨k,rfl,b⟩
 refine ⟨_,rfl,?_⟩
 refine Ya k.v e0 (wK c0 (sR fun _ c2=>yBb (rAl b ZT_46) fun m w b=>wK c2 (sQ fun _ c3=>sR fun _ c4=>yY (yFb FL_26_0 e0) (yY (lb_ p.v O_24 e0 b R3) ?_))))
 refine yY (yLen SL_24 e0 b (rdI (F_4 G))) (Ym (iV 0) rfl (wK c4 (blockQ fun c5 c6=>bE g fun c7 c8 g=>?_)))
 have c9:∀ (I J K:LI) (r t u:Hdr) (f:FV) w,f 2=(pB j)→f 6=(pB m)→St w0 ros (box j 46 [hnil.v,hnil.v,hnil.v]::row 3 I1 r.v I::row 3 I1 t.v J::row 3 I1 u.v K::box m 46 [r.v,t.v,u.v]::rs) w→(I,J,K)=c7→c5 (.exit 0) (fr 54 f) w:=by
  intro I J K r t u f w a6 d0 b ho
  subst ho
  refine c6 _ _ _ (c3 _ _ (sR fun _ d1=>yY (lbs_ [r.v,t.v,u.v] ST_46 (eh d0) b R4) (yT (r_stbn (vals':=[r.v,t.v,u.v]) (us:=[r.v,t.v,u.v]) b ST_46 (eh a6) e0 rfl rfl (one_of rfl) rfl) fun w b=>wK d1 (wp_ret ?_))))
  cases g
  exact b5 _ _ _ (fin1r Tryz.results56 (rcs2 rfl a6 b R0 ST_46 rfl) ⟨_,_,_,rfl,(b.pk 5 [1,1,1] rfl)⟩)
 replace b:=((b.rowNh 3 I1).rowNh 3 I1).rowNh 3 I1
 refine loopQ (fun s a w=>∃ (L N A:LI) (c:Int) (f:FV) (x y o:Hdr),(L,N,A,c)=s∧a=fr 54 f∧f 2=(pB j)∧f 3=h.v∧f 5=k.v∧f 6=(pB m)∧f 19=iV (z.length:Int)∧f 20=iV c∧St w0 (imm I1 h.v q.1::ros) (box j 46 [hnil.v,hnil.v,hnil.v]::row 4 rB k.v H::row 3 I1 x.v L::row 3 I1 y.v N::row 3 I1 o.v A::box m 46 [x.v,y.v,o.v]::rs) w) c8 ⟨_,_,_,_,_,_,_,_,rfl,rfl,rfl,rfl,rfl,rfl,rfl,rfl,((b.pk 7 [5,4,2,1,0,0] rfl).facts (allC F0 (allT (allT (allT (allT allI))))))⟩ ?_
 rintro _ _ w a7 ⟨L,N,A,c,f,x,y,o,rfl,rfl,C,D,E,i,F,B,b⟩ d d2 h4 d3 d4
 refine sR fun _ d5=>yY (ylss (eh B) (eh F)) (wK d5 (seqQ fun h5 d6 d7=>?_))
 refine cIf e0 d (fun d8 d=>?_) fun d8 d=>?_
 ·refine wp_skip (d6 _ _ (sQ fun _ d9=>blockQ fun _ e1=>sR fun _ e2=>Ym (iV c) (eh B) (Ya (iV c) e0 (wK e2 (blockQ fun a8 e3=>sR fun _ e4=>Ym k.v (eh E) ?_)))))
  refine Ym (iV c) e0 (bE d fun e5 a9 d=>yY (yIa SL_93 e0 e0 b rO1 a9) (yY (yB O_4 e0 b rO1 a9) (Ya (.bool e5) e0 (wK e4 ?_))))
  have b0:∀ (O R S:LI) (T U V:Hdr) (f:FV) w,f 2=(pB j)→f 3=h.v→f 5=k.v→f 6=(pB m)→f 19=iV (z.length:Int)→f 20=iV c→St w0 (imm I1 h.v q.1::ros) (box j 46 [hnil.v,hnil.v,hnil.v]::row 4 rB k.v H::row 3 I1 T.v O::row 3 I1 U.v R::row 3 I1 V.v S::box m 46 [T.v,U.v,V.v]::rs) w→dissect_separate_j9 c O R S=some a7→a8 .normal (fr 54 f) w:=by
   intro O R S T U V f w e6 e7 e8 e9 f0 f1 b g
   refine e3 _ _ _ (e1 _ _ _ (d9 _ _ (wR (yY (yadd (eh f1) rfl) (Ym (iV (wa .i64 c 1)) e0 (wN ?_))))))
   cases g
   exact d3 _ _ _ rfl ⟨_,_,_,_,_,_,_,_,rfl,rfl,e6,e7,e8,e9,f0,rfl,b⟩
  refine cB e0 d (fun f2 d=>?_) fun f2 d=>?_
  ·exact wR (yY (yFb FL_46_2 (eh i)) (yY (lb_ o.v O_22 e0 b R5) (Ym (iV c) e0 (yH (rLt (n:=1) (l:=[c]) b SL_22 [iV c] (bp1 e0) rfl rfl (mks1 (cs:=[iV c]) rfl mkI mks0)) fun h9 w b=>bE d fun i0 f3 d=>yH (rAp (b.pk 6 [5,0,0,0,0,0] rfl) SL_22 e0 e0 rO1 f3) fun f4 w b=>yY (yFb FL_46_2 (eh i)) (yT (r_stb1 (vals':=[x.v,y.v,f4.v]) (b.pk 7 [6,0,0,0,0,0,0] rfl) O_22 e0 e0 rfl rfl rfl rfl) fun w b=>wN (b0 _ _ _ _ _ _ _ _ C D E i F B (b.pk 7 [3,3,3,3,1,0] rfl) d))))))
  ·refine sR fun _ f5=>Ym h.v (eh D) (Ym (iV c) e0 (bE d fun f6 b1 d=>yY (yIa SL_22 e0 e0 b (rdI F0) b1) (yY (yI O_3 e0 b (rdI F0) b1) (yY (yeql e0 rfl) (Ya (.bool (decide (f6=0))) e0 (wK f5 ?_))))))
   have b2:∀ (W X:LI) (Z a0:Hdr) (f:FV) w,f 2=(pB j)→f 3=h.v→f 5=k.v→f 6=(pB m)→f 19=iV (z.length:Int)→f 20=iV c→St w0 (imm I1 h.v q.1::ros) (box j 46 [hnil.v,hnil.v,hnil.v]::row 4 rB k.v H::row 3 I1 Z.v W::row 3 I1 a0.v X::row 3 I1 o.v A::box m 46 [Z.v,a0.v,o.v]::rs) w→dissect_separate_j10 c A W X=some a7→a8 .normal (fr 54 f) w:=by
    intro W X Z a0 f w f7 f8 f9 g0 g1 g2 b g
    exact b0 _ _ _ _ _ _ _ _ f7 f8 f9 g0 g1 g2 b g
   refine cIf e0 d (fun g3 d=>?_) fun g3 d=>?_
   ·exact wR (yY (yFb FL_46_0 (eh i)) (yY (lb_ x.v O_22 e0 b R5) (Ym (iV c) e0 (yH (rLt (n:=1) (l:=[c]) b SL_22 [iV c] (bp1 e0) rfl rfl (mks1 (cs:=[iV c]) rfl mkI mks0)) fun i1 w b=>bE d fun i2 g4 d=>yH (rAp (b.pk 4 [3,0,0,0] rfl) SL_22 e0 e0 rO1 g4) fun g5 w b=>yY (yFb FL_46_0 (eh i)) (yT (r_stb1 (vals':=[g5.v,y.v,o.v]) (b.pk 7 [6,0,0,0,0,0,0] rfl) O_22 e0 e0 rfl rfl rfl rfl) fun w b=>wN (b2 _ _ _ _ _ _ C D E i F B (b.pk 7 [3,3,1,2,2,0] rfl) d))))))
   ·exact wR (yY (yFb FL_46_1 (eh i)) (yY (lb_ y.v O_22 e0 b R5) (Ym (iV c) e0 (yH (rLt (n:=1) (l:=[c]) b SL_22 [iV c] (bp1 e0) rfl rfl (mks1 (cs:=[iV c]) rfl mkI mks0)) fun i3 w b=>bE d fun i4 g6 d=>yH (rAp (b.pk 5 [4,0,0,0,0] rfl) SL_22 e0 e0 rO1 g6) fun g7 w b=>yY (yFb FL_46_1 (eh i)) (yT (r_stb1 (vals':=[x.v,g7.v,o.v]) (b.pk 7 [6,0,0,0,0,0,0] rfl) O_22 e0 e0 rfl rfl rfl rfl) fun w b=>wN (b2 _ _ _ _ _ _ C D E i F B (b.pk 7 [3,3,3,1,2,0] rfl) d))))))
 ·refine wp_exit (d7 _ _ _ rfl ?_)
  cases d
  exact d4 _ _ _ _ rfl rfl (c9 _ _ _ _ _ _ _ _ C i ((b.pk 6 [0,1,1,1,1] rfl).facts (allT allI)) (d2 _ rfl))
theorem dissect_Separate_ok {g:L2} {c:Hdr} {out:LI×LI×LI×Int} (b:dissect_Separate g=some out) (h:imm S1 c.v g∈ros) (a:St w0 ros rs w):
  Calls Tryz.prog 27 #[.agg #[c.v]] w (fun e w=>∃ (i j k:Hdr),e=.returned (.tuple #[.agg #[i.v,j.v,k.v],iV out.2.2.2])∧St w0 ros (row 3 I1 i.v out.1::row 3 I1 j.v out.2.1::row 3 I1 k.v out.2.2.1::rs) w):=by
 refine enterQ Tryz.func27 rfl Tryz.ntmps27 rfl fun Q l=>sR fun _ p=>yBb (r_box (vals:=[c.v]) a e0 rfl) fun A w a=>yBb (rAl a ZT_46) fun B w a=>Ya (iV 0) rfl (wK p (sR fun _ q=>yY (lbs_ [c.v] ST_26 e0 a R1) (bE b fun d r b=>?_)))
 refine yC (yCall FN_51 (a1 e0)) (graph_Check_ok r h a) ?_
 rintro _ w ⟨rfl,a⟩
 refine ⟨_,rfl,?_⟩
 refine Ya (iV d) e0 (wK q (seqQ fun C s t=>sR fun _ u=>Ym (iV d) e0 (yY (yneq e0 rfl) (wK u ?_))))
 rcases iteS b with ⟨f,b⟩ | ⟨f,b⟩
 ·refine condF e0 (nF (dT f)) (wp_skip (s _ _ (sR fun _ x=>yY (lbs_ [c.v] ST_26 e0 a R1) (bE b fun D y b=>yC (yCall FN_56 (a1 e0)) (dissect_separate_ok y h a) ?_))))
  rintro _ w ⟨m,n,o,rfl,a⟩
  refine ⟨_,rfl,?_⟩
  refine yT (r_stbn (vals':=[m.v,n.v,o.v]) (us:=[m.v,n.v,o.v]) (a.pk 4 [3,0,0,0] rfl) ST_46 e0 e0 rfl rfl (one_of rfl) rfl) fun w a=>Ya (iV 0) rfl (wK x (wp_ret ?_))
  cases b
  exact l _ _ _ (fin2r Tryz.results27 (rcs2 rfl rfl a R0 ST_46 rfl) ⟨rfl,rfl⟩ ⟨_,_,_,rfl,(a.pk 5 [1,1,1] rfl)⟩)
 ·refine condT e0 (nT (dF f)) (sR fun _ z=>yY (ybuild (us:=[hnil.v,hnil.v,hnil.v]) [] SO_46 bp0 rfl) (Ym (iV d) e0 (yT (r_stbn (vals':=[hnil.v,hnil.v,hnil.v]) (us:=[hnil.v,hnil.v,hnil.v]) a ST_46 e0 e0 rfl rfl (one_of rfl) rfl) fun w a=>Ya (iV d) e0 (wK z (wp_ret (t _ _ _ rfl ?_))))))
  cases b
  replace a:=((a.rowNh 3 I1).rowNh 3 I1).rowNh 3 I1
  exact l _ _ _ (fin2r Tryz.results27 (rcs2 rfl rfl a R3 ST_46 rfl) ⟨rfl,rfl⟩ ⟨_,_,_,rfl,(a.pk 5 [2,1,0] rfl)⟩)
theorem sparsekit_Ints_ok {q r:LI} {h i:Hdr} {out:Bool} (d:sparsekit_Ints q r=some out) (j:imm I1 h.v q∈ros) (l:imm I1 i.v r∈ros) (b:St w0 ros rs w):
  Calls Tryz.prog 13 #[h.v,i.v] w (fun e w=>e=.returned (.bool out)∧St w0 ros rs w):=by
 refine enterQ Tryz.func13 rfl Tryz.ntmps13 rfl fun Q m=>sR fun _ E=>Ya (.bool false) rfl (wK E (seqQ fun a4 F G=>sR fun _ H=>Ym h.v e0 (yY (yLen SL_22 e0 b (rdI j)) (Ym i.v e0 (yY (yLen SL_22 e0 b (rdI l)) (yY (yneq e0 e0) ?_))))))
 refine wK H ?_
 rcases iteS d with ⟨n,d⟩ | ⟨n,d⟩
 ·refine condF e0 (nF (dT n)) (wp_skip (F _ _ (seqQ fun a5 I J=>sR fun _ K=>Ya (iV 0) rfl (wK K (blockQ fun t u=>bE d fun x L d=>?_)))))
  have N:∀ (f:FV) w,St w0 ros rs w→.inl ()=x→t (.exit 0) (fr 26 f) w:=by
   intro f w b ho
   subst ho
   refine u _ _ _ (I _ _ (sR fun _ O=>Ya (.bool true) rfl (wK O (wp_ret ?_))))
   cases d
   exact m _ _ _ (fin1r Tryz.results13 ⟨rfl,rfl⟩ ⟨rfl,b⟩)
  have R:∀ (f:FV) w,f 4=.bool false→St w0 ros rs w→.inr ()=x→t .ret (fr 26 f) w:=by
   intro f w S b ho
   subst ho
   refine u _ _ _ (J _ _ _ rfl ?_)
   cases d
   exact m _ _ _ (fin1r Tryz.results13 ⟨rfl,S⟩ ⟨rfl,b⟩)
  refine loopQ (fun s a w=>∃ (g:Int) (f:FV),g=s∧a=fr 26 f∧f 0=h.v∧f 1=i.v∧f 5=iV g∧St w0 ros rs w) L ⟨_,_,rfl,rfl,rfl,rfl,rfl,b⟩ ?_
  rintro _ _ w a6 ⟨g,f,rfl,rfl,o,y,k,b⟩ c z a7 T A
  refine seqQ fun a8 U V=>sR fun _ W=>Ym (iV g) (eh k) (Ym h.v (eh o) (yY (yLen SL_22 e0 b (rdI j)) (yY (ylss e0 e0) (wK W ?_))))
  refine cIf e0 c (fun X c=>?_) fun X c=>?_
  ·refine wp_skip (U _ _ (seqQ fun a9 Z a0=>blockQ fun _ B=>sQ fun _ a1=>bE c fun b0 C c=>bE c fun b1 D c=>dR [0,0,3,7,0,0,48,112,255] [] 0 folM ?_))
   replace b:=b.drew
   refine Dz [0,1,2,3,4,5,6,7,8] [] (yR rfl (m_ h.v (eh o)) (yR rfl (m_ (iV g) (eh k)) (yR rfl (yIa SL_22 e0 e0 b (rdI j) C) (yR rfl (yI O_3 e0 b (rdI j) C) (yR rfl (m_ i.v (eh y)) (yR rfl (m_ (iV g) (eh k)) (yR rfl (yIa SL_22 e0 e0 b (rdI l) D) (yR rfl (yI O_3 e0 b (rdI l) D) (yR rfl (yneq e0 e0) (Rn QSn (a1 _ _ ?_)))))))))))
   rcases iteS c with ⟨p,c⟩ | ⟨p,c⟩
   ·refine condF e0 (nF (dT p)) (wp_skip (B _ _ _ (Z _ _ (wR (Ym (iV g) (eh k) (yY (yadd e0 rfl) (Ya (iV (wa .i64 g 1)) e0 (wN ?_))))))))
    cases c
    exact T _ _ _ rfl ⟨_,_,rfl,rfl,o,y,rfl,b⟩
   ·refine condT e0 (nT (dF p)) (sR fun _ a2=>Ya (.bool false) rfl (wK a2 (wp_ret (B _ _ _ (a0 _ _ _ rfl ?_)))))
    cases c
    exact A _ _ _ _ rfl rfl (R _ _ rfl b (z _ rfl))
  ·refine wp_exit (V _ _ _ rfl ?_)
   cases c
   exact A _ _ _ _ rfl rfl (N _ _ b (z _ rfl))
 ·refine condT e0 (nT (dF n)) (sR fun _ a3=>Ya (.bool false) rfl (wK a3 (wp_ret (G _ _ _ rfl ?_))))
  cases d
  exact m _ _ _ (fin1r Tryz.results13 ⟨rfl,rfl⟩ ⟨rfl,b⟩)
theorem sparsekit_Split_ok {o p q r s t:LI} {i j k l m n:Hdr} {out:Bool} (d:sparsekit_Split o p q r s t=some out) (C:imm I1 i.v o∈ros) (D:imm I1 j.v p∈ros) (E:imm I1 k.v q∈ros) (F:imm I1 l.v r∈ros) (G:imm I1 m.v s∈ros) (H:imm I1 n.v t∈ros) (a:St w0 ros rs w):
  Calls Tryz.prog 31 #[.agg #[i.v,j.v,k.v],.agg #[l.v,m.v,n.v]] w (fun e w=>e=.returned (.bool out)∧St w0 ros rs w):=by
 refine enterQ Tryz.func31 rfl Tryz.ntmps31 rfl fun Q I=>sR fun _ J=>yBb (r_box (vals:=[i.v,j.v,k.v]) a e0 rfl) fun u w a=>yBb (r_box (vals:=[l.v,m.v,n.v]) a e0 rfl) fun x w a=>Ya (.bool false) rfl (wK J (sR fun _ K=>yY (yFb FL_46_0 e0) (yY (lb_ i.v O_22 e0 a R1) ?_)))
 refine yY (yFb FL_46_0 e0) (yY (lb_ l.v O_22 e0 a R0) (bE d fun L N d=>yC (yCall FN_13 (a2 e0 e0)) (sparsekit_Ints_ok N C F a) ?_))
 rintro _ w ⟨rfl,a⟩
 refine ⟨_,rfl,?_⟩
 refine Ym (.bool L) e0 (bE d fun y g d=>?_)
 refine joinW 6 (fun f w=>f 2=(pB u)∧f 3=(pB x)∧f 16=.bool y∧St w0 ros (box u 46 [i.v,j.v,k.v]::box x 46 [l.v,m.v,n.v]::rs) w) (fun z=>?_) ?_
 ·rcases iteS g with ⟨b,g⟩ | ⟨b,g⟩
  ·refine yG b (yFb FL_46_1 e0) (yG b (lb_ j.v O_22 e0 a R1) (yG b (yFb FL_46_1 e0) (yG b (lb_ m.v O_22 e0 a R0) (bE g fun O R g=>Yc (wG b) rfl (yCall FN_13 (a2 e0 e0)) (sparsekit_Ints_ok R D G a) ?_))))
   rintro _ w ⟨rfl,a⟩
   refine ⟨_,rfl,?_⟩
   refine yY (pt_ (.bool O) e0 b e0) ?_
   cases g
   exact z _ _ ⟨rfl,rfl,rfl,(a.pk 2 [1,0] rfl)⟩
  ·refine gN (bfalse b) (gN (bfalse b) (gN (bfalse b) (gN (bfalse b) (gN (bfalse b) (yY (pf_ (.bool false) e0 (bfalse b) rfl) ?_)))))
   cases g
   exact z _ _ ⟨rfl,rfl,rfl,(a.pk 2 [1,0] rfl)⟩
 rintro f w ⟨S,T,U,a⟩
 refine Ym (.bool y) (eh U) (bE d fun A h d=>?_)
 refine joinW 6 (fun f w=>f 23=.bool A∧St w0 ros rs w) (fun B=>?_) ?_
 ·rcases iteS h with ⟨c,h⟩ | ⟨c,h⟩
  ·refine yG c (yFb FL_46_2 (eh S)) (yG c (lb_ k.v O_22 e0 a R0) (yG c (yFb FL_46_2 (eh T)) (yG c (lb_ n.v O_22 e0 a R1) (bE h fun V W h=>Yc (wG c) rfl (yCall FN_13 (a2 e0 e0)) (sparsekit_Ints_ok W E H a) ?_))))
   rintro _ w ⟨rfl,a⟩
   refine ⟨_,rfl,?_⟩
   refine yY (pt_ (.bool V) e0 c e0) ?_
   cases h
   exact B _ _ ⟨rfl,(a.pk 2 [] rfl)⟩
  ·refine gN (bfalse c) (gN (bfalse c) (gN (bfalse c) (gN (bfalse c) (gN (bfalse c) (yY (pf_ (.bool false) e0 (bfalse c) rfl) ?_)))))
   cases h
   exact B _ _ ⟨rfl,(a.pk 2 [] rfl)⟩
 rintro f w ⟨X,a⟩
 refine Ya (.bool A) (eh X) (wK K (wp_ret ?_))
 cases d
 exact I _ _ _ (fin1r Tryz.results31 ⟨rfl,rfl⟩ ⟨rfl,a⟩)
theorem dissect_parts_ok {g:Int} {r:L2} {o:Hdr} {out:LI×Bool} (x:dissect_parts g r=some out) (F:imm S1 o.v r∈ros) (b:St w0 ros rs w):
  Calls Tryz.prog 65 #[iV g,o.v] w (fun e w=>∃ (X:Hdr),e=.returned (.tuple #[X.v,.bool out.2])∧St w0 ros (row 3 I1 X.v out.1::rs) w):=by
 refine enterQ Tryz.func65 rfl Tryz.ntmps65 rfl fun Q Z=>sR fun _ d7=>Ya hnil.v rfl (Ya (.bool false) rfl (wK d7 (sR fun _ d8=>yH (rLt (n:=1) (l:=[(-1)]) b SL_22 [iV (-1)] (bp1 rfl) rfl rfl (mks1 (cs:=[iV (-1)]) rfl mkI mks0)) fun l0 w b=>Ym (iV g) e0 (bE x fun l1 d9 x=>?_))))
 replace b:=b.fz
 refine yC (yCall FN_72 (a2 e0 e0)) (slices_Repeat_int_ok d9 F0 b) ?_
 rintro _ w ⟨c,rfl,b⟩
 refine ⟨_,rfl,?_⟩
 refine Ya c.v e0 (wK d8 (sR fun _ e1=>Ya (iV 0) rfl (wK e1 (seqQ fun l2 e2 e3=>sR fun _ e4=>Ym o.v e0 (yY (yLen SL_24 e0 b (rdI (mtF F))) (Ym (iV 0) rfl ?_))))))
 refine wK e4 (blockQ fun a0 a1=>bE x fun a3 e5 x=>?_)
 have e6:∀ (G:LI) (A:Int) (f:FV) w,f 0=iV g→f 6=c.v→f 7=iV A→St w0 ros (row 3 I1 c.v G::rs) w→.inl (G,A)=a3→a0 (.exit 0) (fr 57 f) w:=by
  intro G A f w e7 e8 e9 b ho
  subst ho
  refine a1 _ _ _ (e2 _ _ (sR fun _ f0=>Ym c.v (eh e8) (Ym (iV A) (eh e9) (Ym (iV g) (eh e7) (yY (yeql e0 e0) (Ya c.v e0 (Ya (.bool (decide (A=g))) e0 (wK f0 (wp_ret ?_)))))))))
  cases x
  exact Z _ _ _ (fin2r Tryz.results65 ⟨rfl,rfl⟩ ⟨rfl,rfl⟩ ⟨_,rfl,b⟩)
 have f1:∀ (f:FV) w,f 4=hnil.v→f 5=.bool false→St w0 ros rs w→.inr ()=a3→a0 .ret (fr 57 f) w:=by
  intro f w f2 f3 b ho
  subst ho
  refine a1 _ _ _ (e3 _ _ _ rfl ?_)
  cases x
  replace b:=b.rowNh 3 I1
  exact Z _ _ _ (fin2r Tryz.results65 ⟨rfl,f2⟩ ⟨rfl,f3⟩ ⟨_,rfl,b⟩)
 refine loopQ (fun s a w=>∃ (H:LI) (I h:Int) (f:FV),(H,I,h)=s∧a=fr 57 f∧f 0=iV g∧f 6=c.v∧f 7=iV I∧f 16=o.v∧f 17=iV (r.length:Int)∧f 18=iV h∧St w0 ros (row 3 I1 c.v H::rs) w) e5 ⟨_,_,_,_,rfl,rfl,rfl,rfl,rfl,rfl,rfl,rfl,(b.facts (allT allI))⟩ ?_
 rintro _ _ w l3 ⟨H,I,h,f,rfl,rfl,a4,a5,a6,a7,a8,C,b⟩ m a9 l4 f4 b0
 refine sR fun _ f5=>yY (ylss (eh C) (eh a8)) (wK f5 (seqQ fun l5 f6 f7=>?_))
 refine cIf e0 m (fun f8 m=>?_) fun f8 m=>?_
 ·refine wp_skip (f6 _ _ (seqQ fun l6 f9 g0=>blockQ fun _ b1=>sR fun _ g1=>Ym (iV h) (eh C) (bE m fun y b2 m=>yY (yIa SL_24 (eh a7) (eh C) b (rdI F) b2) ?_)))
  obtain ⟨p,b⟩:=iLs b F b2
  refine yY (yCt O_22 e0 b F1 rfl) (Ya (iV h) e0 (Ya p.v e0 (wK g1 (sR fun _ g2=>Ya (iV (-1)) rfl (wK g2 (sR fun _ g3=>Ym p.v e0 (yY (yLen SL_22 e0 b (rdI F0)) ?_)))))))
  refine Ym (iV 0) rfl (wK g3 (blockQ fun b3 b4=>bE m fun b5 g4 m=>?_))
  have g5:∀ (J:LI) (K:Int) (f:FV) w,f 0=iV g→f 6=c.v→f 7=iV K→f 16=o.v→f 17=iV (r.length:Int)→f 18=iV h→St w0 ros (row 3 I1 c.v J::rs) w→.inl (J,K)=b5→b3 (.exit 2) (fr 57 f) w:=by
   intro J K f w g6 g7 g8 g9 h0 h1 b ho
   subst ho
   refine b4 _ _ _ (b1 _ _ _ (f9 _ _ (wR (yY (yadd (eh h1) rfl) (Ym (iV (wa .i64 h 1)) e0 (wN ?_))))))
   cases m
   exact f4 _ _ _ rfl ⟨_,_,_,_,rfl,rfl,g6,g7,g8,g9,h0,rfl,b⟩
  have h2:∀ (f:FV) w,f 4=hnil.v→f 5=.bool false→St w0 ros rs w→.inr ()=b5→b3 .ret (fr 57 f) w:=by
   intro f w h5 h7 b ho
   subst ho
   refine b4 _ _ _ (b1 _ _ _ (g0 _ _ _ rfl ?_))
   cases m
   exact b0 _ _ _ _ rfl rfl (f1 _ _ h5 h7 b (a9 _ rfl))
  refine loopQ (fun s a w=>∃ (B:LI) (t q z:Int) (f:FV),(B,t,q,z)=s∧a=fr 57 f∧f 0=iV g∧f 6=c.v∧f 7=iV t∧f 8=iV h∧f 10=iV q∧f 16=o.v∧f 17=iV (r.length:Int)∧f 18=iV h∧f 23=p.v∧f 24=iV (y.length:Int)∧f 25=iV z∧St w0 (imm I1 p.v y::ros) (row 3 I1 c.v B::rs) w) g4 ⟨_,_,_,_,_,rfl,rfl,a4,a5,a6,rfl,rfl,a7,a8,C,rfl,rfl,rfl,(b.facts (allC F0 (allT (allT allI))))⟩ ?_
  rintro _ _ w l7 ⟨B,t,q,z,f,rfl,rfl,D,L,N,b6,h8,O,R,S,T,U,E,b⟩ i b7 l8 h9 b8
  refine sR fun _ i0=>yY (ylss (eh E) (eh U)) (wK i0 (seqQ fun l9 i1 i2=>?_))
  refine cIf e0 i (fun i3 i=>?_) fun i3 i=>?_
  ·refine wp_skip (i1 _ _ (seqQ fun m0 i4 i5=>blockQ fun _ b9=>sR fun _ i6=>bE i fun d c0 i=>yY (yIa SL_22 (eh T) (eh E) b (rdI F0) c0) (yY (yI O_3 e0 b (rdI F0) c0) (Ya (iV d) e0 (wK i6 (seqQ fun m1 i7 i8=>sQ fun _ i9=>?_))))))
   refine wR (Ym (iV d) e0 (Ym (iV q) (eh h8) (yY (yleq e0 e0) (Ym (.bool (decide (d≤q))) e0 ?_))))
   refine joinW 4 (fun f w=>f 0=iV g∧f 6=c.v∧f 7=iV t∧f 8=iV h∧f 12=iV d∧f 16=o.v∧f 17=iV (r.length:Int)∧f 18=iV h∧f 23=p.v∧f 24=iV (y.length:Int)∧f 25=iV z∧f 36=.bool ((decide (d≤q)) || (decide (g≤d)))∧St w0 (imm I1 p.v y::ros) (row 3 I1 c.v B::rs) w) (fun c1=>?_) ?_
   ·rcases Bool.eq_false_or_eq_true (decide (d≤q)) with k | k
    ·exact gN k (gN k (gN k (yY (pt_ (.bool true) e0 k rfl) (c1 _ _ ⟨D,L,N,b6,rfl,O,R,S,T,U,E,(congrArg Value.bool (orT k)),b⟩))))
    ·exact yG k (m_ (iV d) e0) (yG k (m_ (iV g) (eh D)) (yG k (ygeq e0 e0) (yY (pf_ (.bool (decide (g≤d))) e0 k e0) (c1 _ _ ⟨D,L,N,b6,rfl,O,R,S,T,U,E,(congrArg Value.bool (orF k)),b⟩))))
   rintro f w ⟨c2,V,c3,c4,W,c5,c6,c7,c8,c9,d0,j0,b⟩
   refine Ym (.bool ((decide (d≤q)) || (decide (g≤d)))) (eh j0) (bE i fun j1 u i=>?_)
   refine joinW 6 (fun f w=>f 0=iV g∧f 6=c.v∧f 7=iV t∧f 8=iV h∧f 12=iV d∧f 16=o.v∧f 17=iV (r.length:Int)∧f 18=iV h∧f 23=p.v∧f 24=iV (y.length:Int)∧f 25=iV z∧f 43=.bool j1∧St w0 (imm I1 p.v y::ros) (row 3 I1 c.v B::rs) w) (fun d1=>?_) ?_
   ·rcases iteS u with ⟨j,u⟩ | ⟨j,u⟩
    ·refine gN j (gN j (gN j (gN j (gN j (yY (pt_ (.bool true) e0 j rfl) ?_)))))
     cases u
     exact d1 _ _ ⟨c2,V,c3,c4,W,c5,c6,c7,c8,c9,d0,rfl,b⟩
    ·refine yG (bfalse j) (m_ c.v (eh V)) (yG (bfalse j) (m_ (iV d) (eh W)) (bE u fun j2 d2 u=>yG (bfalse j) (yIa SL_22 e0 e0 b rO0 d2) (yG (bfalse j) (yI O_3 e0 b rO0 d2) (yG (bfalse j) (yneq e0 rfl) (yY (pf_ (.bool (!(decide (j2=(-1))))) e0 (bfalse j) e0) ?_)))))
     cases u
     exact d1 _ _ ⟨c2,V,c3,c4,W,c5,c6,c7,c8,c9,d0,rfl,b⟩
   rintro f w ⟨j3,d3,j4,d4,d5,j5,j6,j7,j8,j9,k0,k6,b⟩
   refine wK i9 (cB (eh k6) i (fun k7 i=>?_) fun k7 i=>?_)
   ·refine sR fun _ k8=>Ya hnil.v rfl (Ya (.bool false) rfl (wK k8 (wp_ret (i8 _ _ _ rfl (b9 _ _ _ (i5 _ _ _ rfl ?_))))))
    cases i
    exact b8 _ _ _ _ rfl rfl (h2 _ _ rfl rfl ((b.pk 1 [] rfl).facts (allT allI)) (b7 _ rfl))
   ·refine wp_skip (i7 _ _ (sR fun _ k9=>Ym c.v (eh d3) (Ym (iV d) (eh d5) (Ym (iV h) (eh d4) (Ym (iV d) (eh d5) (bE i fun m2 d6 i=>yY (yIs SL_22 e0 e0 b rO0 d6) (yT (r_sti (cs:=[iV h]) b O_3 rfl e0 e0 rfl mkI d6) fun w b=>Ya (iV d) e0 (wN ?_))))))))
    refine k9 _ _ (wR (Ym (iV t) (eh j4) (yY (yadd e0 rfl) (Ya (iV (wa .i64 t 1)) e0 (wN (b9 _ _ _ (i4 _ _ (wR (yY (yadd (eh k0) rfl) (Ym (iV (wa .i64 z 1)) e0 (wN ?_)))))))))))
    cases i
    exact h9 _ _ _ rfl ⟨_,_,_,_,_,rfl,rfl,j3,d3,rfl,d4,rfl,j5,j6,j7,j8,j9,rfl,b⟩
  ·refine wp_exit (i2 _ _ _ rfl ?_)
   cases i
   exact b8 _ _ _ _ rfl rfl (g5 _ _ _ _ D L N O R S (b.facts (allT allI)) (b7 _ rfl))
 ·refine wp_exit (f7 _ _ _ rfl ?_)
  cases m
  exact b0 _ _ _ _ rfl rfl (e6 _ _ _ _ a4 a5 a6 b (a9 _ rfl))
theorem dissect_Check_ok {p:L2} {F G H:LI} {j q r t:Hdr} {out:Int} (c:dissect_Check p F G H=some out) (x:imm S1 j.v p∈ros) (b6:imm I1 q.v F∈ros) (b7:imm I1 r.v G∈ros) (b8:imm I1 t.v H∈ros) (b:St w0 ros rs w):
  Calls Tryz.prog 32 #[.agg #[j.v],.agg #[q.v,r.v,t.v]] w (fun e w=>e=.returned (iV out)∧St w0 ros rs w):=by
 refine enterQ Tryz.func32 rfl Tryz.ntmps32 rfl fun Q A=>sR fun _ c0=>yBb (r_box (vals:=[j.v]) b e0 rfl) fun i7 w b=>yBb (r_box (vals:=[q.v,r.v,t.v]) b e0 rfl) fun i8 w b=>Ya (iV 0) rfl (wK c0 (sR fun _ c1=>yY (lbs_ [j.v] ST_26 e0 b R1) (bE c fun B c2 c=>?_)))
 refine yC (yCall FN_51 (a1 e0)) (graph_Check_ok c2 x b) ?_
 rintro _ w ⟨rfl,b⟩
 refine ⟨_,rfl,?_⟩
 refine Ya (iV B) e0 (wK c1 (seqQ fun i9 c3 c4=>sR fun _ c5=>Ym (iV B) e0 (yY (yneq e0 rfl) (wK c5 ?_))))
 rcases iteS c with ⟨I,c⟩ | ⟨I,c⟩
 ·refine condF e0 (nF (dT I)) (wp_skip (c3 _ _ (sR fun _ c6=>yY (yFb FL_26_0 e0) (yY (lb_ j.v O_24 e0 b R1) (yY (yLen SL_24 e0 b (rdI x)) (yY (yFb FL_46_0 e0) (yY (lb_ q.v O_22 e0 b R0) (yY (yFb FL_46_1 e0) (yY (lb_ r.v O_22 e0 b R0) (yY (yFb FL_46_2 e0) (yY (lb_ t.v O_22 e0 b R0) ?_)))))))))))
  refine yH (rLt (n:=3) (l:=[F,G,H]) b SL_24 [q.v,r.v,t.v] (bp3 e0 e0 e0) rfl rfl (mks1 (cs:=[q.v]) rfl (mkS b6) (mks1 (cs:=[r.v]) rfl (mkS b7) (mks1 (cs:=[t.v]) rfl (mkS b8) mks0)))) fun j0 w b=>bE c fun m c7 c=>?_
  replace b:=b.fz
  refine yC (yCall FN_65 (a2 e0 e0)) (dissect_parts_ok c7 F0 b) ?_
  rintro _ w ⟨g,rfl,b⟩
  refine ⟨_,rfl,?_⟩
  refine Ym (.tuple #[g.v,.bool m.2]) e0 (yY (x_ g.v e0) (yY (x_ (.bool m.2) e0) (Ya g.v e0 (Ya (.bool m.2) e0 (wK c6 (seqQ fun j1 c8 c9=>sR fun _ d0=>Ym (.bool m.2) e0 (yY (ynot e0) (wK d0 ?_))))))))
  rcases iteS c with ⟨J,c⟩ | ⟨J,c⟩
  ·refine condF e0 (nF J) (wp_skip (c8 _ _ (seqQ fun j2 d1 d2=>sR fun _ d3=>yY (yFb FL_26_0 e0) (yY (lb_ j.v O_24 e0 b R2) (yY (yLen SL_24 e0 b (rdI (mtF x))) (Ym (iV 0) rfl (wK d3 (blockQ fun T U=>bE c fun V d4 c=>?_))))))))
   have d5:∀ (f:FV) w,St w0 ros rs w→.inl ()=V→T (.exit 0) (fr 61 f) w:=by
    intro f w b ho
    subst ho
    refine U _ _ _ (d1 _ _ (sR fun _ d6=>Ya (iV 0) rfl (wK d6 (wp_ret ?_))))
    cases c
    exact A _ _ _ (fin1r Tryz.results32 ⟨rfl,rfl⟩ ⟨rfl,b⟩)
   have d7:∀ (f:FV) w,f 4=iV 180→St w0 ros rs w→.inr ()=V→T .ret (fr 61 f) w:=by
    intro f w d8 b ho
    subst ho
    refine U _ _ _ (d2 _ _ _ rfl ?_)
    cases c
    exact A _ _ _ (fin1r Tryz.results32 ⟨rfl,d8⟩ ⟨rfl,b⟩)
   refine loopQ (fun s a w=>∃ (i:Int) (f:FV),i=s∧a=fr 61 f∧f 6=g.v∧f 34=j.v∧f 35=iV (p.length:Int)∧f 36=iV i∧St w0 ros (row 3 I1 g.v m.1::rs) w) d4 ⟨_,_,rfl,rfl,rfl,rfl,rfl,rfl,((b.pk 3 [0] rfl).facts (allT allI))⟩ ?_
   rintro _ _ w j3 ⟨i,f,rfl,rfl,d9,W,X,C,b⟩ k Z j4 e1 a0
   refine sR fun _ e2=>yY (ylss (eh C) (eh X)) (wK e2 (seqQ fun j5 e3 e4=>?_))
   refine cIf e0 k (fun e5 k=>?_) fun e5 k=>?_
   ·refine wp_skip (e3 _ _ (seqQ fun j6 e6 e7=>blockQ fun _ a3=>sR fun _ e8=>Ym (iV i) (eh C) (bE k fun D a4 k=>yY (yIa SL_24 (eh W) (eh C) b (rdI x) a4) ?_)))
    obtain ⟨u,b⟩:=iLs b x a4
    refine yY (yCt O_22 e0 b F1 rfl) (Ya (iV i) e0 (Ya u.v e0 (wK e8 (sR fun _ e9=>Ym u.v e0 (yY (yLen SL_22 e0 b (rdI F0)) (Ym (iV 0) rfl (wK e9 (blockQ fun a5 a6=>bE k fun a7 f0 k=>?_))))))))
    have f1:∀ (f:FV) w,f 6=g.v→f 34=j.v→f 35=iV (p.length:Int)→f 36=iV i→St w0 ros (row 3 I1 g.v m.1::rs) w→.inl ()=a7→a5 (.exit 2) (fr 61 f) w:=by
     intro f w f2 f3 f4 f5 b ho
     subst ho
     refine a6 _ _ _ (a3 _ _ _ (e6 _ _ (wR (yY (yadd (eh f5) rfl) (Ym (iV (wa .i64 i 1)) e0 (wN ?_))))))
     cases k
     exact e1 _ _ _ rfl ⟨_,_,rfl,rfl,f2,f3,f4,rfl,b⟩
    have f6:∀ (f:FV) w,f 4=iV 180→St w0 ros rs w→.inr ()=a7→a5 .ret (fr 61 f) w:=by
     intro f w f7 b ho
     subst ho
     refine a6 _ _ _ (a3 _ _ _ (e7 _ _ _ rfl ?_))
     cases k
     exact a0 _ _ _ _ rfl rfl (d7 _ _ f7 b (Z _ rfl))
    refine loopQ (fun s a w=>∃ (y:Int) (f:FV),y=s∧a=fr 61 f∧f 6=g.v∧f 8=iV i∧f 34=j.v∧f 35=iV (p.length:Int)∧f 36=iV i∧f 41=u.v∧f 42=iV (D.length:Int)∧f 43=iV y∧St w0 (imm I1 u.v D::ros) (row 3 I1 g.v m.1::rs) w) f0 ⟨_,_,rfl,rfl,d9,rfl,W,X,C,rfl,rfl,rfl,(b.facts (allC F0 (allT (allT allI))))⟩ ?_
    rintro _ _ w j7 ⟨y,f,rfl,rfl,z,K,L,N,O,R,S,E,b⟩ d a8 j8 f8 a9
    refine sR fun _ f9=>yY (ylss (eh E) (eh S)) (wK f9 (seqQ fun j9 g0 g1=>?_))
    refine cIf e0 d (fun g2 d=>?_) fun g2 d=>?_
    ·refine wp_skip (g0 _ _ (seqQ fun k0 g3 g4=>blockQ fun _ b0=>sR fun _ g5=>bE d fun b1 b2 d=>yY (yIa SL_22 (eh R) (eh E) b (rdI F0) b2) (yY (yI O_3 e0 b (rdI F0) b2) (Ya (iV b1) e0 (wK g5 (sR fun _ g6=>?_))))))
     refine Ym g.v (eh z) (Ym (iV i) (eh K) (bE d fun g7 b3 d=>yY (yIa SL_22 e0 e0 b rO0 b3) (yY (yI O_3 e0 b rO0 b3) (yY (yeql e0 rfl) (Ym (.bool (decide (g7=0))) e0 (bE d fun g8 o d=>?_))))))
     refine joinW 6 (fun f w=>f 6=g.v∧f 8=iV i∧f 34=j.v∧f 35=iV (p.length:Int)∧f 36=iV i∧f 41=u.v∧f 42=iV (D.length:Int)∧f 43=iV y∧f 58=.bool g8∧St w0 (imm I1 u.v D::ros) (row 3 I1 g.v m.1::rs) w) (fun b4=>?_) ?_
     ·rcases iteS o with ⟨h,o⟩ | ⟨h,o⟩
      ·refine yG (dT h) (m_ g.v (eh z)) (yG (dT h) (m_ (iV b1) e0) (bE o fun g9 b5 o=>yG (dT h) (yIa SL_22 e0 e0 b rO0 b5) (yG (dT h) (yI O_3 e0 b rO0 b5) (yG (dT h) (yeql e0 rfl) (yY (pt_ (.bool (decide (g9=1))) e0 (dT h) e0) ?_)))))
       cases o
       exact b4 _ _ ⟨z,K,L,N,O,R,S,E,rfl,b⟩
      ·refine gN (dF h) (gN (dF h) (gN (dF h) (gN (dF h) (gN (dF h) (yY (pf_ (.bool false) e0 (dF h) rfl) ?_)))))
       cases o
       exact b4 _ _ ⟨z,K,L,N,O,R,S,E,rfl,b⟩
     rintro f w ⟨h0,h1,h3,h5,h7,h9,i0,i1,i2,b⟩
     refine wK g6 (cB (eh i2) d (fun i3 d=>?_) fun i3 d=>?_)
     ·refine sR fun _ i4=>Ya (iV 180) rfl (wK i4 (wp_ret (b0 _ _ _ (g4 _ _ _ rfl ?_))))
      cases d
      exact a9 _ _ _ _ rfl rfl (f6 _ _ rfl ((b.pk 1 [] rfl).facts (allT allI)) (a8 _ rfl))
     ·refine wp_skip (b0 _ _ _ (g3 _ _ (wR (yY (yadd (eh i1) rfl) (Ym (iV (wa .i64 y 1)) e0 (wN ?_))))))
      cases d
      exact f8 _ _ _ rfl ⟨_,_,rfl,rfl,h0,h1,h3,h5,h7,h9,i0,rfl,b⟩
    ·refine wp_exit (g1 _ _ _ rfl ?_)
     cases d
     exact a9 _ _ _ _ rfl rfl (f1 _ _ z L N O (b.facts (allT allI)) (a8 _ rfl))
   ·refine wp_exit (e4 _ _ _ rfl ?_)
    cases k
    exact a0 _ _ _ _ rfl rfl (d5 _ _ (b.pk 1 [] rfl) (Z _ rfl))
  ·refine condT e0 (nT (bfalse J)) (sR fun _ i5=>Ya (iV 180) rfl (wK i5 (wp_ret (c9 _ _ _ rfl ?_))))
   cases c
   exact A _ _ _ (fin1r Tryz.results32 ⟨rfl,rfl⟩ ⟨rfl,((b.pk 3 [] rfl).facts (allT allI))⟩)
 ·refine condT e0 (nT (dF I)) (sR fun _ i6=>Ym (iV B) e0 (Ya (iV B) e0 (wK i6 (wp_ret (c4 _ _ _ rfl ?_)))))
  cases c
  exact A _ _ _ (fin1r Tryz.results32 ⟨rfl,rfl⟩ ⟨rfl,(b.pk 2 [] rfl)⟩)
theorem sparselaw18_awake_ok {out:Bool} (k:sparselaw18_awake=some out) (a:St w0 ros rs w):
  Calls Tryz.prog 8 #[] w (fun e w=>e=.returned (.bool out)∧St w0 ros rs w):=by
 refine enterQ Tryz.func8 rfl Tryz.ntmps8 rfl fun Q E=>sR fun _ F=>Ya (.bool false) rfl (wK F (sR fun _ G=>yH (rLt (n:=1) (l:=[1]) a SL_22 [iV 1] (bp1 rfl) rfl rfl (mks1 (cs:=[iV 1]) rfl mkI mks0)) fun p w a=>yH (rLt (n:=2) (l:=[0,2]) a SL_22 [iV 0,iV 2] (bp2 rfl rfl) rfl rfl (mks1 (cs:=[iV 0]) rfl mkI (mks1 (cs:=[iV 2]) rfl mkI mks0))) fun q w a=>yH (rLt (n:=2) (l:=[1,3]) a SL_22 [iV 1,iV 3] (bp2 rfl rfl) rfl rfl (mks1 (cs:=[iV 1]) rfl mkI (mks1 (cs:=[iV 3]) rfl mkI mks0))) fun r w a=>?_))
 refine yH (rLt (n:=1) (l:=[2]) a SL_22 [iV 2] (bp1 rfl) rfl rfl (mks1 (cs:=[iV 2]) rfl mkI mks0)) fun s w a=>yH (rLt (n:=4) (l:=[[1],[0,2],[1,3],[2]]) (((((((a.pk 4 [3,0,0,0] rfl).fz).pk 3 [2,0,0] rfl).fz).pk 2 [1,0] rfl).fz).fz) SL_24 [p.v,q.v,r.v,s.v] (bp4 e0 e0 e0 e0) rfl rfl (mks1 (cs:=[p.v]) rfl (mkS F3) (mks1 (cs:=[q.v]) rfl (mkS F2) (mks1 (cs:=[r.v]) rfl (mkS F1) (mks1 (cs:=[s.v]) rfl (mkS F0) mks0))))) fun d w a=>yY (ybuild (us:=[d.v]) [(0,d.v)] SO_26 (bp1 e0) rfl) (yBb (rAl a ZT_26) fun t w a=>yT (r_stbn (vals':=[d.v]) (us:=[d.v]) a ST_26 e0 e0 rfl rfl (one_of rfl) rfl) fun w a=>wK G (sR fun _ H=>yY (lbs_ [d.v] ST_26 e0 a R0) ?_))
 refine bE k fun g I k=>?_
 replace a:=(a.pk 2 [1,0] rfl).fz
 refine yC (yCall FN_27 (a1 e0)) (dissect_Separate_ok I F0 a) ?_
 rintro _ w ⟨h,i,j,rfl,a⟩
 refine ⟨_,rfl,?_⟩
 refine Ym (.tuple #[.agg #[h.v,i.v,j.v],iV g.2.2.2]) e0 (yY (x_ (.agg #[h.v,i.v,j.v]) e0) (yY (x_ (iV g.2.2.2) e0) (yBb (rAl a ZT_46) fun u w a=>yT (r_stbn (vals':=[h.v,i.v,j.v]) (us:=[h.v,i.v,j.v]) a ST_46 e0 e0 rfl rfl (one_of rfl) rfl) fun w a=>Ya (iV g.2.2.2) e0 (wK H (sR fun _ J=>Ym (iV g.2.2.2) e0 (yY (yeql e0 rfl) ?_))))))
 refine Ym (.bool (decide (g.2.2.2=0))) e0 (bE k fun x m k=>?_)
 refine joinW 7 (fun f w=>f 1=(pB t)∧f 2=(pB u)∧f 24=.bool x∧St w0 (imm S1 d.v [[1],[0,2],[1,3],[2]]::imm I1 h.v g.1::imm I1 i.v g.2.1::imm I1 j.v g.2.2.1::ros) (box t 26 [d.v]::box u 46 [h.v,i.v,j.v]::rs) w) (fun y=>?_) ?_
 ·rcases iteS m with ⟨b,m⟩ | ⟨b,m⟩
  ·refine yG (dT b) (lbs_ [h.v,i.v,j.v] ST_46 e0 a R0) (YH (wG (dT b)) rfl (rLt (n:=2) (l:=[0,1]) a SL_22 [iV 0,iV 1] (bp2 rfl rfl) rfl rfl (mks1 (cs:=[iV 0]) rfl mkI (mks1 (cs:=[iV 1]) rfl mkI mks0))) fun z w a=>YH (wG (dT b)) rfl (rLt (n:=1) (l:=[3]) a SL_22 [iV 3] (bp1 rfl) rfl rfl (mks1 (cs:=[iV 3]) rfl mkI mks0)) fun A w a=>YH (wG (dT b)) rfl (rLt (n:=1) (l:=[2]) a SL_22 [iV 2] (bp1 rfl) rfl rfl (mks1 (cs:=[iV 2]) rfl mkI mks0)) fun B w a=>yG (dT b) (ybuild (us:=[z.v,A.v,B.v]) [(0,z.v),(1,A.v),(2,B.v)] SO_46 (bp3 e0 e0 e0) rfl) (bE m fun K L m=>?_))
   replace a:=((((((((((a.pk 5 [4,0,0,0,0] rfl).fz).pk 5 [4,0,0,0,0] rfl).fz).pk 5 [4,0,0,0,0] rfl).fz).pk 3 [2,0,0] rfl).fz).pk 2 [1,0] rfl).fz).fz
   refine Yc (wG (dT b)) rfl (yCall FN_31 (a2 e0 e0)) (sparsekit_Split_ok L F5 F4 F3 F2 F1 F0 a) ?_
   rintro _ w ⟨rfl,a⟩
   refine ⟨_,rfl,?_⟩
   refine yY (pt_ (.bool K) e0 (dT b) e0) ?_
   cases m
   exact y _ _ ⟨rfl,rfl,rfl,((a.pk 2 [1,0] rfl).facts (allC F6 (allC F5 (allC F4 (allC F3 (allT (allT (allT (allT (allT (allT (allT (allT (allT (allT (allT allI))))))))))))))))⟩
  ·refine gN (dF b) (gN (dF b) (gN (dF b) (gN (dF b) (gN (dF b) (gN (dF b) (yY (pf_ (.bool false) e0 (dF b) rfl) ?_))))))
   cases m
   replace a:=(((((a.pk 2 [1,0] rfl).fz).pk 2 [1,0] rfl).fz).pk 2 [1,0] rfl).fz
   exact y _ _ ⟨rfl,rfl,rfl,((a.pk 2 [1,0] rfl).facts (allC F3 (allC F2 (allC F1 (allC F0 (allT (allT (allT (allT (allT (allT (allT (allT allI)))))))))))))⟩
 rintro f w ⟨N,O,R,a⟩
 refine Ym (.bool x) (eh R) (bE k fun C o k=>?_)
 refine joinW 5 (fun f w=>f 30=.bool C∧St w0 ros rs w) (fun D=>?_) ?_
 ·rcases iteS o with ⟨c,o⟩ | ⟨c,o⟩
  ·refine yG c (lbs_ [d.v] ST_26 (eh N) a R0) (yG c (lbs_ [h.v,i.v,j.v] ST_46 (eh O) a R1) (bE o fun S T o=>Yc (wG c) rfl (yCall FN_32 (a2 e0 e0)) (dissect_Check_ok T F0 F1 F2 F3 a) ?_))
   rintro _ w ⟨rfl,a⟩
   refine ⟨_,rfl,?_⟩
   refine yG c (yeql e0 rfl) (yY (pt_ (.bool (decide (S=0))) e0 c e0) ?_)
   cases o
   exact D _ _ ⟨rfl,((a.pk 2 [] rfl).facts (allT (allT (allT (allT allI)))))⟩
  ·refine gN (bfalse c) (gN (bfalse c) (gN (bfalse c) (gN (bfalse c) (yY (pf_ (.bool false) e0 (bfalse c) rfl) ?_))))
   cases o
   exact D _ _ ⟨rfl,((a.pk 2 [] rfl).facts (allT (allT (allT (allT allI)))))⟩
 rintro f w ⟨U,a⟩
 refine Ya (.bool C) (eh U) (wK J (wp_ret ?_))
 cases k
 exact E _ _ _ (fin1r Tryz.results8 ⟨rfl,rfl⟩ ⟨rfl,a⟩)
end Go.Proofs.YthpeajepbffinaaGreat
