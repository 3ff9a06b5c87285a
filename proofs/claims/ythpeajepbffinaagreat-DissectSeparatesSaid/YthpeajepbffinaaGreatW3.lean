/- Walks: each function computes its model, printed. -/
import Derived.Test.YthpeajepbffinaaGreatW2
namespace Go.Proofs.YthpeajepbffinaaGreat
open Go Sx M
set_option maxRecDepth 100000
set_option maxHeartbeats 40000000
set_option linter.unusedVariables false
attribute [local irreducible] wpList Code.wp Calls DR QR QS LA LS St
variable {w0:World} {ros:List Fact} {rs:List Res} {w:World}
theorem matching_Edges_ok {l j:Int} {t u x:LI} {h i m:Hdr} {out:L2} (k:matching_Edges l j t u x=some out) (n:imm I1 h.v t∈ros) (y:imm I1 i.v u∈ros) (a6:imm (rI .u64) m.v x∈ros) (b:St w0 ros rs w):
  Calls Tryz.prog 156 #[.agg #[iV l,iV j,h.v,i.v,m.v]] w (fun e w=>∃ (z:Hdr),e=.returned (z.v)∧St w0 ros (row 22 S1 z.v out::rs) w):=by
 refine enterQ Tryz.func156 rfl Tryz.ntmps156 rfl fun Q G=>sR fun _ H=>yBb (r_box (vals:=[iV l,iV j,h.v,i.v,m.v]) b e0 rfl) fun A w b=>Ya hnil.v rfl (wK H (sR fun _ I=>yY (yFb FL_91_1 e0) (yY (lb_ (iV j) O_3 e0 b R0) (bE k fun J K k=>yH (rMk b SL_24 e0 K) ?_))))
 refine fun g w b=>Ya g.v e0 (wK I (sQ fun _ L=>sR fun _ N=>Ym g.v e0 (yY (yLen SL_24 e0 b rO0) (Ym (iV 0) rfl (wK N (blockQ fun _ O=>bE k fun a7 R k=>?_))))))
 refine loopQ (fun s a w=>∃ (p:L2) (d:Int) (f:FV),(p,d)=s∧a=fr 32 f∧f 1=(pB A)∧f 3=g.v∧f 9=iV (J.length:Int)∧f 10=iV d∧St w0 ros (box A 91 [iV l,iV j,h.v,i.v,m.v]::row 22 S1 g.v p::rs) w) R ⟨_,_,_,rfl,rfl,rfl,rfl,rfl,rfl,(b.pk 2 [1,0] rfl)⟩ ?_
 rintro _ _ w a8 ⟨p,d,f,rfl,rfl,o,q,B,r,b⟩ c S a9 T U
 refine sR fun _ V=>yY (ylss (eh r) (eh B)) (wK V (seqQ fun b0 W X=>?_))
 refine cIf e0 c (fun Z c=>?_) fun Z c=>?_
 ·refine wp_skip (W _ _ (sQ fun _ a0=>blockQ fun _ a1=>sR fun _ a2=>Ym (iV d) (eh r) (Ya (iV d) e0 (wK a2 (bE c fun a3 C c=>bE c fun a4 D c=>bE c fun b1 E c=>bE c fun b2 F c=>?_)))))
  refine dR [0,0,0,4,0,16,0,112,240,0,512,0,2048,7680,15872,32764,65535,131071] [17] 1 folM ?_
  replace b:=b.drew
  refine Dn [0,1,2,3,4,5,6,7,8,9,10,11,12,13,14,15,16] [] [17] (yR rfl (m_ g.v (eh q)) (yR rfl (m_ (iV d) e0) (yR rfl (yFb FL_91_3 (eh o)) (yR rfl (lb_ i.v O_22 e0 b R0) (yR rfl (yFb FL_91_2 (eh o)) (yR rfl (lb_ h.v O_22 e0 b R0) (yR rfl (m_ (iV d) e0) (yR rfl (yIa SL_22 e0 e0 b (rdI n) C) (yR rfl (yI O_3 e0 b (rdI n) C) (yR rfl (yFb FL_91_2 (eh o)) (yR rfl (lb_ h.v O_22 e0 b R0) (yR rfl (m_ (iV d) e0) (yR rfl (yadd e0 rfl) ?_)))))))))))))
  refine yR rfl (yIa SL_22 e0 e0 b (rdI n) D) (yR rfl (yI O_3 e0 b (rdI n) D) (yR rfl (ySl SL_22 e0 b (rdI y) (.inl (congrArg some e0)) (.inl (congrArg some e0)) E) ?_))
  replace b:=b.sub y E
  refine yR rfl (yIs SL_24 e0 e0 b rO1 F) (Rn QSn ?_)
  refine Lc1 rfl ?_
  replace b:=b.pk 2 [1,0] rfl
  refine LT wn (r_sti (cs:=[(subH i 1 a3 a4).v]) b O_22 rfl e0 e0 rfl (mkS F0) F) fun w b=>Dz [] [] (Rn QSn (a1 _ _ _ (a0 _ _ (wR (yY (yadd (eh r) rfl) (Ym (iV (wa .i64 d 1)) e0 (wN ?_)))))))
  cases c
  exact T _ _ _ rfl ⟨_,_,_,rfl,rfl,o,q,B,rfl,((b.pk 2 [1,0] rfl).facts (allT allI))⟩
 refine wp_exit (X _ _ _ rfl ?_)
 cases c
 refine U _ _ _ _ rfl rfl ?_
 obtain rfl:=S _ rfl
 refine O _ _ _ (L _ _ (sR fun _ a5=>Ym g.v (eh q) (Ya g.v e0 (wK a5 (wp_ret ?_)))))
 cases k
 exact G _ _ _ (fin1r Tryz.results156 ⟨rfl,rfl⟩ ⟨_,rfl,(b.pk 2 [1] rfl)⟩)
theorem matching_full_ok {j h:Int} {out:LI} (i:matching_full j h=some out) (b:St w0 ros rs w):
  Calls Tryz.prog 157 #[iV j,iV h] w (fun e w=>∃ (n:Hdr),e=.returned (n.v)∧St w0 ros (row 3 I1 n.v out::rs) w):=by
 refine enterQ Tryz.func157 rfl Tryz.ntmps157 rfl fun Q r=>sR fun _ t=>Ya hnil.v rfl (wK t (sR fun _ u=>Ym (iV j) e0 (bE i fun x y i=>yH (rMk b SL_22 e0 y) fun c w b=>Ya c.v e0 (wN ?_))))
 refine u _ _ (sQ fun _ z=>sR fun _ A=>Ym c.v e0 (yY (yLen SL_22 e0 b rO0) (Ym (iV 0) rfl (wK A (blockQ fun _ B=>bE i fun R C i=>?_)))))
 refine loopQ (fun s a w=>∃ (k:LI) (d:Int) (f:FV),(k,d)=s∧a=fr 20 f∧f 1=iV h∧f 5=c.v∧f 10=iV (x.length:Int)∧f 11=iV d∧St w0 ros (row 3 I1 c.v k::rs) w) C ⟨_,_,_,rfl,rfl,rfl,rfl,rfl,rfl,b⟩ ?_
 rintro _ _ w S ⟨k,d,f,rfl,rfl,o,l,p,m,b⟩ g D T E F
 refine sR fun _ G=>yY (ylss (eh m) (eh p)) (wK G (seqQ fun U H I=>?_))
 refine cIf e0 g (fun J g=>?_) fun J g=>?_
 ·refine wp_skip (H _ _ (sQ fun _ K=>blockQ fun _ L=>sR fun _ N=>Ym (iV d) (eh m) (Ya (iV d) e0 (wK N (wR (Ym c.v (eh l) (Ym (iV d) e0 (Ym (iV h) (eh o) ?_))))))))
  refine bE g fun V q g=>yY (yIs SL_22 e0 e0 b rO0 q) (yT (r_sti (cs:=[iV h]) b O_3 rfl e0 e0 rfl mkI q) fun w b=>wN (L _ _ _ (K _ _ (wR (yY (yadd (eh m) rfl) (Ym (iV (wa .i64 d 1)) e0 (wN ?_)))))))
  cases g
  exact E _ _ _ rfl ⟨_,_,_,rfl,rfl,o,l,p,rfl,b⟩
 refine wp_exit (I _ _ _ rfl ?_)
 cases g
 refine F _ _ _ _ rfl rfl ?_
 obtain rfl:=D _ rfl
 refine B _ _ _ (z _ _ (sR fun _ O=>Ym c.v (eh l) (Ya c.v e0 (wK O (wp_ret ?_)))))
 cases i
 exact r _ _ _ (fin1r Tryz.results157 ⟨rfl,rfl⟩ ⟨_,rfl,b⟩)
theorem matching_kuhn_try_step {rec:L2→LI→LI→(List Bool)→Int→Option (LI×LI×(List Bool)×Bool)} (b2:∀ {w0:World} {ros:List Fact} {rs:List Res} {w:World} {m:L2} {x y:LI} {z:List Bool} {l:Int} {d:Nat} {j k h i:Hdr} {out:LI×LI×(List Bool)×Bool} (o:rec m x y z l=some out) (b:St w0 ros (box d 164 [j.v,k.v,h.v,i.v]::row 22 S1 j.v m::row 3 I1 k.v x::row 3 I1 h.v y::row 4 rB i.v z::rs) w),Calls Tryz.prog 158 #[(pB d),iV l] w (fun e w=>e=.returned (.bool out.2.2.2)∧St w0 ros (row 22 S1 j.v m::row 3 I1 k.v out.1::row 3 I1 h.v out.2.1::row 4 rB i.v out.2.2.1::box d 164 [j.v,k.v,h.v,i.v]::rs) w)) {w0:World} {ros:List Fact} {rs:List Res} {w:World} {m:L2} {x y:LI} {z:List Bool} {l:Int} {d:Nat} {j k h i:Hdr} {out:LI×LI×(List Bool)×Bool} (o:matching_kuhn_try_body rec m x y z l=some out) (b:St w0 ros (box d 164 [j.v,k.v,h.v,i.v]::row 22 S1 j.v m::row 3 I1 k.v x::row 3 I1 h.v y::row 4 rB i.v z::rs) w):
  Calls Tryz.prog 158 #[(pB d),iV l] w (fun e w=>e=.returned (.bool out.2.2.2)∧St w0 ros (row 22 S1 j.v m::row 3 I1 k.v out.1::row 3 I1 h.v out.2.1::row 4 rB i.v out.2.2.1::box d 164 [j.v,k.v,h.v,i.v]::rs) w):=by
 refine enterQ Tryz.func158 rfl Tryz.ntmps158 rfl fun Q V=>sR fun _ b3=>Ya (.bool false) rfl (wK b3 (seqQ fun f6 b4 b5=>sR fun _ b6=>Ym (pB d) e0 (yY (yn e0) (yY (yFb FL_164_0 e0) (yY (lb_ j.v O_24 e0 b R0) (Ym (iV l) e0 ?_))))))
 refine bE o fun t W o=>yY (yIa SL_24 e0 e0 b rO1 W) ?_
 obtain ⟨u,b7,b⟩:=rLs b rO1 W
 refine yY (yCe O_22 e0 b7 rfl) (yY (yLen SL_22 e0 b (rdI F0)) (Ym (iV 0) rfl (wK b6 (blockQ fun b8 X=>bE o fun b9 c0 o=>?_))))
 have c1:∀ (F G:LI) (H:List Bool) (f:FV) w,f 4=.bool true→St w0 ros (row 22 S1 j.v m::row 3 I1 k.v F::row 3 I1 h.v G::row 4 rB i.v H::box d 164 [j.v,k.v,h.v,i.v]::rs) w→.inr (F,G,H)=b9→b8 .ret (fr 66 f) w:=by
  intro F G H f w c2 b ho
  subst ho
  refine X _ _ _ (b5 _ _ _ rfl ?_)
  cases o
  exact V _ _ _ (fin1r Tryz.results158 ⟨rfl,c2⟩ ⟨rfl,b⟩)
 refine loopQ (fun s a w=>∃ (I J:LI) (K:List Bool) (r:Int) (f:FV),(I,J,K,r)=s∧a=fr 66 f∧f 0=(pB d)∧f 1=iV l∧f 13=u.v∧f 14=iV (t.length:Int)∧f 15=iV r∧St w0 (imm I1 u.v t::ros) (row 22 S1 j.v m::row 3 I1 k.v I::row 3 I1 h.v J::row 4 rB i.v K::box d 164 [j.v,k.v,h.v,i.v]::rs) w) c0 ⟨_,_,_,_,_,rfl,rfl,rfl,rfl,rfl,rfl,rfl,(b.pk 5 [1,1,1,1,0] rfl)⟩ ?_
 rintro _ _ w c3 ⟨I,J,K,r,f,rfl,rfl,q,L,B,C,A,b⟩ c Z f7 c4 a0
 refine sR fun _ c5=>yY (ylss (eh A) (eh C)) (wK c5 (seqQ fun f8 c6 c7=>?_))
 refine cIf e0 c (fun c8 c=>?_) fun c8 c=>?_
 ·refine wp_skip (c6 _ _ (seqQ fun c9 d0 d1=>?_))
  have a1:∀ (N O:LI) (R:List Bool) (f:FV) w,f 0=(pB d)→f 1=iV l→f 13=u.v→f 14=iV (t.length:Int)→f 15=iV r→St w0 (imm I1 u.v t::ros) (row 22 S1 j.v m::row 3 I1 k.v N::row 3 I1 h.v O::row 4 rB i.v R::box d 164 [j.v,k.v,h.v,i.v]::rs) w→matching_kuhn_try_j12 r N O R=some c3→c9 .normal (fr 66 f) w:=by
   intro N O R f w d2 d3 d4 d5 d6 b o
   refine d0 _ _ (wR (yY (yadd (eh d6) rfl) (Ym (iV (wa .i64 r 1)) e0 (wN ?_))))
   cases o
   exact c4 _ _ _ rfl ⟨_,_,_,_,_,rfl,rfl,d2,d3,d4,d5,rfl,b⟩
  refine blockQ fun _ S=>sR fun _ d7=>bE c fun n a3 c=>yY (yIa SL_22 (eh B) (eh A) b (rdI F0) a3) (yY (yI O_3 e0 b (rdI F0) a3) (Ya (iV n) e0 (wK d7 (seqQ fun f9 d8 d9=>sR fun _ e1=>Ym (pB d) (eh q) (yY (yn e0) ?_)))))
  refine yY (yFb FL_164_3 e0) (yY (lb_ i.v O_93 e0 b R4) (Ym (iV n) e0 (bE c fun g0 a4 c=>yY (yIa SL_93 e0 e0 b rO3 a4) (yY (yB O_4 e0 b rO3 a4) (wK e1 (cB e0 c (fun e2 c=>?_) fun e2 c=>?_))))))
  ·exact wp_exit (d9 _ _ _ rfl (S _ _ _ (a1 _ _ _ _ _ q L B C A b c)))
  refine wp_skip (d8 _ _ (sR fun _ e3=>Ym (pB d) (eh q) (yY (yn e0) (yY (yFb FL_164_3 e0) (yY (lb_ i.v O_93 e0 b R4) (Ym (iV n) e0 (bE c fun g1 a5 c=>yY (yIs SL_93 e0 e0 b rO3 a5) (yT (r_sti (cs:=[.bool true]) (b.pk 4 [3,0,0,0] rfl) O_4 rfl e0 rfl rfl mkB a5) fun w b=>wN ?_))))))))
  refine e3 _ _ (sR fun _ e4=>Ym (pB d) (eh q) (yY (yn e0) (yY (yFb FL_164_2 e0) (yY (lb_ h.v O_22 e0 b R4) (Ym (iV n) e0 (bE c fun e5 a6 c=>yY (yIa SL_22 e0 e0 b rO3 a6) (yY (yI O_3 e0 b rO3 a6) (yY (yeql e0 rfl) (Ym (.bool (decide (e5=(-1)))) e0 (bE c fun D p c=>?_))))))))))
  refine joinW 10 (fun f w=>f 0=(pB d)∧f 1=iV l∧f 6=iV n∧f 13=u.v∧f 14=iV (t.length:Int)∧f 15=iV r∧f 50=.bool D.1∧St w0 (imm I1 u.v t::ros) (row 22 S1 j.v m::row 3 I1 k.v D.2.1::row 3 I1 h.v D.2.2.1::row 4 rB i.v D.2.2.2::box d 164 [j.v,k.v,h.v,i.v]::rs) w) (fun a7=>?_) ?_
  ·rcases iteS p with ⟨g,p⟩ | ⟨g,p⟩
   ·refine gN (dT g) (gN (dT g) (gN (dT g) (gN (dT g) (gN (dT g) (gN (dT g) (gN (dT g) (gN (dT g) (gN (dT g) (yY (pt_ (.bool true) e0 (dT g) rfl) ?_)))))))))
    cases p
    exact a7 _ _ ⟨q,L,rfl,B,C,A,rfl,(b.pk 5 [1,1,1,0,0] rfl)⟩
   refine yG (dF g) (m_ (pB d) (eh q)) (yG (dF g) (m_ (pB d) (eh q)) (yG (dF g) (yn e0) (yG (dF g) (yFb FL_164_2 e0) (yG (dF g) (lb_ h.v O_22 e0 b R4) (yG (dF g) (m_ (iV n) e0) (bE p fun g2 a8 p=>yG (dF g) (yIa SL_22 e0 e0 b rO3 a8) (yG (dF g) (yI O_3 e0 b rO3 a8) (bE p fun e6 e7 p=>?_))))))))
   replace b:=b.pk 5 [4,1,1,1,0] rfl
   refine Yc (wG (dF g)) rfl (yCall FN_158 (a2 e0 e0)) (b2 e7 b) ?_
   rintro _ w ⟨rfl,b⟩
   refine ⟨_,rfl,?_⟩
   refine yY (pf_ (.bool e6.2.2.2) e0 (dF g) e0) ?_
   cases p
   exact a7 _ _ ⟨q,L,rfl,B,C,A,rfl,b⟩
  rintro f w ⟨T,E,U,e8,e9,f0,f1,b⟩
  refine wK e4 (cB (eh f1) c (fun f2 c=>?_) fun f2 c=>?_)
  ·refine sQ fun _ f3=>bE c fun g3 a9 c=>bE c fun g4 b0 c=>dR [0,1,3,7,0,0,32,96,224,0,0,0,1535,5631,16383,32767] [13,15] 2 folM ?_
   replace b:=b.drew
   refine Dn [0,1,2,3,4,5,6,7,8,9,10,11,12] [] [13] (yR rfl (m_ (pB d) (eh T)) (yR rfl (yn e0) (yR rfl (yFb FL_164_1 e0) (yR rfl (lb_ k.v O_22 e0 b R4) (yR rfl (m_ (iV l) (eh E)) (yR rfl (m_ (pB d) (eh T)) (yR rfl (yn e0) (yR rfl (yFb FL_164_2 e0) (yR rfl (lb_ h.v O_22 e0 b R4) (yR rfl (m_ (iV n) (eh U)) (yR rfl (m_ (iV n) (eh U)) (yR rfl (m_ (iV l) (eh E)) (yR rfl (yIs SL_22 e0 e0 b rO1 a9) ?_)))))))))))))
   refine Rn QSn ?_
   refine Lc1 rfl ?_
   replace b:=b.pk 2 [1,0] rfl
   refine LT wn (r_sti (cs:=[iV n]) b O_3 rfl e0 e0 rfl mkI a9) fun w b=>Dn [14] [9,11] [15] (yR rfl (yIs SL_22 e0 e0 b rO2 b0) (Rn (yS rfl (m_ (iV n) (eh U)) (yS rfl (m_ (iV l) (eh E)) QSn)) ?_))
   refine Lc1 rfl ?_
   replace b:=b.pk 3 [2,0,0] rfl
   refine LT wn (r_sti (cs:=[iV l]) b O_3 rfl e0 e0 rfl mkI b0) fun w b=>Dz [] [] (Rn QSn (f3 _ _ (sR fun _ f4=>Ya (.bool true) rfl (wK f4 (wp_ret (S _ _ _ (d1 _ _ _ rfl ?_)))))))
   cases c
   exact a0 _ _ _ _ rfl rfl (c1 _ _ _ _ _ rfl ((b.pk 5 [2,1,0,0,0] rfl).facts (allT allI)) (Z _ rfl))
  exact wp_skip (S _ _ _ (a1 _ _ _ _ _ T E e8 e9 f0 b c))
 refine wp_exit (c7 _ _ _ rfl ?_)
 cases c
 refine a0 _ _ _ _ rfl rfl ?_
 obtain rfl:=Z _ rfl
 refine X _ _ _ (b4 _ _ (sR fun _ f5=>Ya (.bool false) rfl (wK f5 (wp_ret ?_))))
 cases o
 exact V _ _ _ (fin1r Tryz.results158 ⟨rfl,rfl⟩ ⟨rfl,(b.facts (allT allI))⟩)
theorem matching_kuhn_try_ok_n (n:Nat):∀ {w0:World} {ros:List Fact} {rs:List Res} {w:World} {g:L2} {i j:LI} {k:List Bool} {l:Int} {h:Nat} {a b c d:Hdr} {out:LI×LI×(List Bool)×Bool} (f:matching_kuhn_try n g i j k l=some out) (m:St w0 ros (box h 164 [a.v,b.v,c.v,d.v]::row 22 S1 a.v g::row 3 I1 b.v i::row 3 I1 c.v j::row 4 rB d.v k::rs) w),
  Calls Tryz.prog 158 #[(pB h),iV l] w (fun e w=>e=.returned (.bool out.2.2.2)∧St w0 ros (row 22 S1 a.v g::row 3 I1 b.v out.1::row 3 I1 c.v out.2.1::row 4 rB d.v out.2.2.1::box h 164 [a.v,b.v,c.v,d.v]::rs) w):=by
 induction n with
 | zero=>intro _ _ _ _ _ _ _ _ _ _ _ _ _ _ out f; cases f
 | succ n ih=>exact fun f m=>matching_kuhn_try_step (rec:=matching_kuhn_try n) ih f m
theorem matching_kuhn_try_ok {f:L2} {h i:LI} {j:List Bool} {k:Int} {g:Nat} {a b c d:Hdr} {out:LI×LI×(List Bool)×Bool} (l:matching_kuhn_try FUEL f h i j k=some out) (m:St w0 ros (box g 164 [a.v,b.v,c.v,d.v]::row 22 S1 a.v f::row 3 I1 b.v h::row 3 I1 c.v i::row 4 rB d.v j::rs) w):
  Calls Tryz.prog 158 #[(pB g),iV k] w (fun e w=>e=.returned (.bool out.2.2.2)∧St w0 ros (row 22 S1 a.v f::row 3 I1 b.v out.1::row 3 I1 c.v out.2.1::row 4 rB d.v out.2.2.1::box g 164 [a.v,b.v,c.v,d.v]::rs) w):=matching_kuhn_try_ok_n FUEL l m
theorem matching_matched_ok {c d:Int} {z A B:LI} {n o p:Hdr} {out:L2×LI×LI×(List Bool)} (g:matching_matched c d z A B=some out) (K:imm I1 n.v z∈ros) (L:imm I1 o.v A∈ros) (N:imm (rI .u64) p.v B∈ros) (b:St w0 ros rs w):
  Calls Tryz.prog 140 #[.agg #[iV c,iV d,n.v,o.v,p.v]] w (fun e w=>∃ (C:Nat) (D E F G:Hdr),e=.returned (pB C)∧St w0 ros (row 22 S1 D.v out.1::row 3 I1 E.v out.2.1::row 3 I1 F.v out.2.2.1::row 4 rB G.v out.2.2.2::box C 164 [D.v,E.v,F.v,G.v]::rs) w):=by
 refine enterQ Tryz.func140 rfl Tryz.ntmps140 rfl fun Q O=>sR fun _ R=>yBb (r_box (vals:=[iV c,iV d,n.v,o.v,p.v]) b e0 rfl) fun H w b=>Ya (.pointer none) rfl (wK R (sQ fun _ S=>bE g fun T U g=>bE g fun c0 V g=>bE g fun c1 W g=>dR [0,1,0,4,15,0,32,127,255,511,1023] [1,4,7,9,10] 5 folM ?_))
 replace b:=b.drew
 refine Dn [0,2,3,5,6] [] [1] (yR rfl (lbs_ [iV c,iV d,n.v,o.v,p.v] ST_91 e0 b R0) (yR rfl (yFb FL_91_1 e0) (yR rfl (lb_ (iV d) O_3 e0 b R0) (yR rfl (yFb FL_91_0 e0) (yR rfl (lb_ (iV c) O_3 e0 b R0) (Rn QSn ?_))))))
 refine Lc1 rfl ?_
 refine Lk wn (yCall FN_156 (a1 e0)) (matching_Edges_ok U K L N b) ?_
 rintro _ w ⟨k,rfl,b⟩
 refine ⟨_,rfl,?_⟩
 refine Dn [] [2,3,5,6] [4] (Rn (yS rfl (yFb FL_91_1 e0) (yS rfl (lb_ (iV d) O_3 e0 b R1) (yS rfl (yFb FL_91_0 e0) (yS rfl (lb_ (iV c) O_3 e0 b R1) QSn)))) ?_)
 refine Lc1 rfl ?_
 refine Lk wn (yCall FN_157 (a2 e0 rfl)) (matching_full_ok V b) ?_
 rintro _ w ⟨l,rfl,b⟩
 refine ⟨_,rfl,?_⟩
 refine Dn [] [5,6] [7] (Rn (yS rfl (yFb FL_91_0 e0) (yS rfl (lb_ (iV c) O_3 e0 b R2) QSn)) ?_)
 refine Lc1 rfl ?_
 refine Lk wn (yCall FN_157 (a2 e0 rfl)) (matching_full_ok W b) ?_
 rintro _ w ⟨m,rfl,b⟩
 refine ⟨_,rfl,?_⟩
 refine Dn [8] [] [9] (yR rfl (ybuild (us:=[k.v,l.v,m.v,hnil.v]) [(0,k.v),(1,l.v),(2,m.v)] SO_164 (bp3 e0 e0 e0) rfl) (Rn QSn ?_))
 refine Lc1 rfl ?_
 refine LB wn (r_box (vals:=[k.v,l.v,m.v,hnil.v]) b e0 rfl) fun i w b=>Dn [] [] [10] (Rn QSn ?_)
 refine Lc1 rfl ?_
 refine Ly wn (a_ (pB i) e0) (Dz [] [] (Rn QSn (S _ _ (sQ fun _ X=>sR fun _ Z=>yY (yFb FL_91_1 e0) (yY (lb_ (iV d) O_3 e0 b R4) (Ym (iV 0) rfl (wK Z (blockQ fun _ a0=>bE g fun c2 a3 g=>?_))))))))
 replace b:=b.rowNh 4 rB
 refine loopQ (fun s a w=>∃ (r t:LI) (u:List Bool) (j:Int) (f:FV) (x:Hdr),(r,t,u,j)=s∧a=fr 31 f∧f 1=(pB H)∧f 3=(pB i)∧f 16=iV d∧f 17=iV j∧St w0 ros (box H 91 [iV c,iV d,n.v,o.v,p.v]::row 22 S1 k.v T::row 3 I1 l.v r::row 3 I1 m.v t::row 4 rB x.v u::box i 164 [k.v,l.v,m.v,x.v]::rs) w) a3 ⟨_,_,_,_,_,_,rfl,rfl,rfl,rfl,rfl,rfl,(b.pk 6 [5,4,3,2,0,0] rfl)⟩ ?_
 rintro _ _ w c3 ⟨r,t,u,j,f,x,rfl,rfl,I,q,J,y,b⟩ h a4 c4 a5 a6
 refine sR fun _ a7=>yY (ylss (eh y) (eh J)) (wK a7 (seqQ fun c5 a8 a9=>?_))
 refine cIf e0 h (fun b0 h=>?_) fun b0 h=>?_
 ·refine wp_skip (a8 _ _ (sQ fun _ b1=>blockQ fun _ b2=>sR fun _ b3=>Ym (iV j) (eh y) (Ya (iV j) e0 (wK b3 (sR fun _ b4=>Ym (pB i) (eh q) (yY (yFb FL_91_0 (eh I)) ?_))))))
  refine yY (lb_ (iV c) O_3 e0 b R0) (bE h fun c6 b5 h=>yH (rMk b SL_93 e0 b5) fun b6 w b=>yY (yn e0) (yY (yFb FL_164_3 e0) (yT (r_stb1 (vals':=[k.v,l.v,m.v,b6.v]) (b.pk 7 [6,0,0,0,0,0,0] rfl) O_93 e0 e0 rfl rfl rfl rfl) fun w b=>wK b4 (wR (Ym (pB i) (eh q) (Ym (iV j) e0 (bE h fun c7 b7 h=>?_)))))))
  replace b:=b.pk 6 [0,2,2,2,0,0] rfl
  refine yC (yCall FN_158 (a2 e0 e0)) (matching_kuhn_try_ok b7 b) ?_
  rintro _ w ⟨rfl,b⟩
  refine ⟨_,rfl,?_⟩
  refine wN (b2 _ _ _ (b1 _ _ (wR (yY (yadd (eh y) rfl) (Ym (iV (wa .i64 j 1)) e0 (wN ?_))))))
  cases h
  exact a5 _ _ _ rfl ⟨_,_,_,_,_,_,rfl,rfl,I,q,J,rfl,(b.pk 7 [5,0,0,0,0,0] rfl)⟩
 refine wp_exit (a9 _ _ _ rfl ?_)
 cases h
 refine a6 _ _ _ _ rfl rfl ?_
 obtain rfl:=a4 _ rfl
 refine a0 _ _ _ (X _ _ (sR fun _ b8=>Ym (pB i) (eh q) (Ya (pB i) e0 (wK b8 (wp_ret ?_)))))
 cases g
 exact O _ _ _ (fin1r Tryz.results140 ⟨rfl,rfl⟩ ⟨_,_,_,_,_,rfl,(b.pk 6 [1,1,1,1,1] rfl)⟩)
theorem matching_Reachable_ok {C y:Int} {c7 c8 c9:LI} {I J K:Hdr} {out:(List Bool)×(List Bool)} (k:matching_Reachable C y c7 c8 c9=some out) (g0:imm I1 I.v c7∈ros) (g1:imm I1 J.v c8∈ros) (g2:imm (rI .u64) K.v c9∈ros) (b:St w0 ros rs w):
  Calls Tryz.prog 123 #[.agg #[iV C,iV y,I.v,J.v,K.v]] w (fun e w=>∃ (d0 d1:Hdr),e=.returned (.tuple #[d0.v,d1.v])∧St w0 ros (row 4 rB d0.v out.1::row 4 rB d1.v out.2::rs) w):=by
 refine enterQ Tryz.func123 rfl Tryz.ntmps123 rfl fun Q g3=>sR fun _ g4=>yBb (r_box (vals:=[iV C,iV y,I.v,J.v,K.v]) b e0 rfl) fun p9 w b=>Ya hnil.v rfl (Ya hnil.v rfl (wK g4 (sR fun _ k2=>yY (lbs_ [iV C,iV y,I.v,J.v,K.v] ST_91 e0 b R0) (bE k fun c g5 k=>yC (yCall FN_140 (a1 e0)) (matching_matched_ok g5 g0 g1 g2 b) ?_))))
 rintro _ w ⟨h,m,j,o,q,rfl,b⟩
 refine ⟨_,rfl,?_⟩
 refine Ya (pB h) e0 (wK k2 (sQ fun _ g6=>bE k fun Z d2 k=>bE k fun g7 a0 k=>?_))
 refine joinN (n:=89) (fun f w=>∃ (i g:Hdr),f 2=i.v∧f 3=g.v∧f 4=(pB h)∧St w0 ros (row 4 rB i.v Z::row 4 rB g.v g7::row 22 S1 m.v c.1::row 3 I1 j.v c.2.1::row 3 I1 o.v c.2.2.1::row 4 rB q.v c.2.2.2::box h 164 [m.v,j.v,o.v,q.v]::rs) w) (fun a2=>?_) ?_
 ·refine dR [0,1,3,0,8,24,7,127] [2,5,6,7] 4 folM ?_
  replace b:=b.drew
  refine Dn [0,1,3,4] [] [2,5] (yR rfl (yFb FL_91_0 e0) (yR rfl (lb_ (iV C) O_3 e0 b R5) (yR rfl (yFb FL_91_1 e0) (yR rfl (lb_ (iV y) O_3 e0 b R5) (Rn QSn ?_)))))
  refine Lc rfl ?_ (Lc1 rfl ?_)
  ·refine LH wn (rMk b SL_93 e0 d2) fun L w b=>Dn [] [3,4] [5,6] (Rn (yS rfl (yFb FL_91_1 e0) (yS rfl (lb_ (iV y) O_3 e0 b R6) QSn)) ?_)
   refine Lc rfl ?_ (Lc1 rfl ?_)
   ·refine LH wn (rMk b SL_93 e0 a0) fun G w b=>Dn [] [] [6] (Rn QSn ?_)
    refine Lc1 rfl ?_
    refine Ly wn (a_ L.v e0) (Dn [] [] [7] (Rn QSn ?_))
    refine Lc1 rfl ?_
    exact Ly wn (a_ G.v e0) (Dz [] [] (Rn QSn (a2 _ _ ⟨_,_,rfl,rfl,rfl,(b.pk 8 [1,0,0,0,0,0,0] rfl)⟩)))
   refine Ly wn (a_ L.v e0) (Dn [] [3,4] [5] (Rn (yS rfl (yFb FL_91_1 e0) (yS rfl (lb_ (iV y) O_3 e0 b R6) QSn)) ?_))
   refine Lc1 rfl ?_
   refine LH wn (rMk b SL_93 e0 a0) fun G w b=>Dn [] [] [7] (Rn QSn ?_)
   refine Lc1 rfl ?_
   exact Ly wn (a_ G.v e0) (Dz [] [] (Rn QSn (a2 _ _ ⟨_,_,rfl,rfl,rfl,(b.pk 8 [1,0,0,0,0,0,0] rfl)⟩)))
  refine LH wn (rMk b SL_93 e0 a0) fun G w b=>Dn [] [0,1] [2] (Rn (yS rfl (yFb FL_91_0 e0) (yS rfl (lb_ (iV C) O_3 e0 b R6) QSn)) ?_)
  refine Lc1 rfl ?_
  refine LH wn (rMk b SL_93 e0 d2) fun L w b=>Dn [] [] [6] (Rn QSn ?_)
  refine Lc1 rfl ?_
  refine Ly wn (a_ L.v e0) (Dn [] [] [7] (Rn QSn ?_))
  refine Lc1 rfl ?_
  exact Ly wn (a_ G.v e0) (Dz [] [] (Rn QSn (a2 _ _ ⟨_,_,rfl,rfl,rfl,(b.pk 8 [0,0,0,0,0,0,0] rfl)⟩)))
 rintro f w ⟨i,g,g8,g9,d3,b⟩
 refine g6 _ _ (sR fun _ h0=>Ya hnil.v rfl (wK h0 (sQ fun _ h1=>sR fun _ h2=>Ym (pB h) (eh d3) (yY (yn e0) (yY (yFb FL_164_1 e0) (yY (lb_ j.v O_22 e0 b R6) (yY (yLen SL_22 e0 b rO3) ?_)))))))
 refine Ym (iV 0) rfl (wK h2 (blockQ fun _ h3=>bE k fun q0 h5 k=>?_))
 replace b:=b.rowNh 3 I1
 refine loopQ (fun s a w=>∃ (a3:List Bool) (a4:LI) (r:Int) (f:FV) (N:Hdr),(a3,a4,r)=s∧a=fr 89 f∧f 2=i.v∧f 3=g.v∧f 4=(pB h)∧f 5=N.v∧f 23=j.v∧f 24=iV (c.2.1.length:Int)∧f 25=iV r∧St w0 ros (row 4 rB i.v Z::row 4 rB g.v a3::row 22 S1 m.v c.1::row 3 I1 j.v c.2.1::row 3 I1 o.v c.2.2.1::row 4 rB q.v c.2.2.2::box h 164 [m.v,j.v,o.v,q.v]::row 3 I1 N.v a4::rs) w) h5 ⟨_,_,_,_,_,rfl,rfl,g8,g9,d3,rfl,rfl,rfl,rfl,(b.pk 8 [1,1,1,1,1,1,1,0] rfl)⟩ ?_
 rintro _ _ w h7 ⟨a3,a4,r,f,N,rfl,rfl,a5,O,a6,a7,a8,a9,H,b⟩ p h9 q4 i0 i1
 refine sR fun _ i2=>yY (ylss (eh H) (eh a9)) (wK i2 (seqQ fun q5 i3 i4=>?_))
 refine cIf e0 p (fun i5 p=>?_) fun i5 p=>?_
 ·refine wp_skip (i3 _ _ (sQ fun _ i6=>blockQ fun i7 i8=>sR fun _ i9=>Ym (iV r) (eh H) (bE p fun d4 d5 p=>yY (yIa SL_22 (eh a8) (eh H) b rO3 d5) (yY (yI O_3 e0 b rO3 d5) (Ya (iV r) e0 (Ya (iV d4) e0 (wK i9 ?_)))))))
  refine sR fun _ j0=>Ym (iV d4) e0 (yY (yeql e0 rfl) (wK j0 ?_))
  have d6:∀ (b0:List Bool) (b1:LI) (b2:Hdr) (f:FV) w,f 2=i.v→f 3=g.v→f 4=(pB h)→f 5=b2.v→f 23=j.v→f 24=iV (c.2.1.length:Int)→f 25=iV r→St w0 ros (row 4 rB i.v Z::row 4 rB g.v b0::row 22 S1 m.v c.1::row 3 I1 j.v c.2.1::row 3 I1 o.v c.2.2.1::row 4 rB q.v c.2.2.2::box h 164 [m.v,j.v,o.v,q.v]::row 3 I1 b2.v b1::rs) w→matching_Reachable_j27 r b0 b1=some h7→i7 .normal (fr 89 f) w:=by
   intro b0 b1 b2 f w j2 j3 j4 j6 j7 j8 j9 b k
   refine i8 _ _ _ (i6 _ _ (wR (yY (yadd (eh j9) rfl) (Ym (iV (wa .i64 r 1)) e0 (wN ?_)))))
   cases k
   exact i0 _ _ _ rfl ⟨_,_,_,_,_,rfl,rfl,j2,j3,j4,j6,j7,j8,rfl,b⟩
  refine cIf e0 p (fun k0 p=>?_) fun k0 p=>?_
  ·refine sR fun _ k7=>Ym g.v (eh O) (Ym (iV r) e0 (bE p fun q6 d7 p=>yY (yIs SL_93 e0 e0 b rO1 d7) (yT (r_sti (cs:=[.bool true]) (b.pk 2 [1,0] rfl) O_4 rfl e0 rfl rfl mkB d7) fun w b=>wK k7 (wR (Ym N.v (eh a7) (Ym (iV r) e0 (yH (rLt (n:=1) (l:=[r]) b SL_22 [iV r] (bp1 e0) rfl rfl (mks1 (cs:=[iV r]) rfl mkI mks0)) ?_)))))))
   exact fun q7 w b=>bE p fun q8 k8 p=>yH (rAp (b.pk 9 [8,0,0,0,0,0,0,0,0] rfl) SL_22 e0 e0 rO1 k8) fun k9 w b=>Ya k9.v e0 (wN (d6 _ _ _ _ _ a5 O a6 rfl a8 a9 H (b.pk 9 [3,2,2,2,2,2,2,0] rfl) p))
  exact wp_skip (d6 _ _ _ _ _ a5 O a6 a7 a8 a9 H b p)
 refine wp_exit (i4 _ _ _ rfl ?_)
 cases p
 refine i1 _ _ _ _ rfl rfl ?_
 obtain rfl:=h9 _ rfl
 refine h3 _ _ _ (h1 _ _ (sQ fun _ l0=>blockQ fun _ l1=>bE k fun q9 l2 k=>?_))
 replace b:=(b.pk 8 [7,0,0,0,0,0,0,0] rfl).toQ
 refine loopQ (fun s a w=>∃ (b3 b4:List Bool) (R:LI) (f:FV) (z:Hdr),(b3,b4,R)=s∧a=fr 89 f∧f 2=i.v∧f 3=g.v∧f 4=(pB h)∧f 5=z.v∧St w0 ros (row 4 rB i.v b3::row 4 rB g.v b4::row 22 S1 m.v c.1::row 3 I1 j.v c.2.1::row 3 I1 o.v c.2.2.1::row 4 rB q.v c.2.2.2::box h 164 [m.v,j.v,o.v,q.v]::rowS 3 I1 z.v R::rs) w) l2 ⟨_,_,_,_,_,rfl,rfl,a5,O,a6,a7,(b.pk 8 [1,1,1,1,1,1,1,0] rfl)⟩ ?_
 rintro _ _ w r0 ⟨b3,b4,R,f,z,rfl,rfl,d8,d9,e1,b5,b⟩ t l3 r1 l4 l5
 refine seqQ fun r2 l6 l7=>sR fun _ l8=>Ym z.v (eh b5) (yY (yLen SL_22 e0 b (rdQ R7)) (yY (ygtr e0 rfl) (wK l8 ?_)))
 refine cIf e0 t (fun l9 t=>?_) fun l9 t=>?_
 ·refine wp_skip (l6 _ _ (blockQ fun _ m0=>sR fun _ m1=>Ym z.v (eh b5) (bE t fun e2 e3 t=>yY (yIa SL_22 e0 rfl b (rdQ R7) e3) (yY (yI O_3 e0 b (rdQ R7) e3) (Ya (iV e2) e0 (wK m1 (sR fun _ m2=>?_)))))))
  refine Ym z.v (eh b5) (bE t fun r3 e4 t=>?_)
  replace b:=b.pk 8 [7,0,0,0,0,0,0,0] rfl
  refine yY (ySl (k2:=.i64) SL_22 e0 b (rdQ R0) (.inl (congrArg some rfl)) (.inr ⟨rfl,rfl⟩) e4) ?_
  replace b:=b.qcut e4 rfl
  refine Ya ((subH z 1 1 (R.length:Int)).v) e0 (wK m2 (sR fun _ m3=>Ym (pB h) (eh e1) (yY (yn e0) (yY (yFb FL_164_0 e0) (yY (lb_ m.v O_24 e0 b R7) (Ym (iV e2) e0 (bE t fun D e5 t=>yY (yIa SL_24 e0 e0 b rO3 e5) ?_)))))))
  obtain ⟨E,m4,b⟩:=rLs b rO3 e5
  refine yY (yCe O_22 e0 m4 rfl) (yY (yLen SL_22 e0 b (rdI F0)) (Ym (iV 0) rfl (wK m3 (blockQ fun _ m5=>bE t fun r4 m6 t=>?_))))
  refine loopQ (fun s a w=>∃ (b6 S:List Bool) (T:LI) (A:Int) (f:FV) (F:Hdr),(b6,S,T,A)=s∧a=fr 89 f∧f 2=i.v∧f 3=g.v∧f 4=(pB h)∧f 5=F.v∧f 54=E.v∧f 55=iV (D.length:Int)∧f 56=iV A∧St w0 (imm I1 E.v D::ros) (row 4 rB i.v b6::row 4 rB g.v S::row 22 S1 m.v c.1::row 3 I1 j.v c.2.1::row 3 I1 o.v c.2.2.1::row 4 rB q.v c.2.2.2::box h 164 [m.v,j.v,o.v,q.v]::rowS 3 I1 F.v T::rs) w) m6 ⟨_,_,_,_,_,_,rfl,rfl,d8,d9,e1,rfl,rfl,rfl,rfl,(b.pk 8 [1,1,1,1,1,1,1,0] rfl)⟩ ?_
  rintro _ _ w m7 ⟨b6,S,T,A,f,F,rfl,rfl,U,V,W,b7,b8,c0,X,b⟩ d m8 r5 m9 n0
  refine sR fun _ n1=>yY (ylss (eh X) (eh c0)) (wK n1 (seqQ fun r6 n2 n3=>?_))
  refine cIf e0 d (fun n5 d=>?_) fun n5 d=>?_
  ·refine wp_skip (n2 _ _ (sQ fun _ n6=>blockQ fun n7 n8=>sR fun _ n9=>bE d fun c1 e6 d=>yY (yIa SL_22 (eh b8) (eh X) b (rdI F0) e6) (yY (yI O_3 e0 b (rdI F0) e6) (Ya (iV c1) e0 (wK n9 (sR fun _ o0=>?_))))))
   refine Ym i.v (eh U) (Ym (iV c1) e0 (bE d fun c2 e7 d=>yY (yIs SL_93 e0 e0 b rO0 e7) (yT (r_sti (cs:=[.bool true]) b O_4 rfl e0 rfl rfl mkB e7) fun w b=>wK o0 (sR fun _ o1=>Ym (pB h) (eh W) (yY (yn e0) (yY (yFb FL_164_2 e0) (yY (lb_ o.v O_22 e0 b R6) ?_)))))))
   refine Ym (iV c1) e0 (bE d fun x e8 d=>yY (yIa SL_22 e0 e0 b rO4 e8) (yY (yI O_3 e0 b rO4 e8) (Ya (iV x) e0 (wK o1 (sR fun _ o2=>Ym (iV x) e0 (yY (yneq e0 rfl) (Ym (.bool (!(decide (x=(-1))))) e0 (bE d fun o3 B d=>?_))))))))
   refine joinW 6 (fun f w=>f 2=i.v∧f 3=g.v∧f 4=(pB h)∧f 5=F.v∧f 11=iV x∧f 54=E.v∧f 55=iV (D.length:Int)∧f 56=iV A∧f 78=.bool o3∧St w0 (imm I1 E.v D::ros) (row 4 rB i.v c2::row 4 rB g.v S::row 22 S1 m.v c.1::row 3 I1 j.v c.2.1::row 3 I1 o.v c.2.2.1::row 4 rB q.v c.2.2.2::box h 164 [m.v,j.v,o.v,q.v]::rowS 3 I1 F.v T::rs) w) (fun e9=>?_) ?_
   ·rcases iteS B with ⟨u,B⟩ | ⟨u,B⟩
    ·refine gN (nF (dT u)) (gN (nF (dT u)) (gN (nF (dT u)) (gN (nF (dT u)) (gN (nF (dT u)) (yY (pf_ (.bool false) e0 (nF (dT u)) rfl) ?_)))))
     cases B
     exact e9 _ _ ⟨U,V,W,b7,rfl,b8,c0,X,rfl,b⟩
    refine yG (nT (dF u)) (m_ g.v (eh V)) (yG (nT (dF u)) (m_ (iV x) e0) (bE B fun o5 f0 B=>yG (nT (dF u)) (yIa SL_93 e0 e0 b rO1 f0) (yG (nT (dF u)) (yB O_4 e0 b rO1 f0) (yG (nT (dF u)) (ynot e0) (yY (pt_ (.bool (!o5)) e0 (nT (dF u)) e0) ?_)))))
    cases B
    exact e9 _ _ ⟨U,V,W,b7,rfl,b8,c0,X,rfl,b⟩
   rintro f w ⟨f1,c3,f2,f3,f4,f5,f6,f7,o6,b⟩
   refine wK o2 ?_
   have f8:∀ (c4:List Bool) (c5:LI) (c6:Hdr) (f:FV) w,f 2=i.v→f 3=g.v→f 4=(pB h)→f 5=c6.v→f 54=E.v→f 55=iV (D.length:Int)→f 56=iV A→St w0 (imm I1 E.v D::ros) (row 4 rB i.v c2::row 4 rB g.v c4::row 22 S1 m.v c.1::row 3 I1 j.v c.2.1::row 3 I1 o.v c.2.2.1::row 4 rB q.v c.2.2.2::box h 164 [m.v,j.v,o.v,q.v]::rowS 3 I1 c6.v c5::rs) w→matching_Reachable_j26 c2 A c4 c5=some m7→n7 .normal (fr 89 f) w:=by
    intro c4 c5 c6 f w o7 o8 o9 p0 p1 p2 p3 b k
    refine n8 _ _ _ (n6 _ _ (wR (yY (yadd (eh p3) rfl) (Ym (iV (wa .i64 A 1)) e0 (wN ?_)))))
    cases k
    exact m9 _ _ _ rfl ⟨_,_,_,_,_,_,rfl,rfl,o7,o8,o9,p0,p1,p2,rfl,b⟩
   refine cB (eh o6) d (fun p4 d=>?_) fun p4 d=>?_
   ·refine sR fun _ p5=>Ym g.v (eh c3) (Ym (iV x) (eh f4) (bE d fun r7 f9 d=>yY (yIs SL_93 e0 e0 b rO1 f9) (yT (r_sti (cs:=[.bool true]) (b.pk 2 [1,0] rfl) O_4 rfl e0 rfl rfl mkB f9) fun w b=>wK p5 (wR (Ym F.v (eh f3) (Ym (iV x) (eh f4) (yH (rLt (n:=1) (l:=[x]) b SL_22 [iV x] (bp1 e0) rfl rfl (mks1 (cs:=[iV x]) rfl mkI mks0)) ?_)))))))
    exact fun r8 w b=>bE d fun r9 p6 d=>yH (rQAp (b.pk 9 [8,0,0,0,0,0,0,0,0] rfl) SL_22 e0 e0 rO1 (List.cons_ne_nil _ _) p6) fun p7 w b=>Ya p7.v e0 (wN (f8 _ _ _ _ _ f1 c3 f2 rfl f5 f6 f7 (b.pk 9 [3,2,2,2,2,2,2,0] rfl) d))
   exact wp_skip (f8 _ _ _ _ _ f1 c3 f2 f3 f5 f6 f7 b d)
  refine wp_exit (n3 _ _ _ rfl ?_)
  cases d
  refine n0 _ _ _ _ rfl rfl ?_
  obtain rfl:=m8 _ rfl
  refine m5 _ _ _ (m0 _ _ _ ?_)
  cases t
  exact l4 _ _ _ rfl ⟨_,_,_,_,_,rfl,rfl,U,V,W,b7,(b.facts (allT allI))⟩
 refine wp_exit (l7 _ _ _ rfl ?_)
 cases t
 refine l5 _ _ _ _ rfl rfl ?_
 obtain rfl:=l3 _ rfl
 refine l1 _ _ _ (l0 _ _ (sR fun _ p8=>Ym i.v (eh d8) (Ym g.v (eh d9) (Ya i.v e0 (Ya g.v e0 (wK p8 (wp_ret ?_)))))))
 cases k
 exact g3 _ _ _ (fin2r Tryz.results123 ⟨rfl,rfl⟩ ⟨rfl,rfl⟩ ⟨_,_,rfl,(b.pk 8 [0,0] rfl)⟩)
theorem matching_List_ok {m:List Bool} {h:Bool} {i:Hdr} {out:LI} (j:matching_List m h=some out) (o:imm rB i.v m∈ros) (b:St w0 ros rs w):
  Calls Tryz.prog 124 #[i.v,.bool h] w (fun e w=>∃ (z:Hdr),e=.returned (z.v)∧St w0 ros (row 3 I1 z.v out::rs) w):=by
 refine enterQ Tryz.func124 rfl Tryz.ntmps124 rfl fun Q D=>sR fun _ E=>Ya hnil.v rfl (wK E (sR fun _ F=>Ya hnil.v rfl (wK F (sQ fun _ G=>sR fun _ H=>?_))))
 refine Ym i.v e0 (yY (yLen SL_93 e0 b (rdI o)) (Ym (iV 0) rfl (wK H (blockQ fun _ I=>bE j fun b0 J j=>?_))))
 replace b:=b.rowNh 3 I1
 refine loopQ (fun s a w=>∃ (p:LI) (d:Int) (f:FV) (g:Hdr),(p,d)=s∧a=fr 24 f∧f 1=.bool h∧f 5=g.v∧f 8=i.v∧f 9=iV (m.length:Int)∧f 10=iV d∧St w0 ros (row 3 I1 g.v p::rs) w) J ⟨_,_,_,_,rfl,rfl,rfl,rfl,rfl,rfl,rfl,b⟩ ?_
 rintro _ _ w K ⟨p,d,f,g,rfl,rfl,q,r,t,u,k,b⟩ c L b1 N O
 refine sR fun _ R=>yY (ylss (eh k) (eh u)) (wK R (seqQ fun b2 S T=>?_))
 refine cIf e0 c (fun U c=>?_) fun U c=>?_
 ·refine wp_skip (S _ _ (sQ fun _ V=>blockQ fun W X=>sR fun _ Z=>Ym (iV d) (eh k) (bE c fun A B c=>yY (yIa SL_93 (eh t) (eh k) b (rdI o) B) (yY (yB O_4 e0 b (rdI o) B) (Ya (iV d) e0 (Ya (.bool A) e0 (wK Z ?_)))))))
  refine sR fun _ a0=>Ym (.bool A) e0 (Ym (.bool h) (eh q) (yY (yeqb (by kernel_rfl) e0 e0) (wK a0 ?_)))
  have C:∀ (x:LI) (y:Hdr) (f:FV) w,f 1=.bool h→f 5=y.v→f 8=i.v→f 9=iV (m.length:Int)→f 10=iV d→St w0 ros (row 3 I1 y.v x::rs) w→matching_List_j4 d x=some K→W .normal (fr 24 f) w:=by
   intro x y f w a1 a2 a3 a4 a5 b j
   refine X _ _ _ (V _ _ (wR (yY (yadd (eh a5) rfl) (Ym (iV (wa .i64 d 1)) e0 (wN ?_)))))
   cases j
   exact N _ _ _ rfl ⟨_,_,_,_,rfl,rfl,a1,a2,a3,a4,rfl,b⟩
  refine cB e0 c (fun a6 c=>?_) fun a6 c=>?_
  ·exact wR (Ym g.v (eh r) (Ym (iV d) e0 (yH (rLt (n:=1) (l:=[d]) b SL_22 [iV d] (bp1 e0) rfl rfl (mks1 (cs:=[iV d]) rfl mkI mks0)) fun b3 w b=>bE c fun b4 a7 c=>yH (rAp (b.pk 2 [1,0] rfl) SL_22 e0 e0 rO1 a7) fun a8 w b=>Ya a8.v e0 (wN (C _ _ _ _ q rfl t u k (b.pk 2 [0] rfl) c)))))
  exact wp_skip (C _ _ _ _ q r t u k b c)
 refine wp_exit (T _ _ _ rfl ?_)
 cases c
 refine O _ _ _ _ rfl rfl ?_
 obtain rfl:=L _ rfl
 refine I _ _ _ (G _ _ (sR fun _ a9=>Ym g.v (eh r) (Ya g.v e0 (wK a9 (wp_ret ?_)))))
 cases j
 exact D _ _ _ (fin1r Tryz.results124 ⟨rfl,rfl⟩ ⟨_,rfl,b⟩)
theorem matching_Cover_ok {c d:Int} {o p q:LI} {f g h:Hdr} {out:LI×LI×Int} (b:matching_Cover c d o p q=some out) (r:imm I1 f.v o∈ros) (s:imm I1 g.v p∈ros) (t:imm (rI .u64) h.v q∈ros) (a:St w0 ros rs w):
  Calls Tryz.prog 104 #[.agg #[iV c,iV d,f.v,g.v,h.v]] w (fun e w=>∃ (u x:Hdr),e=.returned (.tuple #[.agg #[u.v,x.v],iV out.2.2])∧St w0 ros (row 3 I1 u.v out.1::row 3 I1 x.v out.2.1::rs) w):=by
 refine enterQ Tryz.func104 rfl Tryz.ntmps104 rfl fun Q y=>sR fun _ z=>yBb (r_box (vals:=[iV c,iV d,f.v,g.v,h.v]) a e0 rfl) fun L w a=>yBb (rAl a ZT_86) fun N w a=>Ya (iV 0) rfl (wK z (sR fun _ A=>yY (lbs_ [iV c,iV d,f.v,g.v,h.v] ST_91 e0 a R1) (bE b fun i B b=>?_)))
 refine yC (yCall FN_122 (a1 e0)) (matrix_Check_ok B r s t a) ?_
 rintro _ w ⟨rfl,a⟩
 refine ⟨_,rfl,?_⟩
 refine Ya (iV i) e0 (wK A (seqQ fun O C D=>sR fun _ E=>Ym (iV i) e0 (yY (yneq e0 rfl) (wK E ?_))))
 rcases iteS b with ⟨n,b⟩ | ⟨n,b⟩
 ·refine condF e0 (nF (dT n)) (wp_skip (C _ _ (sR fun _ F=>yY (lbs_ [iV c,iV d,f.v,g.v,h.v] ST_91 e0 a R1) (bE b fun R G b=>yC (yCall FN_123 (a1 e0)) (matching_Reachable_ok G r s t a) ?_))))
  rintro _ w ⟨j,k,rfl,a⟩
  refine ⟨_,rfl,?_⟩
  refine Ym (.tuple #[j.v,k.v]) e0 (yY (x_ j.v e0) (yY (x_ k.v e0) (Ya j.v e0 (Ya k.v e0 (wK F (sR fun _ H=>Ym j.v e0 (bE b fun S I b=>?_)))))))
  replace a:=a.fz
  refine yC (yCall FN_124 (a2 e0 rfl)) (matching_List_ok I F0 a) ?_
  rintro _ w ⟨l,rfl,a⟩
  refine ⟨_,rfl,?_⟩
  refine Ym k.v e0 (bE b fun T J b=>?_)
  replace a:=(a.pk 2 [1,0] rfl).fz
  refine yC (yCall FN_124 (a2 e0 rfl)) (matching_List_ok J F0 a) ?_
  rintro _ w ⟨m,rfl,a⟩
  refine ⟨_,rfl,?_⟩
  refine yY (ybuild (us:=[l.v,m.v]) [(0,l.v),(1,m.v)] SO_86 (bp2 e0 e0) rfl) (yT (r_stbn (vals':=[l.v,m.v]) (us:=[l.v,m.v]) (a.pk 3 [2,0,0] rfl) ST_86 e0 e0 rfl rfl (one_of rfl) rfl) fun w a=>Ya (iV 0) rfl (wK H (wp_ret ?_)))
  cases b
  exact y _ _ _ (fin2r Tryz.results104 (rcs2 rfl rfl a R0 ST_86 rfl) ⟨rfl,rfl⟩ ⟨_,_,rfl,((a.pk 4 [2,1] rfl).facts (allT (allT allI)))⟩)
 refine condT e0 (nT (dF n)) (sR fun _ K=>yY (ybuild (us:=[hnil.v,hnil.v]) [] SO_86 bp0 rfl) (Ym (iV i) e0 (yT (r_stbn (vals':=[hnil.v,hnil.v]) (us:=[hnil.v,hnil.v]) a ST_86 e0 e0 rfl rfl (one_of rfl) rfl) fun w a=>Ya (iV i) e0 (wK K (wp_ret (D _ _ _ rfl ?_))))))
 cases b
 replace a:=(a.rowNh 3 I1).rowNh 3 I1
 exact y _ _ _ (fin2r Tryz.results104 (rcs2 rfl rfl a R2 ST_86 rfl) ⟨rfl,rfl⟩ ⟨_,_,rfl,(a.pk 4 [1,0] rfl)⟩)
theorem dissect_cover_ok {d1:L2} {d2:LI} {q L:Hdr} {out:(List Bool)} (h:dissect_cover d1 d2=some out) (N:imm S1 q.v d1∈ros) (d3:imm I1 L.v d2∈ros) (b:St w0 ros rs w):
  Calls Tryz.prog 86 #[.agg #[q.v],L.v] w (fun e w=>∃ (d4:Hdr),e=.returned (d4.v)∧St w0 ros (row 4 rB d4.v out::rs) w):=by
 refine enterQ Tryz.func86 rfl Tryz.ntmps86 rfl fun Q d5=>sR fun _ g5=>yBb (r_box (vals:=[q.v]) b e0 rfl) fun B w b=>Ya hnil.v rfl (wK g5 (sQ fun _ g6=>bE h fun g g7 h=>bE h fun d g8 h=>dR [0,0,3,0,0,31,63,127] [2,5,6,7] 4 folM ?_))
 replace b:=b.drew
 refine Dn [0,1,3,4] [] [2] (yR rfl (lbs_ [q.v] ST_26 e0 b R0) (yR rfl (m_ L.v e0) (yR rfl (lbs_ [q.v] ST_26 e0 b R0) (yR rfl (m_ L.v e0) (Rn QSn ?_)))))
 refine Lc1 rfl ?_
 refine Lk wn (yCall FN_103 (a3 e0 e0 rfl)) (dissect_border_ok g7 N d3 b) ?_
 rintro _ w ⟨k,rfl,b⟩
 refine ⟨_,rfl,?_⟩
 refine Dn [] [3,4] [5] (Rn (yS rfl (lbs_ [q.v] ST_26 e0 b R1) (yS rfl (m_ L.v e0) QSn)) ?_)
 refine Lc1 rfl ?_
 refine Lk wn (yCall FN_103 (a3 e0 e0 rfl)) (dissect_border_ok g8 N d3 b) ?_
 rintro _ w ⟨i,rfl,b⟩
 refine ⟨_,rfl,?_⟩
 refine Dn [] [] [6] (Rn QSn ?_)
 refine Lc1 rfl ?_
 refine Ly wn (a_ k.v e0) (Dn [] [] [7] (Rn QSn ?_))
 refine Lc1 rfl ?_
 refine Ly wn (a_ i.v e0) (Dz [] [] (Rn QSn (g6 _ _ (sR fun _ g9=>Ym k.v e0 (yY (yLen SL_22 e0 b rO1) (Ym i.v e0 (yY (yLen SL_22 e0 b rO0) (yH (rLt (n:=1) (l:=[0]) b SL_22 [iV 0] (bp1 rfl) rfl rfl (mks1 (cs:=[iV 0]) rfl mkI mks0)) fun a4 w b=>yY (ybuild (us:=[iV (g.length:Int),iV (d.length:Int),a4.v,hnil.v,hnil.v]) [(0,iV (g.length:Int)),(1,iV (d.length:Int)),(2,a4.v)] SO_91 (bp3 e0 e0 e0) rfl) (yBb (rAl b ZT_91) ?_)))))))))
 refine fun C w b=>yT (r_stbn (vals':=[iV (g.length:Int),iV (d.length:Int),a4.v,hnil.v,hnil.v]) (us:=[iV (g.length:Int),iV (d.length:Int),a4.v,hnil.v,hnil.v]) b ST_91 e0 e0 rfl rfl (one_of rfl) rfl) fun w b=>wK g9 (sQ fun _ h0=>sR fun _ h1=>Ym i.v e0 (yY (yLen SL_22 e0 b rO2) (Ym (iV 0) rfl (wK h1 (blockQ fun _ h3=>?_)))))
 refine bE h fun s1 h5 h=>?_
 replace b:=(b.rowNh 3 I1).rowNh 82 (rI .u64)
 refine loopQ (fun s a w=>∃ (I a9 b0:LI) (F:Int) (f:FV) (m a5 a6:Hdr),(I,a9,b0,F)=s∧a=fr 119 f∧f 2=(pB B)∧f 5=k.v∧f 6=i.v∧f 7=(pB C)∧f 33=i.v∧f 34=iV (d.length:Int)∧f 35=iV F∧St w0 ros (box B 26 [q.v]::row 3 I1 k.v g::row 3 I1 i.v d::row 3 I1 m.v I::row 3 I1 a5.v a9::row 82 (rI .u64) a6.v b0::box C 91 [iV (g.length:Int),iV (d.length:Int),m.v,a5.v,a6.v]::rs) w) h5 ⟨_,_,_,_,_,_,_,_,rfl,rfl,rfl,rfl,rfl,rfl,rfl,rfl,rfl,(b.pk 7 [6,5,4,3,1,0,0] rfl)⟩ ?_
 rintro _ _ w s2 ⟨I,a9,b0,F,f,m,a5,a6,rfl,rfl,d6,b1,d7,d8,d9,e1,b2,b⟩ r h6 s3 h8 i0
 refine sR fun _ i1=>yY (ylss (eh b2) (eh e1)) (wK i1 (seqQ fun s4 i2 i3=>?_))
 refine cIf e0 r (fun i4 r=>?_) fun i4 r=>?_
 ·refine wp_skip (i2 _ _ (sQ fun _ i5=>blockQ fun _ i6=>sR fun _ i7=>bE r fun O e2 r=>yY (yIa SL_22 (eh d9) (eh b2) b rO2 e2) (yY (yI O_3 e0 b rO2 e2) (Ya (iV O) e0 (wK i7 (sQ fun _ i8=>sQ fun _ i9=>?_))))))
  refine wR (Ym k.v (eh b1) (yY (yLen SL_22 e0 b rO1) (Ym (iV 0) rfl (wK i9 (blockQ fun _ j0=>bE r fun s5 j1 r=>?_)))))
  refine loopQ (fun s a w=>∃ (J b3:LI) (o:Int) (f:FV) (y p:Hdr),(J,b3,o)=s∧a=fr 119 f∧f 2=(pB B)∧f 5=k.v∧f 6=i.v∧f 7=(pB C)∧f 9=iV O∧f 33=i.v∧f 34=iV (d.length:Int)∧f 35=iV F∧f 39=k.v∧f 40=iV (g.length:Int)∧f 41=iV o∧St w0 ros (box B 26 [q.v]::row 3 I1 k.v g::row 3 I1 i.v d::row 3 I1 m.v I::row 3 I1 y.v J::row 82 (rI .u64) p.v b3::box C 91 [iV (g.length:Int),iV (d.length:Int),m.v,y.v,p.v]::rs) w) j1 ⟨_,_,_,_,_,_,rfl,rfl,d6,b1,d7,d8,rfl,d9,e1,b2,rfl,rfl,rfl,b⟩ ?_
  rintro _ _ w j2 ⟨J,b3,o,f,y,p,rfl,rfl,K,R,S,c,T,U,V,W,X,Z,G,b⟩ j j3 s6 j4 j5
  refine sR fun _ j6=>yY (ylss (eh G) (eh Z)) (wK j6 (seqQ fun s7 j7 j8=>?_))
  refine cIf e0 j (fun j9 j=>?_) fun j9 j=>?_
  ·refine wp_skip (j7 _ _ (sQ fun _ k0=>blockQ fun k6 k7=>sR fun _ k8=>Ym (iV o) (eh G) (bE j fun e3 e4 j=>yY (yIa SL_22 (eh X) (eh G) b rO1 e4) (yY (yI O_3 e0 b rO1 e4) (Ya (iV o) e0 (Ya (iV e3) e0 (wK k8 ?_)))))))
   refine sR fun _ k9=>yY (yFb FL_26_0 (eh K)) (yY (lb_ q.v O_24 e0 b R0) (Ym (iV O) (eh T) (bE j fun s8 e5 j=>yY (yIa SL_24 e0 e0 b (rdI N) e5) ?_)))
   obtain ⟨s9,b⟩:=iLs b N e5
   refine yY (yCt O_22 e0 b F1 rfl) (Ym (iV e3) e0 (bE j fun H l0 j=>yC (yCall FN_84 (a2 e0 e0)) (slices_BinarySearch_int_ok l0 F0 b) ?_))
   rintro _ w ⟨rfl,b⟩
   refine ⟨_,rfl,?_⟩
   refine Ym (.tuple #[iV H.1,.bool H.2]) e0 (yY (x_ (iV H.1) e0) (yY (x_ (.bool H.2) e0) (Ya (iV H.1) e0 (Ya (.bool H.2) e0 (wK k9 (sR fun _ l1=>Ym (.bool H.2) e0 (wK l1 ?_)))))))
   have e6:∀ (b4 b6:LI) (b7 b8:Hdr) (f:FV) w,f 2=(pB B)→f 5=k.v→f 6=i.v→f 7=(pB C)→f 9=iV O→f 33=i.v→f 34=iV (d.length:Int)→f 35=iV F→f 39=k.v→f 40=iV (g.length:Int)→f 41=iV o→St w0 ros (box B 26 [q.v]::row 3 I1 k.v g::row 3 I1 i.v d::row 3 I1 m.v I::row 3 I1 b7.v b4::row 82 (rI .u64) b8.v b6::box C 91 [iV (g.length:Int),iV (d.length:Int),m.v,b7.v,b8.v]::rs) w→dissect_cover_j32 o b4 b6=some j2→k6 .normal (fr 119 f) w:=by
    intro b4 b6 b7 b8 f w l2 l3 l4 l5 l6 l7 l8 l9 m0 m1 m2 b h
    refine k7 _ _ _ (k0 _ _ (wR (yY (yadd (eh m2) rfl) (Ym (iV (wa .i64 o 1)) e0 (wN ?_)))))
    cases h
    exact j4 _ _ _ rfl ⟨_,_,_,_,_,_,rfl,rfl,l2,l3,l4,l5,l6,l7,l8,l9,m0,m1,rfl,b⟩
   refine cB e0 j (fun m3 j=>?_) fun m3 j=>?_
   ·refine bE j fun m4 b9 j=>bE j fun m5 c0 j=>?_
    refine joinN (n:=119) (fun f w=>∃ (c1 c2:Hdr),f 2=(pB B)∧f 5=k.v∧f 6=i.v∧f 7=(pB C)∧f 9=iV O∧f 33=i.v∧f 34=iV (d.length:Int)∧f 35=iV F∧f 39=k.v∧f 40=iV (g.length:Int)∧f 41=iV o∧St w0 ros (box B 26 [q.v]::row 3 I1 k.v g::row 3 I1 i.v d::row 3 I1 m.v I::row 3 I1 c1.v m4::row 82 (rI .u64) c2.v m5::box C 91 [iV (g.length:Int),iV (d.length:Int),m.v,c1.v,c2.v]::rs) w) (fun c3=>?_) ?_
    ·refine dR [0,1,0,4,15,0,32,0,255,127,1023,2047,4095] [3,4,7,8,10,12] 6 folM ?_
     replace b:=b.drew
     refine Dn [0,1,2,5,6] [] [3,7] (yR rfl (yFb FL_91_3 (eh c)) (yR rfl (lb_ y.v O_22 e0 b R6) (yR rfl (m_ (iV o) e0) (yR rfl (yFb FL_91_4 (eh c)) (yR rfl (lb_ p.v O_89 e0 b R6) (Rn QSn ?_))))))
     refine Lc rfl ?_ (Lc1 rfl ?_)
     ·refine LH wn (rLt (n:=1) (l:=[o]) b SL_22 [iV o] (bp1 e0) rfl rfl (mks1 (cs:=[iV o]) rfl mkI mks0)) fun m6 w b=>Dn [] [0,1,5,6] [4,7] (Rn (yS rfl (yFb FL_91_3 (eh c)) (yS rfl (lb_ y.v O_22 e0 b R7) (yS rfl (yFb FL_91_4 (eh c)) (yS rfl (lb_ p.v O_89 e0 b R7) QSn)))) ?_)
      refine Lc rfl ?_ (Lc1 rfl ?_)
      ·replace b:=b.pk 6 [5,0,0,0,0,0] rfl
       refine LH wn (rAp b SL_22 e0 e0 rO1 b9) fun D w b=>Dn [9] [5,6] [7] (yR rfl (yFb FL_91_3 (eh c)) (Rn (yS rfl (yFb FL_91_4 (eh c)) (yS rfl (lb_ p.v O_89 e0 b R7) QSn)) ?_))
       refine Lc1 rfl ?_
       refine LH wn (rLt (n:=1) (l:=[4607182418800017408]) b SL_89 [.int .u64 4607182418800017408] (bp1 rfl) rfl rfl (mks1 (cs:=[.int .u64 4607182418800017408]) rfl mkI mks0)) fun e7 w b=>Dn [] [5,6,9] [8] (Rn (yS rfl (yFb FL_91_4 (eh c)) (yS rfl (lb_ p.v O_89 e0 b R8) (yS rfl (yFb FL_91_3 (eh c)) QSn))) ?_)
       refine Lc1 rfl ?_
       replace b:=b.pk 8 [7,0,0,0,0,0,0,0] rfl
       refine LH wn (rAp b SL_89 e0 e0 rO1 c0) fun a0 w b=>Dn [] [9] [10] (Rn (yS rfl (yFb FL_91_3 (eh c)) QSn) ?_)
       refine Lc1 rfl ?_
       replace b:=b.pk 9 [8,0,0,0,0,0,0,0,0] rfl
       refine LT wn (r_stb1 (vals':=[iV (g.length:Int),iV (d.length:Int),m.v,D.v,p.v]) b O_22 e0 e0 rfl rfl rfl rfl) fun w b=>Dn [11] [] [12] (yR rfl (yFb FL_91_4 (eh c)) (Rn QSn ?_))
       refine Lc1 rfl ?_
       exact LT wn (r_stb1 (vals':=[iV (g.length:Int),iV (d.length:Int),m.v,D.v,a0.v]) b O_89 e0 e0 rfl rfl rfl rfl) fun w b=>Dz [] [] (Rn QSn (c3 _ _ ⟨_,_,K,R,S,c,T,U,V,W,X,Z,G,((b.pk 9 [5,5,5,5,3,1,0] rfl).facts (allT (allT allI)))⟩))
      refine LH wn (rLt (n:=1) (l:=[4607182418800017408]) b SL_89 [.int .u64 4607182418800017408] (bp1 rfl) rfl rfl (mks1 (cs:=[.int .u64 4607182418800017408]) rfl mkI mks0)) fun e7 w b=>Dn [] [0,1,5,6] [4] (Rn (yS rfl (yFb FL_91_3 (eh c)) (yS rfl (lb_ y.v O_22 e0 b R8) (yS rfl (yFb FL_91_4 (eh c)) (yS rfl (lb_ p.v O_89 e0 b R8) QSn)))) ?_)
      refine Lc1 rfl ?_
      replace b:=b.pk 7 [6,0,0,0,0,0,0] rfl
      refine LH wn (rAp b SL_22 e0 e0 rO2 b9) fun D w b=>Dn [9] [5,6] [8] (yR rfl (yFb FL_91_3 (eh c)) (Rn (yS rfl (yFb FL_91_4 (eh c)) (yS rfl (lb_ p.v O_89 e0 b R8) QSn)) ?_))
      refine Lc1 rfl ?_
      replace b:=b.pk 8 [7,0,0,0,0,0,0,0] rfl
      refine LH wn (rAp b SL_89 e0 e0 rO2 c0) fun a0 w b=>Dn [] [9] [10] (Rn (yS rfl (yFb FL_91_3 (eh c)) QSn) ?_)
      refine Lc1 rfl ?_
      replace b:=b.pk 9 [8,0,0,0,0,0,0,0,0] rfl
      refine LT wn (r_stb1 (vals':=[iV (g.length:Int),iV (d.length:Int),m.v,D.v,p.v]) b O_22 e0 e0 rfl rfl rfl rfl) fun w b=>Dn [11] [] [12] (yR rfl (yFb FL_91_4 (eh c)) (Rn QSn ?_))
      refine Lc1 rfl ?_
      exact LT wn (r_stb1 (vals':=[iV (g.length:Int),iV (d.length:Int),m.v,D.v,a0.v]) b O_89 e0 e0 rfl rfl rfl rfl) fun w b=>Dz [] [] (Rn QSn (c3 _ _ ⟨_,_,K,R,S,c,T,U,V,W,X,Z,G,((b.pk 9 [5,5,5,5,2,1,0] rfl).facts (allT (allT allI)))⟩))
     refine LH wn (rLt (n:=1) (l:=[4607182418800017408]) b SL_89 [.int .u64 4607182418800017408] (bp1 rfl) rfl rfl (mks1 (cs:=[.int .u64 4607182418800017408]) rfl mkI mks0)) fun e7 w b=>Dn [] [0,1,2,5,6] [3] (Rn (yS rfl (yFb FL_91_3 (eh c)) (yS rfl (lb_ y.v O_22 e0 b R7) (yS rfl (m_ (iV o) e0) (yS rfl (yFb FL_91_4 (eh c)) (yS rfl (lb_ p.v O_89 e0 b R7) QSn))))) ?_)
     refine Lc1 rfl ?_
     refine LH wn (rLt (n:=1) (l:=[o]) b SL_22 [iV o] (bp1 e0) rfl rfl (mks1 (cs:=[iV o]) rfl mkI mks0)) fun m6 w b=>Dn [] [0,1,5,6] [4] (Rn (yS rfl (yFb FL_91_3 (eh c)) (yS rfl (lb_ y.v O_22 e0 b R8) (yS rfl (yFb FL_91_4 (eh c)) (yS rfl (lb_ p.v O_89 e0 b R8) QSn)))) ?_)
     refine Lc1 rfl ?_
     replace b:=b.pk 7 [6,0,0,0,0,0,0] rfl
     refine LH wn (rAp b SL_22 e0 e0 rO1 b9) fun D w b=>Dn [9] [5,6] [8] (yR rfl (yFb FL_91_3 (eh c)) (Rn (yS rfl (yFb FL_91_4 (eh c)) (yS rfl (lb_ p.v O_89 e0 b R8) QSn)) ?_))
     refine Lc1 rfl ?_
     replace b:=b.pk 8 [7,0,0,0,0,0,0,0] rfl
     refine LH wn (rAp b SL_89 e0 e0 rO3 c0) fun a0 w b=>Dn [] [9] [10] (Rn (yS rfl (yFb FL_91_3 (eh c)) QSn) ?_)
     refine Lc1 rfl ?_
     replace b:=b.pk 9 [8,0,0,0,0,0,0,0,0] rfl
     refine LT wn (r_stb1 (vals':=[iV (g.length:Int),iV (d.length:Int),m.v,D.v,p.v]) b O_22 e0 e0 rfl rfl rfl rfl) fun w b=>Dn [11] [] [12] (yR rfl (yFb FL_91_4 (eh c)) (Rn QSn ?_))
     refine Lc1 rfl ?_
     exact LT wn (r_stb1 (vals':=[iV (g.length:Int),iV (d.length:Int),m.v,D.v,a0.v]) b O_89 e0 e0 rfl rfl rfl rfl) fun w b=>Dz [] [] (Rn QSn (c3 _ _ ⟨_,_,K,R,S,c,T,U,V,W,X,Z,G,((b.pk 9 [5,5,5,5,2,1,0] rfl).facts (allT (allT allI)))⟩))
    rintro f w ⟨c1,c2,m7,m8,m9,n0,n1,n2,n3,n4,n5,n6,n7,b⟩
    exact e6 _ _ _ _ _ _ m7 m8 m9 n0 n1 n2 n3 n4 n5 n6 n7 b j
   exact wp_skip (e6 _ _ _ _ _ _ K R S c T U V W X Z G (b.facts (allT (allT allI))) j)
  refine wp_exit (j8 _ _ _ rfl ?_)
  cases j
  refine j5 _ _ _ _ rfl rfl ?_
  obtain rfl:=j3 _ rfl
  refine j0 _ _ _ (i8 _ _ (wR (yY (yFb FL_91_2 (eh c)) (yY (lb_ m.v O_22 e0 b R6) (yY (yFb FL_91_3 (eh c)) (yY (lb_ y.v O_22 e0 b R6) (yY (yLen SL_22 e0 b rO4) (yH (rLt (n:=1) (l:=[(J.length:Int)]) b SL_22 [iV (J.length:Int)] (bp1 e0) rfl rfl (mks1 (cs:=[iV (J.length:Int)]) rfl mkI mks0)) fun t0 w b=>bE r fun t1 n8 r=>yH (rAp (b.pk 5 [4,0,0,0,0] rfl) SL_22 e0 e0 rO1 n8) fun n9 w b=>yY (yFb FL_91_2 (eh c)) ?_))))))))
  refine yT (r_stb1 (vals':=[iV (g.length:Int),iV (d.length:Int),n9.v,y.v,p.v]) (b.pk 8 [7,0,0,0,0,0,0,0] rfl) O_22 e0 e0 rfl rfl rfl rfl) fun w b=>wN (i6 _ _ _ (i5 _ _ (wR (yY (yadd (eh W) rfl) (Ym (iV (wa .i64 F 1)) e0 (wN ?_))))))
  cases r
  exact h8 _ _ _ rfl ⟨_,_,_,_,_,_,_,_,rfl,rfl,K,R,S,c,U,V,rfl,(b.pk 8 [3,3,3,1,2,2,0] rfl)⟩
 refine wp_exit (i3 _ _ _ rfl ?_)
 cases r
 refine i0 _ _ _ _ rfl rfl ?_
 obtain rfl:=h6 _ rfl
 refine h3 _ _ _ (h0 _ _ (sR fun _ o0=>yY (yFb FL_26_0 (eh d6)) (yY (lb_ q.v O_24 e0 b R0) (yY (yLen SL_24 e0 b (rdI N)) (bE h fun t2 o1 h=>yH (rMk b SL_93 e0 o1) fun t w b=>Ya t.v e0 (wK o0 (sQ fun _ o2=>?_)))))))
 refine wR (yY (lbs_ [iV (g.length:Int),iV (d.length:Int),m.v,a5.v,a6.v] ST_91 (eh d8) b R7) (bE h fun z o3 h=>?_))
 replace b:=(((((b.pk 5 [4,0,0,0,0] rfl).fz).pk 5 [4,0,0,0,0] rfl).fz).pk 5 [4,0,0,0,0] rfl).fz
 refine yC (yCall FN_104 (a1 e0)) (matching_Cover_ok o3 F2 F1 F0 b) ?_
 rintro _ w ⟨E,A,rfl,b⟩
 refine ⟨_,rfl,?_⟩
 refine Ym (.tuple #[.agg #[E.v,A.v],iV z.2.2]) e0 (yY (x_ (.agg #[E.v,A.v]) e0) (yY (x_ (iV z.2.2) e0) (yBb (rAl b ZT_86) fun e8 w b=>yT (r_stbn (vals':=[E.v,A.v]) (us:=[E.v,A.v]) b ST_86 e0 e0 rfl rfl (one_of rfl) rfl) fun w b=>Ya (iV z.2.2) e0 (wK o2 (seqQ fun t3 o4 o5=>sR fun _ o6=>Ym (iV z.2.2) e0 ?_)))))
 refine yY (yneq e0 rfl) (wK o6 ?_)
 rcases iteS h with ⟨c4,h⟩ | ⟨c4,h⟩
 ·refine condF e0 (nF (dT c4)) (wp_skip (o4 _ _ (sQ fun _ o7=>sR fun _ o8=>yY (yFb FL_86_0 e0) (yY (lb_ E.v O_22 e0 b R0) (yY (yLen SL_22 e0 b rO1) (Ym (iV 0) rfl (wK o8 (blockQ fun _ o9=>bE h fun t4 p0 h=>?_))))))))
  refine loopQ (fun s a w=>∃ (c5:List Bool) (a7:Int) (f:FV),(c5,a7)=s∧a=fr 119 f∧f 5=k.v∧f 6=i.v∧f 14=t.v∧f 15=(pB e8)∧f 91=E.v∧f 92=iV (z.1.length:Int)∧f 93=iV a7∧St w0 ros (row 3 I1 k.v g::row 3 I1 i.v d::row 4 rB t.v c5::row 3 I1 E.v z.1::row 3 I1 A.v z.2.1::box e8 86 [E.v,A.v]::rs) w) p0 ⟨_,_,_,rfl,rfl,b1,d7,rfl,rfl,rfl,rfl,rfl,((b.pk 8 [5,5,3,1,1,0] rfl).facts (allT (allT (allT allI))))⟩ ?_
  rintro _ _ w t5 ⟨c5,a7,f,rfl,rfl,e9,f0,c6,f1,f2,f3,c7,b⟩ u p1 t6 p2 p3
  refine sR fun _ p4=>yY (ylss (eh c7) (eh f3)) (wK p4 (seqQ fun t7 p5 p6=>?_))
  refine cIf e0 u (fun p7 u=>?_) fun p7 u=>?_
  ·refine wp_skip (p5 _ _ (sQ fun _ p8=>blockQ fun _ p9=>sR fun _ q0=>bE u fun f4 f5 u=>yY (yIa SL_22 (eh f2) (eh c7) b rO3 f5) (yY (yI O_3 e0 b rO3 f5) (Ya (iV f4) e0 (wK q0 (wR (Ym t.v (eh c6) ?_)))))))
   refine Ym k.v (eh e9) (Ym (iV f4) e0 (bE u fun t8 f6 u=>yY (yIa SL_22 e0 e0 b rO0 f6) (yY (yI O_3 e0 b rO0 f6) (bE u fun t9 f7 u=>yY (yIs SL_93 e0 e0 b rO2 f7) (yT (r_sti (cs:=[.bool true]) (b.pk 3 [2,0,0] rfl) O_4 rfl e0 rfl rfl mkB f7) fun w b=>wN (p9 _ _ _ (p8 _ _ (wR (yY (yadd (eh c7) rfl) ?_)))))))))
   refine Ym (iV (wa .i64 a7 1)) e0 (wN ?_)
   cases u
   exact p2 _ _ _ rfl ⟨_,_,_,rfl,rfl,e9,f0,c6,f1,f2,f3,rfl,(b.pk 6 [1,1,0,0,0,0] rfl)⟩
  refine wp_exit (p6 _ _ _ rfl ?_)
  cases u
  refine p3 _ _ _ _ rfl rfl ?_
  obtain rfl:=p1 _ rfl
  refine o9 _ _ _ (o7 _ _ (sQ fun _ q3=>sR fun _ q4=>yY (yFb FL_86_1 (eh f1)) (yY (lb_ A.v O_22 e0 b R5) (yY (yLen SL_22 e0 b rO4) (Ym (iV 0) rfl (wK q4 (blockQ fun _ q5=>bE h fun u0 q6 h=>?_)))))))
  refine loopQ (fun s a w=>∃ (c8:List Bool) (a8:Int) (f:FV),(c8,a8)=s∧a=fr 119 f∧f 6=i.v∧f 14=t.v∧f 105=A.v∧f 106=iV (z.2.1.length:Int)∧f 107=iV a8∧St w0 ros (row 3 I1 i.v d::row 4 rB t.v c8::row 3 I1 A.v z.2.1::rs) w) q6 ⟨_,_,_,rfl,rfl,f0,c6,rfl,rfl,rfl,(b.pk 6 [1,1,2] rfl)⟩ ?_
  rintro _ _ w u1 ⟨c8,a8,f,rfl,rfl,f8,c9,f9,g0,d0,b⟩ x q7 u2 q8 q9
  refine sR fun _ r0=>yY (ylss (eh d0) (eh g0)) (wK r0 (seqQ fun u3 r1 r2=>?_))
  refine cIf e0 x (fun r3 x=>?_) fun r3 x=>?_
  ·refine wp_skip (r1 _ _ (sQ fun _ r4=>blockQ fun _ r5=>sR fun _ r7=>bE x fun g1 g2 x=>yY (yIa SL_22 (eh f9) (eh d0) b rO2 g2) (yY (yI O_3 e0 b rO2 g2) (Ya (iV g1) e0 (wK r7 (wR (Ym t.v (eh c9) ?_)))))))
   refine Ym i.v (eh f8) (Ym (iV g1) e0 (bE x fun u4 g3 x=>yY (yIa SL_22 e0 e0 b rO0 g3) (yY (yI O_3 e0 b rO0 g3) (bE x fun u5 g4 x=>yY (yIs SL_93 e0 e0 b rO1 g4) (yT (r_sti (cs:=[.bool true]) (b.pk 2 [1,0] rfl) O_4 rfl e0 rfl rfl mkB g4) fun w b=>wN (r5 _ _ _ (r4 _ _ (wR (yY (yadd (eh d0) rfl) ?_)))))))))
   refine Ym (iV (wa .i64 a8 1)) e0 (wN ?_)
   cases x
   exact q8 _ _ _ rfl ⟨_,_,_,rfl,rfl,f8,c9,f9,g0,rfl,(b.pk 3 [1,0,0] rfl)⟩
  refine wp_exit (r2 _ _ _ rfl ?_)
  cases x
  refine q9 _ _ _ _ rfl rfl ?_
  obtain rfl:=q7 _ rfl
  refine q5 _ _ _ (q3 _ _ (sR fun _ r9=>Ym t.v (eh c9) (Ya t.v e0 (wK r9 (wp_ret ?_)))))
  cases h
  exact d5 _ _ _ (fin1r Tryz.results86 ⟨rfl,rfl⟩ ⟨_,rfl,(b.pk 3 [1] rfl)⟩)
 refine condT e0 (nT (dF c4)) (sR fun _ s0=>Ym t.v e0 (Ya t.v e0 (wK s0 (wp_ret (o5 _ _ _ rfl ?_)))))
 cases h
 exact d5 _ _ _ (fin1r Tryz.results86 ⟨rfl,rfl⟩ ⟨_,rfl,((b.pk 8 [3] rfl).facts (allT (allT (allT allI))))⟩)
theorem dissect_separate_ok {u:L2} {p:Hdr} {out:LI×LI×LI} (g:dissect_separate u=some out) (D:imm S1 p.v u∈ros) (b:St w0 ros rs w):
  Calls Tryz.prog 56 #[.agg #[p.v]] w (fun e w=>∃ (U V W:Hdr),e=.returned (.agg #[U.v,V.v,W.v])∧St w0 ros (row 3 I1 U.v out.1::row 3 I1 V.v out.2.1::row 3 I1 W.v out.2.2::rs) w):=by
 refine enterQ Tryz.func56 rfl Tryz.ntmps56 rfl fun Q a6=>sR fun _ a7=>yBb (r_box (vals:=[p.v]) b e0 rfl) fun f7 w b=>yBb (rAl b ZT_46) fun q w b=>wK a7 (sR fun _ a8=>yY (lbs_ [p.v] ST_26 e0 b R1) (bE g fun f8 a9 g=>yC (yCall FN_85 (a1 e0)) (dissect_units_ok a9 D b) ?_))
 rintro _ w ⟨f9,g0,g1,rfl,b⟩
 refine ⟨_,rfl,?_⟩
 refine bE g fun r b0 g=>?_
 replace b:=b.fz.fz
 refine yC (yCall FN_43 (a1 e0)) (dissect_bisect_ok b0 F2 F1 F0 b) ?_
 rintro _ w ⟨h,rfl,b⟩
 refine ⟨_,rfl,?_⟩
 refine Ym (.tuple #[h.v,.bool r.2]) e0 (yY (x_ h.v e0) (yY (x_ (.bool r.2) e0) (Ya h.v e0 (Ya (.bool r.2) e0 (wK a8 (sR fun _ b1=>yY (lbs_ [p.v] ST_26 e0 b R2) (Ym h.v e0 (bE g fun E b2 g=>?_))))))))
 replace b:=b.fz
 refine yC (yCall FN_86 (a2 e0 e0)) (dissect_cover_ok b2 (F_4 D) F0 b) ?_
 rintro _ w ⟨o,rfl,b⟩
 refine ⟨_,rfl,?_⟩
 refine Ya o.v e0 (wK b1 (sR fun _ b5=>yBb (rAl b ZT_46) fun t w b=>wK b5 (sQ fun _ b6=>sR fun _ b7=>yY (yFb FL_26_0 e0) (yY (lb_ p.v O_24 e0 b R3) ?_))))
 refine yY (yLen SL_24 e0 b (rdI (F_4 D))) (Ym (iV 0) rfl (wK b7 (blockQ fun _ b8=>bE g fun g2 b9 g=>?_)))
 replace b:=((b.rowNh 3 I1).rowNh 3 I1).rowNh 3 I1
 refine loopQ (fun s a w=>∃ (F G x:LI) (c:Int) (f:FV) (k m i:Hdr),(F,G,x,c)=s∧a=fr 54 f∧f 2=(pB q)∧f 3=h.v∧f 5=o.v∧f 6=(pB t)∧f 19=iV (u.length:Int)∧f 20=iV c∧St w0 (imm I1 h.v r.1::ros) (box q 46 [hnil.v,hnil.v,hnil.v]::row 4 rB o.v E::row 3 I1 k.v F::row 3 I1 m.v G::row 3 I1 i.v x::box t 46 [k.v,m.v,i.v]::rs) w) b9 ⟨_,_,_,_,_,_,_,_,rfl,rfl,rfl,rfl,rfl,rfl,rfl,rfl,((b.pk 7 [5,4,2,1,0,0] rfl).facts (allC F0 (allT (allT (allT (allT allI))))))⟩ ?_
 rintro _ _ w X ⟨F,G,x,c,f,k,m,i,rfl,rfl,y,A,B,j,C,z,b⟩ d c0 g3 c1 c2
 refine sR fun _ c3=>yY (ylss (eh z) (eh C)) (wK c3 (seqQ fun g4 c4 c5=>?_))
 refine cIf e0 d (fun c6 d=>?_) fun c6 d=>?_
 ·refine wp_skip (c4 _ _ (sQ fun _ c7=>blockQ fun _ c8=>sR fun _ c9=>Ym (iV c) (eh z) (Ya (iV c) e0 (wK c9 (blockQ fun Z d0=>sR fun _ d1=>Ym o.v (eh B) ?_)))))
  refine Ym (iV c) e0 (bE d fun d2 a0 d=>yY (yIa SL_93 e0 e0 b rO1 a0) (yY (yB O_4 e0 b rO1 a0) (Ya (.bool d2) e0 (wK d1 ?_))))
  have a3:∀ (H I J:LI) (K L N:Hdr) (f:FV) w,f 2=(pB q)→f 3=h.v→f 5=o.v→f 6=(pB t)→f 19=iV (u.length:Int)→f 20=iV c→St w0 (imm I1 h.v r.1::ros) (box q 46 [hnil.v,hnil.v,hnil.v]::row 4 rB o.v E::row 3 I1 K.v H::row 3 I1 L.v I::row 3 I1 N.v J::box t 46 [K.v,L.v,N.v]::rs) w→dissect_separate_j9 c H I J=some X→Z .normal (fr 54 f) w:=by
   intro H I J K L N f w d3 d4 d5 d6 d7 d8 b g
   refine d0 _ _ _ (c8 _ _ _ (c7 _ _ (wR (yY (yadd (eh d8) rfl) (Ym (iV (wa .i64 c 1)) e0 (wN ?_))))))
   cases g
   exact c1 _ _ _ rfl ⟨_,_,_,_,_,_,_,_,rfl,rfl,d3,d4,d5,d6,d7,rfl,b⟩
  refine cB e0 d (fun d9 d=>?_) fun d9 d=>?_
  ·exact wR (yY (yFb FL_46_2 (eh j)) (yY (lb_ i.v O_22 e0 b R5) (Ym (iV c) e0 (yH (rLt (n:=1) (l:=[c]) b SL_22 [iV c] (bp1 e0) rfl rfl (mks1 (cs:=[iV c]) rfl mkI mks0)) fun g5 w b=>bE d fun g6 e1 d=>yH (rAp (b.pk 6 [5,0,0,0,0,0] rfl) SL_22 e0 e0 rO1 e1) fun e2 w b=>yY (yFb FL_46_2 (eh j)) (yT (r_stb1 (vals':=[k.v,m.v,e2.v]) (b.pk 7 [6,0,0,0,0,0,0] rfl) O_22 e0 e0 rfl rfl rfl rfl) fun w b=>wN (a3 _ _ _ _ _ _ _ _ y A B j C z (b.pk 7 [3,3,3,3,1,0] rfl) d))))))
  refine sR fun _ e3=>Ym h.v (eh A) (Ym (iV c) e0 (bE d fun e4 a4 d=>yY (yIa SL_22 e0 e0 b (rdI F0) a4) (yY (yI O_3 e0 b (rdI F0) a4) (yY (yeql e0 rfl) (Ya (.bool (decide (e4=0))) e0 (wK e3 ?_))))))
  have a5:∀ (O R:LI) (S T:Hdr) (f:FV) w,f 2=(pB q)→f 3=h.v→f 5=o.v→f 6=(pB t)→f 19=iV (u.length:Int)→f 20=iV c→St w0 (imm I1 h.v r.1::ros) (box q 46 [hnil.v,hnil.v,hnil.v]::row 4 rB o.v E::row 3 I1 S.v O::row 3 I1 T.v R::row 3 I1 i.v x::box t 46 [S.v,T.v,i.v]::rs) w→dissect_separate_j10 c x O R=some X→Z .normal (fr 54 f) w:=by
   intro O R S T f w e5 e6 e7 e8 e9 f0 b g
   exact a3 _ _ _ _ _ _ _ _ e5 e6 e7 e8 e9 f0 b g
  refine cIf e0 d (fun f1 d=>?_) fun f1 d=>?_
  ·exact wR (yY (yFb FL_46_0 (eh j)) (yY (lb_ k.v O_22 e0 b R5) (Ym (iV c) e0 (yH (rLt (n:=1) (l:=[c]) b SL_22 [iV c] (bp1 e0) rfl rfl (mks1 (cs:=[iV c]) rfl mkI mks0)) fun g7 w b=>bE d fun g8 f2 d=>yH (rAp (b.pk 4 [3,0,0,0] rfl) SL_22 e0 e0 rO1 f2) fun f3 w b=>yY (yFb FL_46_0 (eh j)) (yT (r_stb1 (vals':=[f3.v,m.v,i.v]) (b.pk 7 [6,0,0,0,0,0,0] rfl) O_22 e0 e0 rfl rfl rfl rfl) fun w b=>wN (a5 _ _ _ _ _ _ y A B j C z (b.pk 7 [3,3,1,2,2,0] rfl) d))))))
  exact wR (yY (yFb FL_46_1 (eh j)) (yY (lb_ m.v O_22 e0 b R5) (Ym (iV c) e0 (yH (rLt (n:=1) (l:=[c]) b SL_22 [iV c] (bp1 e0) rfl rfl (mks1 (cs:=[iV c]) rfl mkI mks0)) fun g9 w b=>bE d fun h0 f4 d=>yH (rAp (b.pk 5 [4,0,0,0,0] rfl) SL_22 e0 e0 rO1 f4) fun f5 w b=>yY (yFb FL_46_1 (eh j)) (yT (r_stb1 (vals':=[k.v,f5.v,i.v]) (b.pk 7 [6,0,0,0,0,0,0] rfl) O_22 e0 e0 rfl rfl rfl rfl) fun w b=>wN (a5 _ _ _ _ _ _ y A B j C z (b.pk 7 [3,3,3,1,2,0] rfl) d))))))
 refine wp_exit (c5 _ _ _ rfl ?_)
 cases d
 refine c2 _ _ _ _ rfl rfl ?_
 obtain rfl:=c0 _ rfl
 refine b8 _ _ _ (b6 _ _ (sR fun _ f6=>yY (lbs_ [k.v,m.v,i.v] ST_46 (eh j) b R5) (yT (r_stbn (vals':=[k.v,m.v,i.v]) (us:=[k.v,m.v,i.v]) b ST_46 (eh y) e0 rfl rfl (one_of rfl) rfl) fun w b=>wK f6 (wp_ret ?_))))
 cases g
 exact a6 _ _ _ (fin1r Tryz.results56 (rcs2 rfl y b R0 ST_46 rfl) ⟨_,_,_,rfl,((b.pk 6 [2,2,2] rfl).facts (allT allI))⟩)
theorem dissect_Separate_ok {g:L2} {c:Hdr} {out:LI×LI×LI×Int} (b:dissect_Separate g=some out) (h:imm S1 c.v g∈ros) (a:St w0 ros rs w):
  Calls Tryz.prog 27 #[.agg #[c.v]] w (fun e w=>∃ (i j k:Hdr),e=.returned (.tuple #[.agg #[i.v,j.v,k.v],iV out.2.2.2])∧St w0 ros (row 3 I1 i.v out.1::row 3 I1 j.v out.2.1::row 3 I1 k.v out.2.2.1::rs) w):=by
 refine enterQ Tryz.func27 rfl Tryz.ntmps27 rfl fun Q l=>sR fun _ p=>yBb (r_box (vals:=[c.v]) a e0 rfl) fun A w a=>yBb (rAl a ZT_46) fun B w a=>Ya (iV 0) rfl (wK p (sR fun _ q=>yY (lbs_ [c.v] ST_26 e0 a R1) (bE b fun d r b=>?_)))
 refine yC (yCall FN_51 (a1 e0)) (graph_Check_ok r h a) ?_
 rintro _ w ⟨rfl,a⟩
 refine ⟨_,rfl,?_⟩
 refine Ya (iV d) e0 (wK q (seqQ fun C s t=>sR fun _ u=>Ym (iV d) e0 (yY (yneq e0 rfl) (wK u ?_))))
 rcases iteS b with ⟨f,b⟩ | ⟨f,b⟩
 ·refine condF e0 (nF (dT f)) (wp_skip (s _ _ (sR fun _ x=>yY (lbs_ [c.v] ST_26 e0 a R1) (bE b fun D y b=>yC (yCall FN_56 (a1 e0)) (dissect_separate_ok y h a) ?_))))
  rintro _ w ⟨m,n,o,rfl,a⟩
  refine ⟨_,rfl,?_⟩
  refine yT (r_stbn (vals':=[m.v,n.v,o.v]) (us:=[m.v,n.v,o.v]) (a.pk 4 [3,0,0,0] rfl) ST_46 e0 e0 rfl rfl (one_of rfl) rfl) fun w a=>Ya (iV 0) rfl (wK x (wp_ret ?_))
  cases b
  exact l _ _ _ (fin2r Tryz.results27 (rcs2 rfl rfl a R0 ST_46 rfl) ⟨rfl,rfl⟩ ⟨_,_,_,rfl,(a.pk 5 [1,1,1] rfl)⟩)
 refine condT e0 (nT (dF f)) (sR fun _ z=>yY (ybuild (us:=[hnil.v,hnil.v,hnil.v]) [] SO_46 bp0 rfl) (Ym (iV d) e0 (yT (r_stbn (vals':=[hnil.v,hnil.v,hnil.v]) (us:=[hnil.v,hnil.v,hnil.v]) a ST_46 e0 e0 rfl rfl (one_of rfl) rfl) fun w a=>Ya (iV d) e0 (wK z (wp_ret (t _ _ _ rfl ?_))))))
 cases b
 replace a:=((a.rowNh 3 I1).rowNh 3 I1).rowNh 3 I1
 exact l _ _ _ (fin2r Tryz.results27 (rcs2 rfl rfl a R3 ST_46 rfl) ⟨rfl,rfl⟩ ⟨_,_,_,rfl,(a.pk 5 [2,1,0] rfl)⟩)
theorem sparsekit_Ints_ok {q r:LI} {h i:Hdr} {out:Bool} (d:sparsekit_Ints q r=some out) (j:imm I1 h.v q∈ros) (l:imm I1 i.v r∈ros) (b:St w0 ros rs w):
  Calls Tryz.prog 13 #[h.v,i.v] w (fun e w=>e=.returned (.bool out)∧St w0 ros rs w):=by
 refine enterQ Tryz.func13 rfl Tryz.ntmps13 rfl fun Q m=>sR fun _ C=>Ya (.bool false) rfl (wK C (seqQ fun Z D E=>sR fun _ F=>Ym h.v e0 (yY (yLen SL_22 e0 b (rdI j)) (Ym i.v e0 (yY (yLen SL_22 e0 b (rdI l)) (yY (yneq e0 e0) ?_))))))
 refine wK F ?_
 rcases iteS d with ⟨n,d⟩ | ⟨n,d⟩
 ·refine condF e0 (nF (dT n)) (wp_skip (D _ _ (seqQ fun a0 G H=>sR fun _ I=>Ya (iV 0) rfl (wK I (blockQ fun _ t=>bE d fun a1 J d=>?_)))))
  refine loopQ (fun s a w=>∃ (g:Int) (f:FV),g=s∧a=fr 26 f∧f 0=h.v∧f 1=i.v∧f 5=iV g∧St w0 ros rs w) J ⟨_,_,rfl,rfl,rfl,rfl,rfl,b⟩ ?_
  rintro _ _ w a2 ⟨g,f,rfl,rfl,o,u,k,b⟩ c x a3 K y
  refine seqQ fun a4 L N=>sR fun _ O=>Ym (iV g) (eh k) (Ym h.v (eh o) (yY (yLen SL_22 e0 b (rdI j)) (yY (ylss e0 e0) (wK O ?_))))
  refine cIf e0 c (fun R c=>?_) fun R c=>?_
  ·refine wp_skip (L _ _ (seqQ fun a5 S T=>blockQ fun _ z=>sQ fun _ U=>bE c fun a6 A c=>bE c fun a7 B c=>dR [0,0,3,7,0,0,48,112,255] [] 0 folM ?_))
   replace b:=b.drew
   refine Dz [0,1,2,3,4,5,6,7,8] [] (yR rfl (m_ h.v (eh o)) (yR rfl (m_ (iV g) (eh k)) (yR rfl (yIa SL_22 e0 e0 b (rdI j) A) (yR rfl (yI O_3 e0 b (rdI j) A) (yR rfl (m_ i.v (eh u)) (yR rfl (m_ (iV g) (eh k)) (yR rfl (yIa SL_22 e0 e0 b (rdI l) B) (yR rfl (yI O_3 e0 b (rdI l) B) (yR rfl (yneq e0 e0) (Rn QSn (U _ _ ?_)))))))))))
   rcases iteS c with ⟨p,c⟩ | ⟨p,c⟩
   ·refine condF e0 (nF (dT p)) (wp_skip (z _ _ _ (S _ _ (wR (Ym (iV g) (eh k) (yY (yadd e0 rfl) (Ya (iV (wa .i64 g 1)) e0 (wN ?_))))))))
    cases c
    exact K _ _ _ rfl ⟨_,_,rfl,rfl,o,u,rfl,b⟩
   refine condT e0 (nT (dF p)) (sR fun _ V=>Ya (.bool false) rfl (wK V (wp_ret (z _ _ _ (T _ _ _ rfl ?_)))))
   cases c
   refine y _ _ _ _ rfl rfl ?_
   obtain rfl:=x _ rfl
   refine t _ _ _ (H _ _ _ rfl ?_)
   cases d
   exact m _ _ _ (fin1r Tryz.results13 ⟨rfl,rfl⟩ ⟨rfl,b⟩)
  refine wp_exit (N _ _ _ rfl ?_)
  cases c
  refine y _ _ _ _ rfl rfl ?_
  obtain rfl:=x _ rfl
  refine t _ _ _ (G _ _ (sR fun _ W=>Ya (.bool true) rfl (wK W (wp_ret ?_))))
  cases d
  exact m _ _ _ (fin1r Tryz.results13 ⟨rfl,rfl⟩ ⟨rfl,b⟩)
 refine condT e0 (nT (dF n)) (sR fun _ X=>Ya (.bool false) rfl (wK X (wp_ret (E _ _ _ rfl ?_))))
 cases d
 exact m _ _ _ (fin1r Tryz.results13 ⟨rfl,rfl⟩ ⟨rfl,b⟩)
theorem sparsekit_Split_ok {o p q r s t:LI} {i j k l m n:Hdr} {out:Bool} (d:sparsekit_Split o p q r s t=some out) (C:imm I1 i.v o∈ros) (D:imm I1 j.v p∈ros) (E:imm I1 k.v q∈ros) (F:imm I1 l.v r∈ros) (G:imm I1 m.v s∈ros) (H:imm I1 n.v t∈ros) (a:St w0 ros rs w):
  Calls Tryz.prog 31 #[.agg #[i.v,j.v,k.v],.agg #[l.v,m.v,n.v]] w (fun e w=>e=.returned (.bool out)∧St w0 ros rs w):=by
 refine enterQ Tryz.func31 rfl Tryz.ntmps31 rfl fun Q I=>sR fun _ J=>yBb (r_box (vals:=[i.v,j.v,k.v]) a e0 rfl) fun u w a=>yBb (r_box (vals:=[l.v,m.v,n.v]) a e0 rfl) fun x w a=>Ya (.bool false) rfl (wK J (sR fun _ K=>yY (yFb FL_46_0 e0) (yY (lb_ i.v O_22 e0 a R1) ?_)))
 refine yY (yFb FL_46_0 e0) (yY (lb_ l.v O_22 e0 a R0) (bE d fun L N d=>yC (yCall FN_13 (a2 e0 e0)) (sparsekit_Ints_ok N C F a) ?_))
 rintro _ w ⟨rfl,a⟩
 refine ⟨_,rfl,?_⟩
 refine Ym (.bool L) e0 (bE d fun y g d=>?_)
 refine joinW 6 (fun f w=>f 2=(pB u)∧f 3=(pB x)∧f 16=.bool y∧St w0 ros (box u 46 [i.v,j.v,k.v]::box x 46 [l.v,m.v,n.v]::rs) w) (fun z=>?_) ?_
 ·rcases iteS g with ⟨b,g⟩ | ⟨b,g⟩
  ·refine yG b (yFb FL_46_1 e0) (yG b (lb_ j.v O_22 e0 a R1) (yG b (yFb FL_46_1 e0) (yG b (lb_ m.v O_22 e0 a R0) (bE g fun O R g=>Yc (wG b) rfl (yCall FN_13 (a2 e0 e0)) (sparsekit_Ints_ok R D G a) ?_))))
   rintro _ w ⟨rfl,a⟩
   refine ⟨_,rfl,?_⟩
   refine yY (pt_ (.bool O) e0 b e0) ?_
   cases g
   exact z _ _ ⟨rfl,rfl,rfl,(a.pk 2 [1,0] rfl)⟩
  refine gN (bfalse b) (gN (bfalse b) (gN (bfalse b) (gN (bfalse b) (gN (bfalse b) (yY (pf_ (.bool false) e0 (bfalse b) rfl) ?_)))))
  cases g
  exact z _ _ ⟨rfl,rfl,rfl,(a.pk 2 [1,0] rfl)⟩
 rintro f w ⟨S,T,U,a⟩
 refine Ym (.bool y) (eh U) (bE d fun A h d=>?_)
 refine joinW 6 (fun f w=>f 23=.bool A∧St w0 ros rs w) (fun B=>?_) ?_
 ·rcases iteS h with ⟨c,h⟩ | ⟨c,h⟩
  ·refine yG c (yFb FL_46_2 (eh S)) (yG c (lb_ k.v O_22 e0 a R0) (yG c (yFb FL_46_2 (eh T)) (yG c (lb_ n.v O_22 e0 a R1) (bE h fun V W h=>Yc (wG c) rfl (yCall FN_13 (a2 e0 e0)) (sparsekit_Ints_ok W E H a) ?_))))
   rintro _ w ⟨rfl,a⟩
   refine ⟨_,rfl,?_⟩
   refine yY (pt_ (.bool V) e0 c e0) ?_
   cases h
   exact B _ _ ⟨rfl,(a.pk 2 [] rfl)⟩
  refine gN (bfalse c) (gN (bfalse c) (gN (bfalse c) (gN (bfalse c) (gN (bfalse c) (yY (pf_ (.bool false) e0 (bfalse c) rfl) ?_)))))
  cases h
  exact B _ _ ⟨rfl,(a.pk 2 [] rfl)⟩
 rintro f w ⟨X,a⟩
 refine Ya (.bool A) (eh X) (wK K (wp_ret ?_))
 cases d
 exact I _ _ _ (fin1r Tryz.results31 ⟨rfl,rfl⟩ ⟨rfl,a⟩)
theorem dissect_parts_ok {h:Int} {u:L2} {q:Hdr} {out:LI×Bool} (x:dissect_parts h u=some out) (F:imm S1 q.v u∈ros) (b:St w0 ros rs w):
  Calls Tryz.prog 65 #[iV h,q.v] w (fun e w=>∃ (T:Hdr),e=.returned (.tuple #[T.v,.bool out.2])∧St w0 ros (row 3 I1 T.v out.1::rs) w):=by
 refine enterQ Tryz.func65 rfl Tryz.ntmps65 rfl fun Q U=>sR fun _ c9=>Ya hnil.v rfl (Ya (.bool false) rfl (wK c9 (sR fun _ d0=>yH (rLt (n:=1) (l:=[(-1)]) b SL_22 [iV (-1)] (bp1 rfl) rfl rfl (mks1 (cs:=[iV (-1)]) rfl mkI mks0)) fun i0 w b=>Ym (iV h) e0 (bE x fun i1 d1 x=>?_))))
 replace b:=b.fz
 refine yC (yCall FN_72 (a2 e0 e0)) (slices_Repeat_int_ok d1 F0 b) ?_
 rintro _ w ⟨i,rfl,b⟩
 refine ⟨_,rfl,?_⟩
 refine Ya i.v e0 (wK d0 (sR fun _ d2=>Ya (iV 0) rfl (wK d2 (seqQ fun i2 d3 d4=>sR fun _ d5=>Ym q.v e0 (yY (yLen SL_24 e0 b (rdI (mtF F))) (Ym (iV 0) rfl ?_))))))
 refine wK d5 (blockQ fun _ V=>bE x fun i3 d6 x=>?_)
 refine loopQ (fun s a w=>∃ (G:LI) (A g:Int) (f:FV),(G,A,g)=s∧a=fr 57 f∧f 0=iV h∧f 6=i.v∧f 7=iV A∧f 16=q.v∧f 17=iV (u.length:Int)∧f 18=iV g∧St w0 ros (row 3 I1 i.v G::rs) w) d6 ⟨_,_,_,_,rfl,rfl,rfl,rfl,rfl,rfl,rfl,rfl,(b.facts (allT allI))⟩ ?_
 rintro _ _ w i4 ⟨G,A,g,f,rfl,rfl,W,X,Z,a0,a1,C,b⟩ m a3 i5 d7 a4
 refine sR fun _ d8=>yY (ylss (eh C) (eh a1)) (wK d8 (seqQ fun i6 d9 e1=>?_))
 refine cIf e0 m (fun e2 m=>?_) fun e2 m=>?_
 ·refine wp_skip (d9 _ _ (seqQ fun i7 e3 e4=>blockQ fun _ a5=>sR fun _ e5=>Ym (iV g) (eh C) (bE m fun y a6 m=>yY (yIa SL_24 (eh a0) (eh C) b (rdI F) a6) ?_)))
  obtain ⟨o,b⟩:=iLs b F a6
  refine yY (yCt O_22 e0 b F1 rfl) (Ya (iV g) e0 (Ya o.v e0 (wK e5 (sR fun _ e6=>Ya (iV (-1)) rfl (wK e6 (sR fun _ e7=>Ym o.v e0 (yY (yLen SL_22 e0 b (rdI F0)) ?_)))))))
  refine Ym (iV 0) rfl (wK e7 (blockQ fun _ a7=>bE m fun i8 e8 m=>?_))
  refine loopQ (fun s a w=>∃ (B:LI) (r p z:Int) (f:FV),(B,r,p,z)=s∧a=fr 57 f∧f 0=iV h∧f 6=i.v∧f 7=iV r∧f 8=iV g∧f 10=iV p∧f 16=q.v∧f 17=iV (u.length:Int)∧f 18=iV g∧f 23=o.v∧f 24=iV (y.length:Int)∧f 25=iV z∧St w0 (imm I1 o.v y::ros) (row 3 I1 i.v B::rs) w) e8 ⟨_,_,_,_,_,rfl,rfl,W,X,Z,rfl,rfl,a0,a1,C,rfl,rfl,rfl,(b.facts (allC F0 (allT (allT allI))))⟩ ?_
  rintro _ _ w i9 ⟨B,r,p,z,f,rfl,rfl,D,H,I,a8,e9,J,K,L,N,O,E,b⟩ d a9 j0 f0 b0
  refine sR fun _ f1=>yY (ylss (eh E) (eh O)) (wK f1 (seqQ fun j1 f2 f3=>?_))
  refine cIf e0 d (fun f4 d=>?_) fun f4 d=>?_
  ·refine wp_skip (f2 _ _ (seqQ fun j2 f5 f6=>blockQ fun _ b1=>sR fun _ f7=>bE d fun c b2 d=>yY (yIa SL_22 (eh N) (eh E) b (rdI F0) b2) (yY (yI O_3 e0 b (rdI F0) b2) (Ya (iV c) e0 (wK f7 (seqQ fun j3 f8 f9=>sQ fun _ g0=>?_))))))
   refine wR (Ym (iV c) e0 (Ym (iV p) (eh e9) (yY (yleq e0 e0) (Ym (.bool (decide (c≤p))) e0 ?_))))
   refine joinW 4 (fun f w=>f 0=iV h∧f 6=i.v∧f 7=iV r∧f 8=iV g∧f 12=iV c∧f 16=q.v∧f 17=iV (u.length:Int)∧f 18=iV g∧f 23=o.v∧f 24=iV (y.length:Int)∧f 25=iV z∧f 36=.bool ((decide (c≤p)) || (decide (h≤c)))∧St w0 (imm I1 o.v y::ros) (row 3 I1 i.v B::rs) w) (fun b3=>?_) ?_
   ·rcases Bool.eq_false_or_eq_true (decide (c≤p)) with k | k
    ·exact gN k (gN k (gN k (yY (pt_ (.bool true) e0 k rfl) (b3 _ _ ⟨D,H,I,a8,rfl,J,K,L,N,O,E,(congrArg Value.bool (orT k)),b⟩))))
    exact yG k (m_ (iV c) e0) (yG k (m_ (iV h) (eh D)) (yG k (ygeq e0 e0) (yY (pf_ (.bool (decide (h≤c))) e0 k e0) (b3 _ _ ⟨D,H,I,a8,rfl,J,K,L,N,O,E,(congrArg Value.bool (orF k)),b⟩))))
   rintro f w ⟨b4,R,b5,b6,S,b7,b8,b9,c0,c1,c2,g1,b⟩
   refine Ym (.bool ((decide (c≤p)) || (decide (h≤c)))) (eh g1) (bE d fun g2 t d=>?_)
   refine joinW 6 (fun f w=>f 0=iV h∧f 6=i.v∧f 7=iV r∧f 8=iV g∧f 12=iV c∧f 16=q.v∧f 17=iV (u.length:Int)∧f 18=iV g∧f 23=o.v∧f 24=iV (y.length:Int)∧f 25=iV z∧f 43=.bool g2∧St w0 (imm I1 o.v y::ros) (row 3 I1 i.v B::rs) w) (fun c3=>?_) ?_
   ·rcases iteS t with ⟨j,t⟩ | ⟨j,t⟩
    ·refine gN j (gN j (gN j (gN j (gN j (yY (pt_ (.bool true) e0 j rfl) ?_)))))
     cases t
     exact c3 _ _ ⟨b4,R,b5,b6,S,b7,b8,b9,c0,c1,c2,rfl,b⟩
    refine yG (bfalse j) (m_ i.v (eh R)) (yG (bfalse j) (m_ (iV c) (eh S)) (bE t fun g3 c4 t=>yG (bfalse j) (yIa SL_22 e0 e0 b rO0 c4) (yG (bfalse j) (yI O_3 e0 b rO0 c4) (yG (bfalse j) (yneq e0 rfl) (yY (pf_ (.bool (!(decide (g3=(-1))))) e0 (bfalse j) e0) ?_)))))
    cases t
    exact c3 _ _ ⟨b4,R,b5,b6,S,b7,b8,b9,c0,c1,c2,rfl,b⟩
   rintro f w ⟨g4,c5,g5,c6,c7,g6,g7,g8,g9,h0,h1,h2,b⟩
   refine wK g0 (cB (eh h2) d (fun h5 d=>?_) fun h5 d=>?_)
   ·refine sR fun _ h7=>Ya hnil.v rfl (Ya (.bool false) rfl (wK h7 (wp_ret (f9 _ _ _ rfl (b1 _ _ _ (f6 _ _ _ rfl ?_))))))
    cases d
    refine b0 _ _ _ _ rfl rfl ?_
    obtain rfl:=a9 _ rfl
    refine a7 _ _ _ (a5 _ _ _ (e4 _ _ _ rfl ?_))
    cases m
    refine a4 _ _ _ _ rfl rfl ?_
    obtain rfl:=a3 _ rfl
    refine V _ _ _ (d4 _ _ _ rfl ?_)
    cases x
    replace b:=b.rowNh 3 I1
    exact U _ _ _ (fin2r Tryz.results65 ⟨rfl,rfl⟩ ⟨rfl,rfl⟩ ⟨_,rfl,((b.pk 2 [0] rfl).facts (allT allI))⟩)
   refine wp_skip (f8 _ _ (sR fun _ h8=>Ym i.v (eh c5) (Ym (iV c) (eh c7) (Ym (iV g) (eh c6) (Ym (iV c) (eh c7) (bE d fun j4 c8 d=>yY (yIs SL_22 e0 e0 b rO0 c8) (yT (r_sti (cs:=[iV g]) b O_3 rfl e0 e0 rfl mkI c8) fun w b=>Ya (iV c) e0 (wN ?_))))))))
   refine h8 _ _ (wR (Ym (iV r) (eh g5) (yY (yadd e0 rfl) (Ya (iV (wa .i64 r 1)) e0 (wN (b1 _ _ _ (f5 _ _ (wR (yY (yadd (eh h1) rfl) (Ym (iV (wa .i64 z 1)) e0 (wN ?_)))))))))))
   cases d
   exact f0 _ _ _ rfl ⟨_,_,_,_,_,rfl,rfl,g4,c5,rfl,c6,rfl,g6,g7,g8,g9,h0,rfl,b⟩
  refine wp_exit (f3 _ _ _ rfl ?_)
  cases d
  refine b0 _ _ _ _ rfl rfl ?_
  obtain rfl:=a9 _ rfl
  refine a7 _ _ _ (a5 _ _ _ (e3 _ _ (wR (yY (yadd (eh L) rfl) (Ym (iV (wa .i64 g 1)) e0 (wN ?_))))))
  cases m
  exact d7 _ _ _ rfl ⟨_,_,_,_,rfl,rfl,D,H,I,J,K,rfl,(b.facts (allT allI))⟩
 refine wp_exit (e1 _ _ _ rfl ?_)
 cases m
 refine a4 _ _ _ _ rfl rfl ?_
 obtain rfl:=a3 _ rfl
 refine V _ _ _ (d3 _ _ (sR fun _ h9=>Ym i.v (eh X) (Ym (iV A) (eh Z) (Ym (iV h) (eh W) (yY (yeql e0 e0) (Ya i.v e0 (Ya (.bool (decide (A=h))) e0 (wK h9 (wp_ret ?_)))))))))
 cases x
 exact U _ _ _ (fin2r Tryz.results65 ⟨rfl,rfl⟩ ⟨rfl,rfl⟩ ⟨_,rfl,b⟩)
theorem dissect_Check_ok {u:L2} {F G H:LI} {k p q r:Hdr} {out:Int} (c:dissect_Check u F G H=some out) (x:imm S1 k.v u∈ros) (b2:imm I1 p.v F∈ros) (b3:imm I1 q.v G∈ros) (b4:imm I1 r.v H∈ros) (b:St w0 ros rs w):
  Calls Tryz.prog 32 #[.agg #[k.v],.agg #[p.v,q.v,r.v]] w (fun e w=>e=.returned (iV out)∧St w0 ros rs w):=by
 refine enterQ Tryz.func32 rfl Tryz.ntmps32 rfl fun Q A=>sR fun _ b5=>yBb (r_box (vals:=[k.v]) b e0 rfl) fun g9 w b=>yBb (r_box (vals:=[p.v,q.v,r.v]) b e0 rfl) fun h0 w b=>Ya (iV 0) rfl (wK b5 (sR fun _ b6=>yY (lbs_ [k.v] ST_26 e0 b R1) (bE c fun B b7 c=>?_)))
 refine yC (yCall FN_51 (a1 e0)) (graph_Check_ok b7 x b) ?_
 rintro _ w ⟨rfl,b⟩
 refine ⟨_,rfl,?_⟩
 refine Ya (iV B) e0 (wK b6 (seqQ fun h1 b8 c0=>sR fun _ c1=>Ym (iV B) e0 (yY (yneq e0 rfl) (wK c1 ?_))))
 rcases iteS c with ⟨I,c⟩ | ⟨I,c⟩
 ·refine condF e0 (nF (dT I)) (wp_skip (b8 _ _ (sR fun _ c2=>yY (yFb FL_26_0 e0) (yY (lb_ k.v O_24 e0 b R1) (yY (yLen SL_24 e0 b (rdI x)) (yY (yFb FL_46_0 e0) (yY (lb_ p.v O_22 e0 b R0) (yY (yFb FL_46_1 e0) (yY (lb_ q.v O_22 e0 b R0) (yY (yFb FL_46_2 e0) (yY (lb_ r.v O_22 e0 b R0) ?_)))))))))))
  refine yH (rLt (n:=3) (l:=[F,G,H]) b SL_24 [p.v,q.v,r.v] (bp3 e0 e0 e0) rfl rfl (mks1 (cs:=[p.v]) rfl (mkS b2) (mks1 (cs:=[q.v]) rfl (mkS b3) (mks1 (cs:=[r.v]) rfl (mkS b4) mks0)))) fun h3 w b=>bE c fun m c3 c=>?_
  replace b:=b.fz
  refine yC (yCall FN_65 (a2 e0 e0)) (dissect_parts_ok c3 F0 b) ?_
  rintro _ w ⟨h,rfl,b⟩
  refine ⟨_,rfl,?_⟩
  refine Ym (.tuple #[h.v,.bool m.2]) e0 (yY (x_ h.v e0) (yY (x_ (.bool m.2) e0) (Ya h.v e0 (Ya (.bool m.2) e0 (wK c2 (seqQ fun h5 c4 c5=>sR fun _ c6=>Ym (.bool m.2) e0 (yY (ynot e0) (wK c6 ?_))))))))
  rcases iteS c with ⟨J,c⟩ | ⟨J,c⟩
  ·refine condF e0 (nF J) (wp_skip (c4 _ _ (seqQ fun h7 c7 c8=>sR fun _ c9=>yY (yFb FL_26_0 e0) (yY (lb_ k.v O_24 e0 b R2) (yY (yLen SL_24 e0 b (rdI (mtF x))) (Ym (iV 0) rfl (wK c9 (blockQ fun _ T=>bE c fun h9 d0 c=>?_))))))))
   refine loopQ (fun s a w=>∃ (i:Int) (f:FV),i=s∧a=fr 61 f∧f 6=h.v∧f 34=k.v∧f 35=iV (u.length:Int)∧f 36=iV i∧St w0 ros (row 3 I1 h.v m.1::rs) w) d0 ⟨_,_,rfl,rfl,rfl,rfl,rfl,rfl,((b.pk 3 [0] rfl).facts (allT allI))⟩ ?_
   rintro _ _ w i0 ⟨i,f,rfl,rfl,d1,U,V,C,b⟩ j W i1 d2 X
   refine sR fun _ d3=>yY (ylss (eh C) (eh V)) (wK d3 (seqQ fun i2 d4 d5=>?_))
   refine cIf e0 j (fun d6 j=>?_) fun d6 j=>?_
   ·refine wp_skip (d4 _ _ (seqQ fun i3 d7 d8=>blockQ fun _ Z=>sR fun _ d9=>Ym (iV i) (eh C) (bE j fun D a0 j=>yY (yIa SL_24 (eh U) (eh C) b (rdI x) a0) ?_)))
    obtain ⟨t,b⟩:=iLs b x a0
    refine yY (yCt O_22 e0 b F1 rfl) (Ya (iV i) e0 (Ya t.v e0 (wK d9 (sR fun _ e1=>Ym t.v e0 (yY (yLen SL_22 e0 b (rdI F0)) (Ym (iV 0) rfl (wK e1 (blockQ fun _ a3=>bE j fun i4 e2 j=>?_))))))))
    refine loopQ (fun s a w=>∃ (y:Int) (f:FV),y=s∧a=fr 61 f∧f 6=h.v∧f 8=iV i∧f 34=k.v∧f 35=iV (u.length:Int)∧f 36=iV i∧f 41=t.v∧f 42=iV (D.length:Int)∧f 43=iV y∧St w0 (imm I1 t.v D::ros) (row 3 I1 h.v m.1::rs) w) e2 ⟨_,_,rfl,rfl,d1,rfl,U,V,C,rfl,rfl,rfl,(b.facts (allC F0 (allT (allT allI))))⟩ ?_
    rintro _ _ w i5 ⟨y,f,rfl,rfl,z,K,L,N,O,R,S,E,b⟩ d a4 i6 e3 a5
    refine sR fun _ e4=>yY (ylss (eh E) (eh S)) (wK e4 (seqQ fun i7 e5 e6=>?_))
    refine cIf e0 d (fun e7 d=>?_) fun e7 d=>?_
    ·refine wp_skip (e5 _ _ (seqQ fun i8 e8 e9=>blockQ fun _ a6=>sR fun _ f0=>bE d fun a7 a8 d=>yY (yIa SL_22 (eh R) (eh E) b (rdI F0) a8) (yY (yI O_3 e0 b (rdI F0) a8) (Ya (iV a7) e0 (wK f0 (sR fun _ f1=>?_))))))
     refine Ym h.v (eh z) (Ym (iV i) (eh K) (bE d fun f2 a9 d=>yY (yIa SL_22 e0 e0 b rO0 a9) (yY (yI O_3 e0 b rO0 a9) (yY (yeql e0 rfl) (Ym (.bool (decide (f2=0))) e0 (bE d fun f3 o d=>?_))))))
     refine joinW 6 (fun f w=>f 6=h.v∧f 8=iV i∧f 34=k.v∧f 35=iV (u.length:Int)∧f 36=iV i∧f 41=t.v∧f 42=iV (D.length:Int)∧f 43=iV y∧f 58=.bool f3∧St w0 (imm I1 t.v D::ros) (row 3 I1 h.v m.1::rs) w) (fun b0=>?_) ?_
     ·rcases iteS o with ⟨g,o⟩ | ⟨g,o⟩
      ·refine yG (dT g) (m_ h.v (eh z)) (yG (dT g) (m_ (iV a7) e0) (bE o fun f4 b1 o=>yG (dT g) (yIa SL_22 e0 e0 b rO0 b1) (yG (dT g) (yI O_3 e0 b rO0 b1) (yG (dT g) (yeql e0 rfl) (yY (pt_ (.bool (decide (f4=1))) e0 (dT g) e0) ?_)))))
       cases o
       exact b0 _ _ ⟨z,K,L,N,O,R,S,E,rfl,b⟩
      refine gN (dF g) (gN (dF g) (gN (dF g) (gN (dF g) (gN (dF g) (yY (pf_ (.bool false) e0 (dF g) rfl) ?_)))))
      cases o
      exact b0 _ _ ⟨z,K,L,N,O,R,S,E,rfl,b⟩
     rintro f w ⟨f5,f6,f7,f8,f9,g0,g1,g2,g3,b⟩
     refine wK f1 (cB (eh g3) d (fun g4 d=>?_) fun g4 d=>?_)
     ·refine sR fun _ g5=>Ya (iV 180) rfl (wK g5 (wp_ret (a6 _ _ _ (e9 _ _ _ rfl ?_))))
      cases d
      refine a5 _ _ _ _ rfl rfl ?_
      obtain rfl:=a4 _ rfl
      refine a3 _ _ _ (Z _ _ _ (d8 _ _ _ rfl ?_))
      cases j
      refine X _ _ _ _ rfl rfl ?_
      obtain rfl:=W _ rfl
      refine T _ _ _ (c8 _ _ _ rfl ?_)
      cases c
      exact A _ _ _ (fin1r Tryz.results32 ⟨rfl,rfl⟩ ⟨rfl,((b.pk 1 [] rfl).facts (allT allI))⟩)
     refine wp_skip (a6 _ _ _ (e8 _ _ (wR (yY (yadd (eh g2) rfl) (Ym (iV (wa .i64 y 1)) e0 (wN ?_))))))
     cases d
     exact e3 _ _ _ rfl ⟨_,_,rfl,rfl,f5,f6,f7,f8,f9,g0,g1,rfl,b⟩
    refine wp_exit (e6 _ _ _ rfl ?_)
    cases d
    refine a5 _ _ _ _ rfl rfl ?_
    obtain rfl:=a4 _ rfl
    refine a3 _ _ _ (Z _ _ _ (d7 _ _ (wR (yY (yadd (eh O) rfl) (Ym (iV (wa .i64 i 1)) e0 (wN ?_))))))
    cases j
    exact d2 _ _ _ rfl ⟨_,_,rfl,rfl,z,L,N,rfl,(b.facts (allT allI))⟩
   refine wp_exit (d5 _ _ _ rfl ?_)
   cases j
   refine X _ _ _ _ rfl rfl ?_
   obtain rfl:=W _ rfl
   refine T _ _ _ (c7 _ _ (sR fun _ g6=>Ya (iV 0) rfl (wK g6 (wp_ret ?_))))
   cases c
   exact A _ _ _ (fin1r Tryz.results32 ⟨rfl,rfl⟩ ⟨rfl,(b.pk 1 [] rfl)⟩)
  refine condT e0 (nT (bfalse J)) (sR fun _ g7=>Ya (iV 180) rfl (wK g7 (wp_ret (c5 _ _ _ rfl ?_))))
  cases c
  exact A _ _ _ (fin1r Tryz.results32 ⟨rfl,rfl⟩ ⟨rfl,((b.pk 3 [] rfl).facts (allT allI))⟩)
 refine condT e0 (nT (dF I)) (sR fun _ g8=>Ym (iV B) e0 (Ya (iV B) e0 (wK g8 (wp_ret (c0 _ _ _ rfl ?_)))))
 cases c
 exact A _ _ _ (fin1r Tryz.results32 ⟨rfl,rfl⟩ ⟨rfl,(b.pk 2 [] rfl)⟩)
end Go.Proofs.YthpeajepbffinaaGreat
