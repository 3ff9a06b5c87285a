/- Walks: each function computes its model, printed. -/
import Derived.Test.YthekfonboblioabGreatDoorW6
namespace Go.Proofs.YthekfonboblioabGreatDoor
open Go Sx M Go.Proofs.Tryz
set_option maxRecDepth 100000
set_option maxHeartbeats 40000000
set_option linter.unusedVariables false
attribute [local irreducible] wpList Code.wp Calls DR QR QS LA LS St row box fam imm rowS loop
variable {w0:World} {ax:List Fact} {rs:List Res} {w:World}
theorem Gp {S:List (List (Bool×LI))} {k:LI} {j:Bool} {F:LI} {T r G U:Int} {m:Nat} {b:Hdr} {V:List Hdr} {d o:Hdr} {out:(List (List (Bool×LI)))×LI×Bool×LI×Int} (c:m_e3 S k j F T r G U=some out) (a8:imm xw o.v F∈ax) (a:St w0 ax (box m 110 [b.v,d.v,.bool j,o.v,iV T]::row 37 rH b.v V::fam 62 Cw V S::row 3 I1 d.v k::rs) w):
  Calls prog 135 #[(pB m),iV r,iV G,iV U] w (fun e w=>∃ (W:List Hdr) (X Z:Hdr),e=.returned (.tuple #[])∧St w0 (imm xw Z.v out.2.2.2.1::ax) (row 37 rH b.v W::fam 62 Cw W out.1::row 3 I1 X.v out.2.1::box m 110 [b.v,X.v,.bool out.2.2.1,Z.v,iV out.2.2.2.2]::rs) w):=by
 refine en func135 rfl ntmps135 fun Q a9=>q 8 rfl ?_
 refine jC ((List (List (Bool×LI)))×Int×(List Hdr)) [0,1,2] (fun (t,p,f)=>[]) (fun (t,p,f) w=>St w0 ax (row 37 rH b.v f::fam 62 Cw f t::row 3 I1 d.v k::box m 110 [b.v,d.v,.bool j,o.v,iV p]::rs) w∧m_e2 G r j F k t p=some out) rfl ?_ ?_
 ·rintro ⟨t,p,f⟩ g w ⟨a,c⟩
  refine z 1 1 ?_
  refine bE c fun c0 H c=>?_
  obtain ⟨c1,x⟩:=a.famI R1 H
  refine y (yIa T4 e0 e0 a rO0 x) (y (yF1 D4 e0 a rO0 x rfl) (bE c fun h a0 c=>q 1 rfl (y (yIa V2 e0 e0 a (rdF R1 x H) a0) ?_)))
  obtain ⟨c2,c3,cc29,a⟩:=a.ld (rdF R1 x H) a0
  replace a:=a.eltP
  obtain ⟨c4,c5,rfl,a⟩:=a
  replace a:=a.eltB
  obtain ⟨rfl,a⟩:=a
  replace a:=a.eltS
  obtain ⟨i,rfl,a⟩:=a
  refine y (yCn (cs:=[.bool h.1,i.v]) P0 rfl e0 cc29) ?_
  refine z 3 0 ?_;intro I w a w a
  refine y (K6 T4 e0 a rO1 R2) (bE c fun a1 b0 c=>q 4 rfl ?_)
  refine lp b0 [0,1,2,8,61,62] (fun (J,A)=>[(63,iV A)]) (fun (J,A)=>St w0 (imm xw i.v h.2::ax) (row 37 rH b.v f::fam 62 Cw f J::row 3 I1 d.v k::box m 110 [b.v,d.v,.bool j,o.v,iV p]::box I 62 [.bool h.1,i.v]::rs)) (fun | a1=>(.exit 0,[],St w0 (imm xw i.v h.2::ax) (row 37 rH b.v f::fam 62 Cw f a1::row 3 I1 d.v k::box m 110 [b.v,d.v,.bool j,o.v,iV p]::box I 62 [.bool h.1,i.v]::rs))) rfl (a.k2g) rfl ?_ ?_
  ·clear a
   intro g w a
   refine bE c fun c6 c7 c=>q 2 rfl (dS [7,8,12,15] 4 A1 ?_)
   replace a:=a.drew
   refine D1 639 0 7 rfl (qR 5 rfl (rQ rfl (lb_ d.v L1 e0 a R3) (qR 1 rfl (rQ rfl (W1 [.bool h.1,i.v] P0 e0 a R4) (Rn QSn (LH wn (rLt (n:=1) (l:=[r]) a V0 [iV r] (bp1 e0) rfl rfl (U1 (cs:=[iV r]) rfl mkI E2)) fun c8 w a=>dU ?_))))))
   refine z 4 0 ?_;intro c9 w a w a w a
   cases c
   exact a9 _ _ _ (Ek results135 ⟨_,_,_,rfl,(a.k39)⟩)
  rintro ⟨J,A⟩ g w b2 a c
  refine q 6 rfl (cI c (fun b3 c=>?_) fun b3 c=>?_)
  ·refine q 7 rfl (bE c fun d0 B c=>?_)
   obtain ⟨d1,s⟩:=a.famI R1 B
   refine y (yIa T4 e0 e0 a rO0 s) (y (yF1 D4 e0 a rO0 s rfl) (q 11 rfl ?_))
   refine jC (List (List (Bool×LI))) [0,1,2,8,61,62,63] (fun C=>[]) (fun C w=>St w0 (imm xw i.v h.2::ax) (row 37 rH b.v f::fam 62 Cw f C::row 3 I1 d.v k::box m 110 [b.v,d.v,.bool j,o.v,iV p]::box I 62 [.bool h.1,i.v]::rs) w∧m_e0 A C=some b2) rfl ?_ ?_
   ·rintro C g w ⟨a,c⟩
    refine q 6 rfl ?_
    cases c
    exact lo a
   refine cIn c (fun b4 c=>?_) fun b4 c=>?_
   ·exact q 1 rfl (jx _ ⟨a,c⟩)
   ·refine bE c fun d2 K c=>bE c fun b5 a2 c=>bE c fun u110 gu110 c=>bE c fun d3 b6 c=>bE c fun d4 b7 c=>dS [17] 1 A1 ?_
    replace a:=a.drew
    refine D1 131071 0 17 rfl (qR 4 rfl (rQ rfl (lb_ b.v z6 e0 a R3) (qR 1 rfl ?_)))
    obtain ⟨d5,D⟩:=a.famI R1 K
    refine rQ rfl (yIa T4 e0 e0 a rO0 D) (rQ rfl (yF1 D4 e0 a rO0 D rfl) (qR 2 rfl (rQ rfl (yIa V2 e0 e0 a (rdF R1 s B) a2) ?_)))
    obtain ⟨d6,d7,cc113,a⟩:=a.ld (rdF R1 s B) a2
    replace a:=a.eltP
    obtain ⟨d8,d9,rfl,a⟩:=a
    replace a:=a.eltB
    obtain ⟨rfl,a⟩:=a
    replace a:=a.eltS
    obtain ⟨b8,rfl,a⟩:=a
    refine rQ rfl (yCn (cs:=[.bool b5.1,b8.v]) P0 rfl e0 cc113) (rQ rfl (W1 [.bool h.1,i.v] P0 e0 a R4) (qR 3 rfl (rQ rfl (W1 [.bool j,o.v] P0 e0 a R3) (Rn QSn ?_))))
    replace a:=(a.k10).foc2 gu110 s B D K
    refine kZ (Ti b6 F0 F1 (F_2 a8) a) fun w a=>?_
    replace a:=a.unfoc2 gu110 s D K b7
    refine dU ?_
    refine z 1 0 ?_
    exact jx _ ⟨((a.k3a).facts (S0 F1 (N0 (N0 E1)))),c⟩
  ·refine q 2 rfl ?_
   cases c
   exact xo a
 refine cI c (fun b9 c=>?_) fun b9 c=>?_
 ·refine q 1 rfl (bE c fun e1 a3 c=>bE c fun e2 a4 c=>bE c fun e3 L c=>bE c fun e4 a5 c=>dS [25,27] 2 A1 ?_)
  replace a:=a.drew
  refine D0 33554431 0 25 rfl (qR 3 rfl (rQ rfl (lb_ b.v z6 e0 a R0) (qR 4 rfl (rQ rfl (lb_ b.v z6 e0 a R0) (qR 4 rfl (rQ rfl (lb_ b.v z6 e0 a R0) (qR 1 rfl ?_)))))))
  obtain ⟨a6,N⟩:=a.famI R2 a3
  refine rQ rfl (yIa T4 e0 e0 a rO1 N) (rQ rfl (yF1 D4 e0 a rO1 N rfl) (qR 3 rfl (rQ rfl (lb_ b.v z6 e0 a R0) (qR 1 rfl ?_))))
  obtain ⟨a7,O⟩:=a.famI R2 a4
  refine rQ rfl (yIa T4 e0 e0 a rO1 O) (rQ rfl (yF1 D4 e0 a rO1 O rfl) ?_)
  obtain ⟨e5,E⟩:=H9 (u:=a6) L (a.famL (mtR (mtR mhR)))
  refine rQ rfl (yIs T4 e0 e0 a rO1 E) (Rn QSn ?_)
  replace a:=a.k10
  refine LT wn (S3 (cs:=[a6.v]) a D4 rfl e0 e0 rfl (mkF rfl) E) fun w a=>D0 67108864 512 27 rfl ?_
  obtain ⟨e6,R⟩:=H9 (u:=a7) a5 (Rf L E (a.famL (mtR (mtR mhR))))
  refine rQ rfl (yIs T4 e0 e0 a rO0 R) (Rn (qS rfl QSn) (LT wn (S3 (cs:=[a7.v]) a D4 rfl e0 e0 rfl (mkF rfl) R) fun w a=>?_))
  replace a:=(a.k16).fswap N a3 O a4 E L R a5
  refine z 3 1 ?_;intro w a
  exact jx (_,_,_) ⟨(a.k3b),c⟩
 ·exact q 1 rfl (jx (_,_,_) ⟨(a.k2a),c⟩)
instance:CL prog 135 (type_of% @Gp):=⟨@Gp⟩
theorem Fp {N:List (List (Bool×LI))} {O:Int} {b:Hdr} {R:List Hdr} {out:(List (List (Bool×LI)))×LI×Bool×LI×Int} (c:m_e7 N O=some out) (a:St w0 ax (row 37 rH b.v R::fam 62 Cw R N::rs) w):
  Calls prog 77 #[b.v,iV O] w (fun e w=>∃ (S:List Hdr) (T U:Hdr),e=.returned (.agg #[b.v,T.v,.bool out.2.2.1,U.v,iV out.2.2.2.2])∧St w0 (imm xw U.v out.2.2.2.1::ax) (row 37 rH b.v S::fam 62 Cw S out.1::row 3 I1 T.v out.2.1::rs) w):=by
 refine en func77 rfl ntmps77 fun Q a7=>?_
 refine z 5 13 ?_;intro i w a b9 c0 c c1 w a j w a w a
 obtain ⟨⟨V,W,X,Z,a0⟩,a8,c⟩:=bs c
 replace a:=a.rowNh 3 I1
 refine lpN ((List Hdr)×Hdr×Hdr) ((List Hdr)×Hdr×Hdr) a8 [0,4,5,12] (fun (k,l,m,n,o,p) (d,f,h)=>[(13,iV p)]) (fun (k,l,m,n,o,p) (d,f,h)=>St w0 (imm xw h.v n::ax) (row 37 rH b.v d::fam 62 Cw d k::box i 110 [hnil.v,hnil.v,.bool false,hnil.v,iV 0]::row 3 I1 f.v l::box j 110 [b.v,f.v,.bool m,h.v,iV o]::rs)) (fun | (V,W,X,Z,a0),(E,F,G)=>(.exit 0,[],St w0 (imm xw G.v Z::ax) (row 37 rH b.v E::fam 62 Cw E V::box i 110 [hnil.v,hnil.v,.bool false,hnil.v,iV 0]::row 3 I1 F.v W::box j 110 [b.v,F.v,.bool X,G.v,iV a0]::rs))) rfl (_,_,_) (a.k3c) rfl ?_ ?_
 ·clear a
  rintro ⟨E,F,G⟩ g w a
  refine z 2 4 ?_;intro w a
  cases c
  exact a7 _ _ _ (M3 results77 (C4 rfl rfl a R0 jl rfl) ⟨_,_,_,rfl,(a.k2y)⟩)
 rintro ⟨k,l,m,n,o,p⟩ ⟨d,f,h⟩ g w a9 a c
 refine q 6 rfl (cI c (fun b0 c=>?_) fun b0 c=>?_)
 ·refine q 3 rfl ?_
  refine jC ((List (List (Bool×LI)))×LI×Bool×LI×Int×(List Hdr)×Hdr×Hdr) [0,4,5,12,13] (fun (r,s,t,u,x,A,B,C)=>[]) (fun (r,s,t,u,x,A,B,C) w=>St w0 (imm xw C.v u::ax) (row 37 rH b.v A::fam 62 Cw A r::box i 110 [hnil.v,hnil.v,.bool false,hnil.v,iV 0]::row 3 I1 B.v s::box j 110 [b.v,B.v,.bool t,C.v,iV x]::rs) w∧m_e4 p r s t u x=some a9) rfl ?_ ?_
  ·rintro ⟨r,s,t,u,x,A,B,C⟩ g w ⟨a,c⟩
   refine q 5 rfl ?_
   cases c
   exact ln (_,_,_) a
  refine z 2 10 ?_
  refine bE c fun b1 b2 c=>?_
  refine lpN Unit ((List Hdr)×Hdr×Hdr) b2 [0,4,5,6,7,12,13] (fun H _=>[(8,iV H)]) (fun H _=>St w0 (imm xw h.v n::ax) (row 37 rH b.v d::fam 62 Cw d k::box i 110 [hnil.v,hnil.v,.bool false,hnil.v,iV 0]::row 3 I1 f.v l::box j 110 [b.v,f.v,.bool m,h.v,iV o]::rs)) (fun | .inl (a1,a2,a3,a4,a5),(I,J,K)=>(.exit 1,[],St w0 (imm xw K.v a4::ax) (row 37 rH b.v I::fam 62 Cw I a1::box i 110 [hnil.v,hnil.v,.bool false,hnil.v,iV 0]::row 3 I1 J.v a2::box j 110 [b.v,J.v,.bool a3,K.v,iV a5]::rs)) | .inr (),(_,_,_)=>(.exit 2,[],St w0 (imm xw h.v n::ax) (row 37 rH b.v d::fam 62 Cw d k::box i 110 [hnil.v,hnil.v,.bool false,hnil.v,iV 0]::row 3 I1 f.v l::box j 110 [b.v,f.v,.bool m,h.v,iV o]::rs))) rfl () a rfl ?_ ?_
  ·clear a
   rintro ⟨I,J,K⟩ g w a
   rcases b1 with ⟨a1,a2,a3,a4,a5⟩ | ⟨⟩
   ·exact q 2 rfl (jx (_,_,_,_,_,_,_,_) ⟨a,c⟩)
   ·exact q 2 rfl (jx (_,_,_,_,_,_,_,_) ⟨a,c⟩)
  rintro H _ g w c2 a c
  refine q 5 rfl (y (K6 T4 e0 a rO0 R1) (q 3 rfl (cI c (fun b3 c=>?_) fun b3 c=>?_)))
  ·refine q 8 rfl (bE c fun c3 L c=>?_)
   obtain ⟨c4,D⟩:=a.famI R1 L
   refine y (yIa T4 e0 e0 a rO0 D) (y (yF1 D4 e0 a rO0 D rfl) (bE c fun b4 a6 c=>q 1 rfl (y (yIa V2 e0 e0 a (rdF R1 D L) a6) ?_)))
   obtain ⟨c5,c6,cc521,a⟩:=a.ld (rdF R1 D L) a6
   replace a:=a.eltP
   obtain ⟨c7,c8,rfl,a⟩:=a
   replace a:=a.eltB
   obtain ⟨rfl,a⟩:=a
   replace a:=a.eltS
   obtain ⟨b6,rfl,a⟩:=a
   refine y (yCn (cs:=[.bool b4.1,b6.v]) P0 rfl e0 cc521) ?_
   refine z 1 3 ?_;intro c9 d0 c w a
   refine cIn c (fun b7 c=>?_) fun b7 c=>?_
   ·refine q 8 rfl ?_
    cases c
    exact ln () (a.facts (S0 F1 (N0 (N0 E1))))
   ·refine z 1 5 ?_;intro d1 d2 c d3 d4 d5 w a
    cases c
    exact lx (_,_,_) ((a.k3e).facts (S0 F0 (N0 (N0 (N0 E1)))))
  ·refine q 2 rfl ?_
   cases c
   exact lx ([],hnil,hnil) a
 ·refine q 2 rfl ?_
  cases c
  exact lx (_,_,_) a
instance:CL prog 77 (type_of% @Fp):=⟨@Fp⟩
theorem Ep {b:List (List (Bool×LI))} {d:Hdr} {out:Int×Int} (c:m_e8 b=some out) (f:imm (rS Cw) d.v b∈ax) (a:St w0 ax rs w):
  Calls prog 36 #[d.v] w (rv w0 ax rs (.tuple #[iV out.1,iV out.2])):=by
 refine en func36 rfl ntmps36 fun Q k=>?_
 refine v 0 ?_
 refine fun _ _ _ w a=>⟨fun _ c=>?_,vt⟩
 refine bE c fun l g c=>?_
 replace a:=a.immNh Cw
 refine cT_ (Of g (mtF f) F0 a) fun h m w a=>?_
 refine z 2 0 ?_;intro n o c w a e p c q i j w a
 exact y (yFv (cs:=[h.v,i.v,.bool e.2.2.1,j.v,iV e.2.2.2.2]) YF e0 rfl) vx
instance:CL prog 36 (type_of% @Ep):=⟨@Ep⟩
theorem cj {f:List (List (Bool×LI))} {h:Int} {i:Hdr} {out:BL} (c:m_fa f h=some out) (s:imm (rS Cw) i.v f∈ax) (a:St w0 ax rs w):
  Calls prog 53 #[i.v,iV h] w (ro w0 ax rs 4 rB out):=by
 refine en func53 rfl ntmps53 fun Q m=>bE c fun t n c=>q 8 rfl (yh (rMk a vh e0 n) fun j w a=>bE c fun k o c=>q 16 rfl ?_)
 refine lp o [0,5,12] (fun (d,b,e)=>[(6,iV b),(13,iV e)]) (fun (d,b,e)=>St w0 ax (row 4 rB j.v d::rs)) (fun | k=>(.exit 0,[],St w0 ax (row 4 rB j.v k::rs))) rfl a rfl ?_ ?_
 ·clear a
  intro g w a
  refine q 9 rfl ?_
  cases c
  exact m _ _ _ (M3 results53 ⟨rfl,rfl⟩ ⟨_,rfl,a⟩)
 rintro ⟨d,b,e⟩ g w u a c
 refine q 6 rfl (cI c (fun p c=>?_) fun p c=>?_)
 ·refine z 2 14 ?_;intro x A c B w a r C c w a
  refine bE c fun D l c=>y (yIs vh e0 e0 a rO0 l) (yt (S3 (cs:=[.bool (decide (r.1=b))]) a O_4 rfl e0 e0 rfl mkB l) fun w a=>q 12 rfl ?_)
  cases c
  exact lo (a.fc)
 ·refine q 2 rfl ?_
  cases c
  exact xo a
instance:CL prog 53 (type_of% @cj):=⟨@cj⟩
theorem bj {e:LI} {d:Hdr} {out:LI} (c:m_fb e=some out) (f:imm I1 d.v e∈ax) (a:St w0 ax rs w):
  Calls prog 54 #[d.v] w (ro w0 ax rs 3 I1 out):=by
 refine en func54 rfl ntmps54 fun Q g=>q 9 rfl (y (Rm V0 e0 rfl) (q 2 rfl ?_))
 rcases Ss d with b | b
 ·refine kT b ?_
  obtain rfl:=Us b f a
  replace c:=Ts c
  refine q 7 rfl ?_
  cases c
  replace a:=a.rowNh 3 I1
  exact g _ _ _ (M3 results54 ⟨rfl,rfl⟩ ⟨_,rfl,a⟩)
 ·exact kF b (q 4 rfl (yh (rLt (n:=0) (l:=[]) a V0 [] bp0 rfl rfl E2) fun h w a=>vx))
instance:CL prog 54 (type_of% @bj):=⟨@bj⟩
theorem Dp {b:Bool} {d:LI} {e:Hdr} {out:Bool×LI} (c:m_fc b d=some out) (f:imm xw e.v d∈ax) (a:St w0 ax rs w):
  Calls prog 105 #[.agg #[.bool b,e.v]] w (rb w0 ax rs out):=by
 exact en func105 rfl ntmps105 fun Q g=>vx
instance:CL prog 105 (type_of% @Dp):=⟨@Dp⟩
theorem aj {b:List (List (Bool×LI))} {d:LI} {e:Bool} {f:LI} {g:Int} {h:Bool} {i:LI} {j k l m:Hdr} {out:Bool×LI} (c:m_fd b d e f g h i=some out) (n:imm (rS Cw) j.v b∈ax) (o:imm I1 k.v d∈ax) (p:imm xw l.v f∈ax) (q:imm xw m.v i∈ax) (a:St w0 ax rs w):
  Calls prog 106 #[.agg #[j.v,k.v,.bool e,l.v,iV g],.agg #[.bool h,m.v]] w (rb w0 ax rs out):=by
 exact en func106 rfl ntmps106 fun Q r=>vx
instance:CL prog 106 (type_of% @aj):=⟨@aj⟩
theorem Zi {i:Bool} {j:LI} {k:Bool} {l:LI} {m n:Hdr} {out:Bool×LI} (c:m_ff i j k l=some out) (r:imm xw m.v j∈ax) (s:imm xw n.v l∈ax) (a:St w0 ax rs w):
  Calls prog 107 #[.agg #[.bool i,m.v],.agg #[.bool k,n.v]] w (rb w0 ax rs out):=by
 refine en func107 rfl ntmps107 fun Q t=>?_
 refine z 3 3 ?_;intro u w a x w a o w a
 refine bE c fun y A c=>bE c fun B C c=>bE c fun D E c=>bE c fun F G c=>dS [2,3,6,7,8,9] 6 A1 ?_
 replace a:=a.drew
 refine z 9 3 ?_;intro H w a I w a J w a K w a
 refine bE c fun p q c=>?_
 replace a:=((a.k10).fz).fz
 refine lpN (Hdr×Hdr) Hdr q [4] (fun (e,f) (b,d)=>[(5,b.v),(6,d.v)]) (fun (e,f) (b,d)=>St w0 (imm xw b.v e::imm xw d.v f::ax) (box o 62 [.bool false,hnil.v]::rs)) (fun | p,h=>(.exit 0,[(5,h.v)],St w0 (imm xw h.v p::ax) (box o 62 [.bool false,hnil.v]::rs))) rfl (_,_) ((a.k2m).facts (S0 F1 (S0 F0 (N0 (N0 (N0 (N0 E1))))))) rfl ?_ ?_
 ·clear a
  rintro h g w a
  exact vx
 rintro ⟨e,f⟩ ⟨b,d⟩ g w L a c
 exact vx
instance:CL prog 107 (type_of% @Zi):=⟨@Zi⟩
theorem Xi {E:List (List (Bool×LI))} {F:Hdr} {out:(List (Bool×LI))×Int} (c:m_fj E=some out) (V:imm (rS Cw) F.v E∈ax) (a:St w0 ax rs w):
  Calls prog 56 #[F.v] w (fun e w=>∃ (G:Hdr),e=.returned (.tuple #[G.v,iV out.2])∧St w0 ax (row 62 Cw G.v out.1::rs) w):=by
 refine en func56 rfl ntmps56 fun Q r=>?_
 refine z 1 10 ?_;intro c8 c9 c w a
 refine cIn c (fun W c=>?_) fun W c=>?_
 ·refine z 1 6 ?_;intro d0 d1 c w a
  refine bE c fun d2 X c=>?_
  replace a:=a.immNh Cw
  refine cT_ (Of X (mtF V) F0 a) fun d d3 w a=>?_
  refine z 3 9 ?_;intro b d4 c j f h w a m w a w a
  refine bE c fun H Z c=>?_
  refine lp Z [5,6] (fun s=>[(7,iV s)]) (fun s=>St w0 (imm xw h.v b.2.2.2.1::ax) (row 37 rH d.v j::fam 62 Cw j b.1::row 3 I1 f.v b.2.1::box m 110 [d.v,f.v,.bool b.2.2.1,h.v,iV b.2.2.2.2]::rs)) (fun | H=>(.exit 0,[(7,iV H)],St w0 (imm xw h.v b.2.2.2.1::ax) (row 37 rH d.v j::fam 62 Cw j b.1::row 3 I1 f.v b.2.1::box m 110 [d.v,f.v,.bool b.2.2.1,h.v,iV b.2.2.2.2]::rs))) rfl ((a.k2a).facts (S0 F0 (N0 (N0 E1)))) rfl ?_ ?_
  ·clear a
   intro g w a
   refine q 10 rfl (cI c (fun a0 c=>?_) fun a0 c=>?_)
   ·refine q 8 rfl ?_
    cases c
    replace a:=a.rowNh 62 Cw
    exact r _ _ _ (I4 results56 ⟨rfl,rfl⟩ ⟨rfl,rfl⟩ ⟨_,rfl,((a.k3f).fc)⟩)
   ·refine q 5 rfl (bE c fun d5 a1 c=>yh (rMk a V2 e0 a1) fun n w a=>?_)
    refine z 2 0 ?_;intro a2 d6 c a3 w a
    refine bE c fun d7 I c=>y (yIs V2 e0 e0 a rO0 I) (yt (C8 (cs:=[.bool a2.1,a3.v]) a P0 e0 e0 rfl (mkP mkB (mkS F0)) I) fun w a=>?_)
    refine z 1 0 ?_;intro a4 a5 c
    obtain ⟨d8,d9,cc38,a⟩:=a.ld rO0 a5
    replace a:=a.eltP
    obtain ⟨e1,e2,rfl,a⟩:=a
    replace a:=a.eltB
    obtain ⟨rfl,a⟩:=a
    replace a:=a.eltS
    obtain ⟨a6,rfl,a⟩:=a
    refine y (yCn (cs:=[.bool a4.1,a6.v]) P0 rfl e0 cc38) ?_
    refine z 4 4 ?_;intro t w a w a
    obtain ⟨⟨J,o,u⟩,a7,c⟩:=bs c
    replace a:=(((a.k2r).ffz).k16).fz
    refine lpN Hdr Hdr a7 [6,7,8,9,56,57] (fun (x,p,A,B) l=>[(58,iV B)]) (fun (x,p,A,B) l=>St w0 (imm (rS Cw) d.v b.1::imm I1 f.v b.2.1::imm xw h.v b.2.2.2.1::imm xw l.v A::ax) (box m 110 [d.v,f.v,.bool b.2.2.1,h.v,iV b.2.2.2.2]::row 62 Cw n.v x::box t 62 [.bool p,l.v]::rs)) (fun | (J,o,u),k=>(.exit 2,[],St w0 (imm xw k.v u::ax) (row 62 Cw n.v J::box t 62 [.bool o,k.v]::rs))) rfl _ ((a.k18).facts (S0 F1 (S0 F0 (S0 F4 (S0 F2 (N0 (N0 (N0 (N0 (N0 E1)))))))))) rfl ?_ ?_
    ·clear a
     rintro k g w a
     refine z 1 4 ?_
     refine bE c fun K a8 c=>?_
     refine lp a8 [8,9,85] (fun (C,D)=>[(86,iV D)]) (fun (C,D)=>St w0 (imm xw k.v u::ax) (row 62 Cw n.v C::box t 62 [.bool o,k.v]::rs)) (fun | K=>(.exit 4,[],St w0 ax (row 62 Cw n.v K::rs))) rfl a rfl ?_ ?_
     ·clear a
      intro g w a
      refine q 10 rfl ?_
      cases c
      exact r _ _ _ (I4 results56 ⟨rfl,rfl⟩ ⟨rfl,rfl⟩ ⟨_,rfl,a⟩)
     rintro ⟨C,D⟩ g w e3 a c
     refine q 6 rfl (cI c (fun a9 c=>?_) fun a9 c=>?_)
     ·refine q 10 rfl (bE c fun b0 L c=>bE c fun b1 b2 c=>bE c fun e4 N c=>dS [7,12] 2 A1 ?_)
      replace a:=a.drew
      refine D1 127 0 7 rfl (qR 4 rfl (rQ rfl (yIa V2 e0 e0 a rO0 L) ?_))
      obtain ⟨e5,e6,cc127,a⟩:=a.ld rO0 L
      replace a:=a.eltP
      obtain ⟨e7,e8,rfl,a⟩:=a
      replace a:=a.eltB
      obtain ⟨rfl,a⟩:=a
      replace a:=a.eltS
      obtain ⟨b3,rfl,a⟩:=a
      refine rQ rfl (yCn (cs:=[.bool b0.1,b3.v]) P0 rfl e0 cc127) (rQ rfl (W1 [.bool o,k.v] P0 e0 a R1) (Rn QSn (kO (Ui b2 F0 F1 a) fun b4 w a=>dU (D0 3840 3 12 rfl (qR 3 rfl (rQ rfl (yIs V2 e0 e0 a rO0 N) (Rn (qS rfl (qS rfl QSn)) (LT wn (C8 (cs:=[.bool b1.1,b4.v]) a P0 e0 e0 rfl (mkP mkB (mkS F0)) N) fun w a=>?_))))))))
      refine z 1 6 ?_
      cases c
      exact lo (a.facts (S0 F2 (N0 (N0 (N0 E1)))))
     ·refine q 2 rfl ?_
      cases c
      exact xo ((a.k11).fc)
    rintro ⟨x,p,A,B⟩ l g w e9 a c
    refine q 6 rfl (cI c (fun b5 c=>?_) fun b5 c=>?_)
    ·refine z 2 5 ?_;intro f0 f1 c
     refine bE c fun f2 O c=>bE c fun b6 R c=>bE c fun f3 b7 c=>bE c fun b8 f4 c=>bE c fun f5 S c=>dS [11,12,14] 3 A1 ?_
     replace a:=a.drew
     refine D1 2047 0 11 rfl (qR 2 rfl (rQ rfl (W1 [d.v,f.v,.bool b.2.2.1,h.v,iV b.2.2.2.2] jl e0 a R0) (qR 1 rfl (rQ rfl (lb_ d.v z6 e0 a R0) (qR 1 rfl (rQ rfl (yIa A5 e0 e0 a (rdI F0) O) ?_))))))
     obtain ⟨f6,a⟩:=iLs a F0 O
     refine rQ rfl (yCt D4 e0 a F1 rfl) (qR 1 rfl (rQ rfl (yIa V2 e0 e0 a (rdI F0) R) ?_))
     obtain ⟨f7,f8,a⟩:=iLd a F0 R
     obtain ⟨f9,g0,rfl,a⟩:=a.eltP
     obtain ⟨rfl,a⟩:=a.eltB
     obtain ⟨b9,rfl,a⟩:=a.eltS
     refine rQ rfl (Z5 (cs:=[.bool b6.1,b9.v]) P0 rfl e0 a F1) (Rn QSn (kO (aj b7 F4 F5 F6 F0 a) fun g1 w a=>dU ?_))
     refine z 1 0 ?_;intro c0 w a
     refine dU (D0 8192 3 14 rfl (rQ rfl (yIs V2 e0 e0 a rO1 S) (Rn (qS rfl (qS rfl QSn)) ?_)))
     replace a:=a.k10
     refine LT wn (C8 (cs:=[.bool b8.1,c0.v]) a P0 e0 e0 rfl (mkP mkB (mkS F0)) S) fun w a=>?_
     refine z 1 1 ?_
     refine bE c fun c1 T c=>bE c fun g2 c2 c=>dS [5,6] 2 A1 ?_
     replace a:=a.drew
     refine D1 31 0 5 rfl (rQ rfl (W1 [.bool p,l.v] P0 e0 a R2) (qR 2 rfl (rQ rfl (yIa V2 e0 e0 a rO0 T) ?_)))
     obtain ⟨g3,g4,cc148,a⟩:=a.ld rO0 T
     replace a:=a.eltP
     obtain ⟨g5,g6,rfl,a⟩:=a
     replace a:=a.eltB
     obtain ⟨rfl,a⟩:=a
     replace a:=a.eltS
     obtain ⟨c3,rfl,a⟩:=a
     refine rQ rfl (yCn (cs:=[.bool c1.1,c3.v]) P0 rfl e0 cc148) (Rn QSn (kO (Zi c2 F10 F0 a) fun g7 w a=>dU ?_))
     refine z 2 6 ?_;intro w a
     cases c
     exact ln _ ((a.k18).facts (S0 F8 (S0 F9 (S0 F10 (S0 F0 (N0 (N0 (N0 (N0 (N0 (N0 (N0 (N0 (N0 (N0 (N0 (N0 E1)))))))))))))))))
    ·refine q 2 rfl ?_
     cases c
     exact lx _ ((a.k3g).facts (S0 F3 (N0 (N0 (N0 (N0 E1))))))
  rintro s g w g8 a c
  refine z 2 2 ?_
  refine bE c fun c5 i c=>?_
  refine jW 8 [5,6,7] [(37,.bool c5)] (St w0 (imm xw h.v b.2.2.2.1::ax) (row 37 rH d.v j::fam 62 Cw j b.1::row 3 I1 f.v b.2.1::box m 110 [d.v,f.v,.bool b.2.2.1,h.v,iV b.2.2.2.2]::rs)) rfl (fun U=>?_) ?_
  ·refine gI 29 i rfl (fun c6 i=>?_) fun c6 i=>?_
   ·refine z 1 1 ?_
    refine bE i fun g9 h0 i=>?_
    refine z 2 3 ?_
    cases i
    exact U _ _ a rfl
   ·refine q 8 rfl ?_
    cases i
    exact U _ _ a rfl
  intro g w a
  refine q 2 rfl ?_
  refine cJ c (fun c7 c=>?_) fun c7 c=>?_
  ·refine q 9 rfl ?_
   cases c
   exact lo a
  ·refine q 2 rfl ?_
   cases c
   exact xo a
 ·refine q 9 rfl ?_
  cases c
  replace a:=a.rowNh 62 Cw
  exact r _ _ _ (I4 results56 ⟨rfl,rfl⟩ ⟨rfl,rfl⟩ ⟨_,rfl,a⟩)
instance:CL prog 56 (type_of% @Xi):=⟨@Xi⟩
theorem Cp {X:List (List (Bool×LI))} {Z:Int} {a0:Hdr} {out:(List (List (Bool×LI)))} (c:m_fq X Z=some out) (C:imm (rS Cw) a0.v X∈ax) (a:St w0 ax rs w):
  Calls prog 18 #[a0.v,iV Z] w (fun e w=>∃ (a2:Hdr) (a3:List Hdr),e=.returned (a2.v)∧St w0 ax (row 37 rH a2.v a3::fam 62 Cw a3 out::rs) w):=by
 refine en func18 rfl ntmps18 fun Q c1=>bE c fun k c2 c=>q 9 rfl (cO (cj c2 C a) fun m w a=>bE c fun a4 c3 c=>q 21 rfl ?_)
 replace a:=(((a.rowNh 3 I1).rowNh 37 rH).fNew 62 Cw).k10
 refine lpN (Hdr×Hdr×(List Hdr)) (Hdr×(List Hdr)) c3 [0,1,5,24] (fun (d,f,h) (i,j,b)=>[(6,i.v),(7,j.v),(25,iV h)]) (fun (d,f,h) (i,j,b)=>St w0 ax (row 4 rB m.v k::row 3 I1 i.v d::row 37 rH j.v b::fam 62 Cw b f::rs)) (fun | a4,(J,K)=>(.exit 0,[(7,J.v)],St w0 ax (row 37 rH J.v K::fam 62 Cw K a4::rs))) rfl (_,_,_) (a.k1e) rfl ?_ ?_
 ·clear a
  rintro ⟨J,K⟩ g w a
  refine q 9 rfl ?_
  cases c
  exact c1 _ _ _ (M3 results18 ⟨rfl,rfl⟩ ⟨_,_,rfl,a⟩)
 rintro ⟨d,f,h⟩ ⟨i,j,b⟩ g w a5 a c
 refine q 6 rfl (cI c (fun c4 c=>?_) fun c4 c=>?_)
 ·refine q 3 rfl ?_
  refine jC (LI×(List (List (Bool×LI)))×Hdr×Hdr×(List Hdr)) [0,1,5,24,25] (fun (D,E,F,G,H)=>[(6,F.v),(7,G.v)]) (fun (D,E,F,G,H) w=>St w0 ax (row 4 rB m.v k::row 3 I1 F.v D::row 37 rH G.v H::fam 62 Cw H E::rs) w∧m_fk h D E=some a5) rfl ?_ ?_
  ·rintro ⟨D,E,F,G,H⟩ g w ⟨a,c⟩
   refine q 5 rfl ?_
   cases c
   exact ln (_,_,_) a
  refine bE c fun e9 a6 c=>q 12 rfl (y (yIa vh e0 e0 a rO0 a6) (y (yB O_4 e0 a rO0 a6) (q 3 rfl ?_)))
  refine cJn c (fun c5 c=>?_) fun c5 c=>?_
  ·refine q 5 rfl (bE c fun f0 c6 c=>?_)
   have a7:=a
   replace a:=(a.k10).fz
   have t:=a.guest0
   replace a:=a7
   clear a7
   refine yC (C9 cG (a1 e0)) (bj c6 F0 t) ?_
   clear t
   rintro _ w ⟨f1,rfl,t⟩
   replace a:=a.back1 t
   clear t
   refine ⟨_,rfl,?_⟩
   refine nf (q 1 rfl (yh (rLt (n:=1) (l:=[h]) a V0 [iV h] (bp1 e0) rfl rfl (U1 (cs:=[iV h]) rfl mkI E2)) fun f2 w a=>bE c fun u c7 c=>?_))
   replace a:=a.k10
   refine yh (rAp a V0 e0 e0 rO1 c7) fun x w a=>q 12 rfl (y (O2 A5 e0 a (rdI C)) (bE c fun a8 c8 c=>q 4 rfl ?_))
   replace a:=((a.rowNh 37 rH).fNew 62 Cw).k10
   refine lpN (Hdr×(List Hdr)) (Hdr×(List Hdr)) c8 [0,1,5,6,7,8,9,24,25,42,43] (fun (z,L) (p,o)=>[(10,p.v),(44,iV L)]) (fun (z,L) (p,o)=>St w0 ax (row 4 rB m.v k::row 3 I1 i.v d::row 37 rH j.v b::fam 62 Cw b f::row 3 I1 x.v u::row 37 rH p.v o::fam 62 Cw o z::rs)) (fun | a8,(N,O)=>(.exit 2,[(10,N.v)],St w0 ax (row 4 rB m.v k::row 3 I1 i.v d::row 37 rH j.v b::fam 62 Cw b f::row 3 I1 x.v u::row 37 rH N.v O::fam 62 Cw O a8::rs))) rfl (_,_) (a.k3h) rfl ?_ ?_
   ·clear a
    rintro ⟨N,O⟩ g w a
    refine bE c fun f3 c9 c=>q 5 rfl (yh (rMk a V2 e0 c9) fun r w a=>q 7 rfl (y (K6 T4 e0 a rO6 R7) (q 3 rfl ?_)))
    refine jC (List (Bool×LI)) [0,1,5,6,7,16,24,25] (fun A=>[]) (fun A w=>St w0 ax (row 4 rB m.v k::row 3 I1 i.v d::row 37 rH j.v b::fam 62 Cw b f::row 62 Cw r.v A::rs) w∧m_fl f h d A=some a5) rfl ?_ ?_
    ·rintro A g w ⟨a,c⟩
     refine q 4 rfl (yh (rLt (n:=1) (l:=[r]) a T4 [r.v] (bp1 e0) rfl rfl (U1 rfl (mkF rfl) E2)) fun f4 w a=>bE c fun f5 a9 c=>?_)
     replace a:=a.k1g
     obtain ⟨f6,ey2087,d0⟩:=Bc a9 (a.famL R4) (show [r].length=[A].length from rfl)
     refine yh (rAp a T4 e0 e0 rO1 d0) fun f7 w a=>?_
     replace a:=(a.k3i).fPush
     rw [← ey2087,← (Ma a9).1] at a
     exact q 3 rfl (jx (_,_,_,_,_) ⟨(a.k3j),c⟩)
    refine cI c (fun d1 c=>?_) fun d1 c=>?_
    ·exact q 3 rfl (bE c fun d2 d3 c=>cO (dj d3 a) fun d4 w a=>bE c fun f8 b0 c=>y (yIs V2 e0 e0 a rO0 b0) (yt (C8 (cs:=[.bool d2.1,d4.v]) a P0 e0 e0 rfl (mkP mkB (mkS F0)) b0) fun w a=>q 1 rfl (jx _ ⟨((a.k3k).fc),c⟩)))
    ·refine q 3 rfl (bE c fun d5 d6 c=>?_)
     replace a:=(a.k3l).ffz
     refine cO (Xi d6 F0 a) fun d7 w a=>q 10 rfl (y (O2 V0 e0 a rO6) (bE c fun b1 d8 c=>q 4 rfl ?_))
     refine lp d8 [0,1,5,6,7,16,17,24,25,81,82] (fun (R,S)=>[(83,iV S)]) (fun (R,S)=>St w0 ax (row 4 rB m.v k::row 3 I1 i.v d::row 37 rH j.v b::fam 62 Cw b f::row 62 Cw r.v R::row 62 Cw d7.v d5.1::row 3 I1 x.v u::rs)) (fun | b1=>(.exit 6,[],St w0 ax (row 4 rB m.v k::row 3 I1 i.v d::row 37 rH j.v b::fam 62 Cw b f::row 62 Cw r.v b1::rs))) rfl ((a.k3m).fc) rfl ?_ ?_
     ·clear a
      intro g w a
      exact q 1 rfl (jx _ ⟨a,c⟩)
     rintro ⟨R,S⟩ g w f9 a c
     refine q 6 rfl (cI c (fun d9 c=>?_) fun d9 c=>?_)
     ·refine q 7 rfl (bE c fun g0 b2 c=>y (yIa V0 e0 e0 a rO6 b2) (y (yI O_3 e0 a rO6 b2) (bE c fun b3 b4 c=>q 9 rfl (y (yIa V2 e0 e0 a rO5 b4) ?_))))
      obtain ⟨g1,g2,cc2119,a⟩:=a.ld rO5 b4
      replace a:=a.eltP
      obtain ⟨g3,g4,rfl,a⟩:=a
      replace a:=a.eltB
      obtain ⟨rfl,a⟩:=a
      replace a:=a.eltS
      obtain ⟨b5,rfl,a⟩:=a
      refine y (yCn (cs:=[.bool b3.1,b5.v]) P0 rfl e0 cc2119) (bE c fun g5 b6 c=>y (yIs V2 e0 e0 a rO4 b6) ?_)
      replace a:=a.k1m
      refine yt (C8 (cs:=[.bool b3.1,b5.v]) a P0 e0 e0 rfl (mkP mkB (mkS F0)) b6) fun w a=>q 7 rfl ?_
      cases c
      exact lo ((a.k3n).fc)
     ·refine q 2 rfl ?_
      cases c
      exact xo (a.k3o)
   rintro ⟨z,L⟩ ⟨p,o⟩ g w g6 a c
   refine q 6 rfl (cI c (fun e1 c=>?_) fun e1 c=>?_)
   ·refine q 6 rfl (bE c fun e2 b7 c=>y (yIa A5 e0 e0 a (rdI C) b7) ?_)
    obtain ⟨e3,a⟩:=iLs a C b7
    refine y (yCt D4 e0 a F1 rfl) (q 12 rfl (y (O2 V0 e0 a rO4) (bE c fun T e4 c=>q 4 rfl ?_)))
    replace a:=a.rowNh 62 Cw
    refine lpN Hdr Hdr e4 [0,1,5,6,7,8,9,10,12,24,25,42,43,44,48,49] (fun (U,V) I=>[(13,I.v),(50,iV V)]) (fun (U,V) I=>St w0 (imm Cw e3.v e2::ax) (row 4 rB m.v k::row 3 I1 i.v d::row 37 rH j.v b::fam 62 Cw b f::row 3 I1 x.v u::row 37 rH p.v o::fam 62 Cw o z::row 62 Cw I.v U::rs)) (fun | T,s=>(.exit 4,[(13,s.v)],St w0 ax (row 4 rB m.v k::row 3 I1 i.v d::row 37 rH j.v b::fam 62 Cw b f::row 3 I1 x.v u::row 37 rH p.v o::fam 62 Cw o z::row 62 Cw s.v T::rs))) rfl _ ((a.k23).facts (S0 F0 (N0 (N0 E1)))) rfl ?_ ?_
    ·clear a
     rintro s g w a
     refine q 5 rfl (yh (rLt (n:=1) (l:=[s]) a T4 [s.v] (bp1 e0) rfl rfl (U1 rfl (mkF rfl) E2)) fun g7 w a=>bE c fun g8 b8 c=>?_)
     replace a:=a.k1l
     obtain ⟨g9,ey2158,e5⟩:=Bc b8 (a.famL R7) (show [s].length=[T].length from rfl)
     refine yh (rAp a T4 e0 e0 rO1 e5) fun h0 w a=>?_
     replace a:=(a.k3p).fPush
     rw [← ey2158,← (Ma b8).1] at a
     refine q 8 rfl ?_
     cases c
     exact ln (_,_) (a.k3q)
    rintro ⟨U,V⟩ I g w h1 a c
    refine q 6 rfl (cI c (fun e6 c=>?_) fun e6 c=>?_)
    ·refine q 6 rfl (bE c fun h3 b9 c=>y (yIa V0 e0 e0 a rO4 b9) (y (yI O_3 e0 a rO4 b9) (bE c fun B c0 c=>q 7 rfl (y (yIa V2 e0 e0 a (rdI F0) c0) ?_))))
     obtain ⟨h4,h6,a⟩:=iLd a F0 c0
     obtain ⟨h7,h8,rfl,a⟩:=a.eltP
     obtain ⟨rfl,a⟩:=a.eltB
     obtain ⟨W,rfl,a⟩:=a.eltS
     refine y (Z5 (cs:=[.bool B.1,W.v]) P0 rfl e0 a F1) (yh (rLt (n:=1) (l:=[(B.1,B.2)]) a V2 [.agg #[.bool B.1,W.v]] (bp1 e0) rfl rfl (U1 (cs:=[.bool B.1,W.v]) rfl (mkP mkB (mkS F0)) E2)) fun h9 w a=>bE c fun i0 e7 c=>?_)
     replace a:=a.k3r
     refine yh (rAp a V2 e0 e0 rO1 e7) fun i1 w a=>q 8 rfl ?_
     cases c
     exact ln _ ((a.k3s).facts (S0 F2 (N0 (N0 (N0 E1)))))
    ·refine q 2 rfl ?_
     cases c
     exact lx _ (a.fc)
   ·refine q 2 rfl ?_
    cases c
    exact lx (_,_) a
  ·refine q 4 rfl (yh (rLt (n:=1) (l:=[h]) a V0 [iV h] (bp1 e0) rfl rfl (U1 (cs:=[iV h]) rfl mkI E2)) fun i2 w a=>bE c fun i3 e8 c=>?_)
   replace a:=a.k16
   exact yh (rAp a V0 e0 e0 rO1 e8) fun i4 w a=>q 6 rfl (jx (_,_,_,_,_) ⟨(a.k3t),c⟩)
 ·refine q 2 rfl ?_
  cases c
  exact lx (_,_) (a.k3u)
instance:CL prog 18 (type_of% @Cp):=⟨@Cp⟩
theorem Eo {b:Int} {out:Bool} (c:m_fs b=some out) (a:St w0 ax rs w):
  Calls prog 32 #[iV b] w (rv w0 ax rs (.bool out)):=by
 refine en func32 rfl ntmps32 fun Q j=>q 11 rfl ?_
 refine jW 3 [0] [(9,.bool ((decide (b < 2)) || (decide ((2147483647:Int) < b))))] (St w0 ax rs) rfl (fun f=>?_) ?_
 ·refine gB 6 rfl (fun d=>?_) fun d=>?_
  ·exact q 3 rfl (f _ _ a (O1 (C1 Value.bool (orT d)) rfl))
  ·exact q 3 rfl (f _ _ a (O1 (C1 Value.bool (orF d)) rfl))
 intro g w a
 refine v 0 ?_
 refine ⟨vt,fun _ c=>?_⟩
 refine bE c fun h i c=>?_
 refine lp i [0] (fun e=>[(3,iV e)]) (fun e=>St w0 ax rs) (fun | .inl ()=>(.exit 0,[],St w0 ax rs) | .inr ()=>(.ret,[(2,.bool false)],St w0 ax rs)) rfl a rfl ?_ ?_
 ·clear a
  intro g w a
  rcases h with ⟨⟩ | ⟨⟩
  ·exact vx
  ·exact vx
 rintro e g w k a c
 exact vx
instance:CL prog 32 (type_of% @Eo):=⟨@Eo⟩
theorem Do {l i:Int} {out:LI} (c:m_fv l i=some out) (a:St w0 ax rs w):
  Calls prog 19 #[iV l,iV i] w (ro w0 ax rs 3 I1 out):=by
 refine en func19 rfl ntmps19 fun Q o=>?_
 refine v 0 ?_
 refine ⟨fun _ c=>?_,fun _ c=>?_⟩
 ·cases c
  replace a:=a.rowNh 3 I1
  exact o _ _ _ (M3 results19 ⟨rfl,rfl⟩ ⟨_,rfl,a⟩)
 ·refine bE c fun m p c=>?_
  replace a:=a.rowNh 3 I1
  refine lpN Hdr Hdr p [1] (fun (b,d) e=>[(5,e.v),(6,iV d)]) (fun (b,d) e=>St w0 ax (row 3 I1 e.v b::rs)) (fun | m,j=>(.exit 0,[(5,j.v)],St w0 ax (row 3 I1 j.v m::rs))) rfl _ a rfl ?_ ?_
  ·clear a
   rintro j g w a
   exact vx
  rintro ⟨b,d⟩ e g w r a c
  refine q 6 rfl ?_
  refine jW 6 [1,5,6] [(20,.bool ((decide ((2:Int)≤d)) && (decide ((b.length:Int) < (imin i 100)))))] (St w0 ax (row 3 I1 e.v b::rs)) rfl (fun n=>?_) ?_
  ·refine gB 14 rfl (fun k=>?_) fun k=>?_
   ·refine z 1 4 ?_
    exact n _ _ a (O1 (C1 Value.bool (B6 k)) rfl)
   ·exact q 6 rfl (n _ _ a (O1 (C1 Value.bool (C6 k)) rfl))
  intro g w a
  refine v 25 ?_
  refine ⟨fun _ _ _ _ c w a=>?_,vt⟩
  refine jC (LI×Hdr) [1,6] (fun (f,h)=>[(5,h.v)]) (fun (f,h) w=>St w0 ax (row 3 I1 h.v f::rs) w∧m_ft d f=some r) rfl ?_ ?_
  ·rintro ⟨f,h⟩ g w ⟨a,c⟩
   exact vx
  exact vx
instance:CL prog 19 (type_of% @Do):=⟨@Do⟩
theorem Co {b:Bool} {k:LI} {d:Hdr} {out:Int×Bool} (c:m_fx b k=some out) (p:imm xw d.v k∈ax) (a:St w0 ax rs w):
  Calls prog 157 #[.agg #[.bool b,d.v]] w (rv w0 ax rs (.tuple #[iV out.1,.bool out.2])):=by
 refine en func157 rfl ntmps157 fun Q r=>?_
 refine v 0 ?_
 refine fun e _ _ m _ _ n w a=>⟨vt,fun _ c=>?_⟩
 refine bE c fun f o c=>?_
 refine lp o [1,14,15] (fun (h,i)=>[(5,.int .u64 h),(16,iV i)]) (fun (h,i)=>St w0 (imm xw n.v m::ax) (box e 62 [.bool b,d.v]::rs)) (fun | f=>(.exit 0,[(5,.int .u64 f)],St w0 ax (box e 62 [.bool b,d.v]::rs))) rfl a rfl ?_ ?_
 ·clear a
  intro g w a
  refine z 1 1 ?_
  refine jW 3 [1,5] [(35,.bool (b && (decide ((0:Int) < f))))] (St w0 ax (box e 62 [.bool b,d.v]::rs)) rfl (fun l=>?_) ?_
  ·refine gB 32 rfl (fun j=>?_) fun j=>?_
   ·exact q 3 rfl (l _ _ a (O1 (C1 Value.bool (B6 j)) rfl))
   ·exact q 3 rfl (l _ _ a (O1 (C1 Value.bool (C6 j)) rfl))
  intro g w a
  exact vx
 rintro ⟨h,i⟩ g w s a c
 exact vx
instance:CL prog 157 (type_of% @Co):=⟨@Co⟩
theorem Bo {e:Bool} {f:LI} {h:Int} {i:Hdr} {out:Int} (c:m_fy e f h=some out) (k:imm xw i.v f∈ax) (a:St w0 ax rs w):
  Calls prog 109 #[.agg #[.bool e,i.v],iV h] w (rv w0 ax rs (iV out)):=by
 refine en func109 rfl ntmps109 fun Q l=>?_
 refine z 1 4 ?_;intro m w a
 refine bE c fun n o c=>bE c fun j p c=>?_
 refine jN (Nat×Hdr) [] (fun (b,d)=>[(6,(pB b))]) (fun (b,d)=>St w0 (imm xw d.v j.2.2.2.1::ax) (box b 62 [.bool j.2.2.1,d.v]::rs)) rfl ?_ ?_
 ·refine dS [2,3,8,9,10,11,12] 7 A1 ?_
  replace a:=a.drew
  exact zx
 rintro ⟨b,d⟩ g w a
 exact vx
instance:CL prog 109 (type_of% @Bo):=⟨@Bo⟩
end Go.Proofs.YthekfonboblioabGreatDoor
