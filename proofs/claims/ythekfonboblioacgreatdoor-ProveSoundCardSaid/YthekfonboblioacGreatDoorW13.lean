/- Walks: each function computes its model, printed. -/
import Derived.Test.YthekfonboblioacGreatDoorW12
namespace Go.Proofs.YthekfonboblioacGreatDoor
open Go Sx M Go.Proofs.Tryz
set_option maxRecDepth 100000
set_option maxHeartbeats 40000000
set_option linter.unusedVariables false
attribute [local irreducible] wpList Code.wp Calls DR QR QS LA LS St row box fam imm rowS loop
variable {w0:World} {ros:List Fact} {rs:List Res} {w:World}
theorem qm {r:L2} {s:Int} {t:Hdr} {out:LI} (c:m_ko r s=some out) (B:imm S1 t.v r∈ros) (a:St w0 ros rs w):
  Calls prog 89 #[t.v,iV s] w (ro w0 ros rs 3 I1 out):=by
 refine en func89 rfl ntmps89 fun Q C=>?_
 refine z 1 4 ?_
 refine bE c fun u D c=>?_
 replace a:=(a.rowNh 3 I1).immNh S1
 refine lpN (Hdr×Hdr) Hdr D [1,12,13] (fun (m,o,b) (e,f)=>[(5,e.v),(6,f.v),(14,iV b)]) (fun (m,o,b) (e,f)=>St w0 (imm S1 f.v o::ros) (row 3 I1 e.v m::rs)) (fun | u,p=>(.exit 0,[(5,p.v)],St w0 ros (row 3 I1 p.v u::rs))) rfl (_,_) a rfl ?_ ?_
 ·clear a
  rintro p g w a
  refine q 9 rfl ?_
  cases c
  exact C _ _ _ (I3 results89 ⟨rfl,rfl⟩ ⟨_,rfl,a⟩)
 rintro ⟨m,o,b⟩ ⟨e,f⟩ g w E a c
 refine q 6 rfl (cI c (fun F c=>?_) fun F c=>?_)
 ·refine z 1 0 ?_;intro G H c
  obtain ⟨x,a⟩:=iLs a (mtF B) H
  refine y (yCt M1 e0 a F1 rfl) ?_
  refine z 1 1 ?_;intro L N c w a
  refine yh (rLt (n:=1) (l:=[G]) a ja [x.v] (bp1 e0) rfl rfl (N1 (cs:=[x.v]) rfl (mkS F0) Y1)) fun O w a=>bE c fun R I c=>yh (rApC a ja e0 F2 e0 rO0 I (List.cons_ne_nil _ _)) fun S w a=>bE c fun T J c=>q 7 rfl ?_
  have A:=a
  replace a:=a.fz
  have d:=a.guest0
  replace a:=A
  clear A
  refine yC (P9 iE (a2 e0 e0)) (Ch J F0 d) ?_
  clear d
  rintro _ w ⟨rfl,d⟩
  replace a:=a.back d
  clear d
  refine ⟨_,rfl,?_⟩
  refine nf ?_
  refine z 1 3 ?_
  refine jC (LI×L2×Hdr×Hdr) [1,12,13,14] (fun (h,i,j,k)=>[(5,j.v),(6,k.v)]) (fun (h,i,j,k) w=>St w0 (imm S1 k.v i::ros) (row 3 I1 j.v h::rs) w∧m_km b h i=some E) rfl ?_ ?_
  ·rintro ⟨h,i,j,k⟩ g w ⟨a,c⟩
   refine q 6 rfl ?_
   cases c
   exact ln (_,_) a
  refine cI c (fun K c=>?_) fun K c=>?_
  ·refine q 3 rfl (yh (rLt (n:=1) (l:=[b]) a W0 [iV b] (bp1 e0) rfl rfl (N1 (cs:=[iV b]) rfl mkI Y1)) fun U w a=>?_)
   refine z 1 4 ?_;intro V W c X w a
   replace a:=(a.k16).fz
   exact jx (_,_,_,_) ⟨((a.k22).facts (S0 F0 (N0 (N0 (N0 (N0 E1)))))),c⟩
  ·exact q 1 rfl (jx (_,_,_,_) ⟨((a.k2m).facts (S0 F2 (N0 (N0 (N0 E1))))),c⟩)
 ·refine q 2 rfl ?_
  cases c
  exact lx _ (a.fc)
instance:CL prog 89 (type_of% @qm):=⟨@qm⟩
theorem om {t:L2} {x:Int} {A:Hdr} {out:L2} (c:m_kr t x=some out) (J:imm S1 A.v t∈ros) (a:St w0 ros rs w):
  Calls prog 90 #[A.v,iV x] w (fun e w=>∃ (B:Hdr) (C:List Hdr),e=.returned (B.v)∧St w0 ros (row 24 rH B.v C::fam 3 I1 C out::rs) w):=by
 refine en func90 rfl ntmps90 fun Q K=>bE c fun X L c=>q 8 rfl ?_
 obtain ⟨N,em5,O⟩:=rj L hnil
 refine yh (rMk a Z2 e0 O) fun d w a=>?_
 replace a:=(a.fReps 3 I1 N).k10
 rw [← em5] at a
 refine q 7 rfl (y (J6 Z2 e0 a rO0 R1) (bE c fun D R c=>q 4 rfl ?_))
 refine lpN (List Hdr) (List Hdr) R [0,5,12] (fun (i,j) f=>[(13,iV j)]) (fun (i,j) f=>St w0 ros (row 24 rH d.v f::fam 3 I1 f i::rs)) (fun | D,k=>(.exit 0,[],St w0 ros (row 24 rH d.v k::fam 3 I1 k D::rs))) rfl _ a rfl ?_ ?_
 ·clear a
  rintro k g w a
  refine q 9 rfl ?_
  cases c
  exact K _ _ _ (I3 results90 ⟨rfl,rfl⟩ ⟨_,_,rfl,a⟩)
 rintro ⟨i,j⟩ f g w Z a c
 refine q 6 rfl (cI c (fun S c=>?_) fun S c=>?_)
 ·refine z 1 4 ?_
  refine bE c fun E T c=>?_
  refine lpN (List Hdr) (List Hdr) T [0,5,6,12,13,16,17] (fun (m,o) h=>[(18,iV o)]) (fun (m,o) h=>St w0 ros (row 24 rH d.v h::fam 3 I1 h m::rs)) (fun | E,p=>(.exit 2,[],St w0 ros (row 24 rH d.v p::fam 3 I1 p E::rs))) rfl _ a rfl ?_ ?_
  ·clear a
   rintro p g w a
   refine q 7 rfl ?_
   cases c
   exact ln _ a
  rintro ⟨m,o⟩ h g w a0 a c
  refine q 6 rfl (cI c (fun U c=>?_) fun U c=>?_)
  ·refine z 1 0 ?_;intro a1 V c
   obtain ⟨a2,a⟩:=iLs a J V
   refine y (yCt M1 e0 a F1 rfl) (bE c fun a3 F c=>bE c fun r G c=>bE c fun a4 W c=>bE c fun a5 H c=>q 3 rfl (dS [10,11,13] 3 C1 ?_))
   replace a:=a.drew
   refine D1 1023 0 10 rfl (qR 4 rfl ?_)
   obtain ⟨a6,b⟩:=a.famI R1 F
   refine rQ rfl (yIa Z2 e0 e0 a rO0 b) (rQ rfl (yF1 M1 e0 a rO0 b rfl) (qR 2 rfl (rQ rfl (yIa W0 e0 e0 a (rdI F0) G) (rQ rfl (yI O_3 e0 a (rdI F0) G) (Rn QSn (LH wn (rLt (n:=1) (l:=[r]) a W0 [iV r] (bp1 e0) rfl rfl (N1 (cs:=[iV r]) rfl mkI Y1)) fun a7 w a=>dU (D1 0 63 11 rfl (Rn (qS rfl (qS rfl (qS rfl (qS rfl (sY rfl (yIa Z2 e0 e0 a rO1 b) (sY rfl (yF1 M1 e0 a rO1 b rfl) QSn)))))) ?_))))))))
   replace a:=(a.k16).foc b F
   refine LH wn (rAp a W0 e0 e0 rO2 W) fun I w a=>dU (D0 4096 3 13 rfl ?_)
   obtain ⟨a8,s⟩:=H9 (u:=I) H (a.famLx (mtR mhR))
   refine rQ rfl (yIs Z2 e0 e0 a rO3 s) (Rn (qS rfl (qS rfl QSn)) ?_)
   replace a:=a.k1f
   refine LT wn (W3 (cs:=[I.v]) a M1 rfl e0 e0 rfl (mkF rfl) s) fun w a=>?_
   replace a:=(a.k1c).unfS b s H
   refine z 1 6 ?_
   cases c
   exact ln _ ((a.k1e).fc)
  ·refine q 2 rfl ?_
   cases c
   exact lx _ a
 ·refine q 2 rfl ?_
  cases c
  exact lx _ a
instance:CL prog 90 (type_of% @om):=⟨@om⟩
theorem Bh {i b:Int} {s t u:LI} {j k l:Hdr} {out:Int×Int×LI×LI×(List (List (Bool×LI)))×Int} (c:m_kt i b s t u=some out) (U:imm I1 j.v s∈ros) (V:imm I1 k.v t∈ros) (W:imm (rI .u64) l.v u∈ros) (X:globF∈ros) (a:St w0 ros rs w):
  Calls prog 35 #[.agg #[iV i,iV b,j.v,k.v,l.v]] w (fun e w=>∃ (x A B:Hdr) (C:List Hdr),e=.returned (.tuple #[.agg #[iV out.1,iV out.2.1,x.v,A.v,B.v],iV out.2.2.2.2.2])∧St w0 ros (row 3 I1 x.v out.2.2.1::row 3 I1 A.v out.2.2.2.1::row 39 rH B.v C::fam 52 (rP rB (rS (rI .u32))) C out.2.2.2.2.1::rs) w):=by
 refine en func35 rfl ntmps35 fun Q m=>?_
 refine z 4 16 ?_;intro G w a n w a H Z c I a0 w a
 refine cIn c (fun J c=>?_) fun J c=>?_
 ·refine z 1 0 ?_
  refine bE c fun d a1 c=>?_
  replace a:=a.ffz
  refine z 6 0 ?_;intro f h w a K w a w a
  refine y (J6 O4 e0 a rO1 R2) ?_
  refine z 3 4 ?_;intro w a L a2 c N w a
  refine bE c fun O R c=>?_
  refine lpN Unit (Hdr×Hdr) R [1,2,4,7,34,35] (fun o _=>[(36,iV o)]) (fun o _=>St w0 (imm (rS (rP rB (rS (rI .u32)))) I.v H.1::ros) (box G 27 [iV i,iV b,j.v,k.v,l.v]::box n 35 [iV 0,iV 0,hnil.v,hnil.v,hnil.v]::row 39 rH f.v h::fam 52 (rP rB (rS (rI .u32))) h d::box K 35 [iV (ws .i64 b (d.length:Int)),iV 0,hnil.v,hnil.v,f.v]::row 3 I1 N.v L::rs)) (fun | .inl (),(_,_)=>(.exit 0,[],St w0 ros (box n 35 [iV 0,iV 0,hnil.v,hnil.v,hnil.v]::rs)) | .inr (D,E,F),(p,r)=>(.ret,[(3,iV 0)],St w0 ros (row 3 I1 p.v E::row 3 I1 r.v F::row 39 rH f.v h::fam 52 (rP rB (rS (rI .u32))) h d::box n 35 [iV (ws .i64 b (d.length:Int)),iV D,p.v,r.v,f.v]::rs))) rfl () (a.k2n) rfl ?_ ?_
  ·clear a
   rintro ⟨p,r⟩ g w a
   rcases O with ⟨⟩ | ⟨D,E,F⟩
   ·refine z 2 4 ?_;intro w a
    cases c
    replace a:=((((a.rowNh 3 I1).rowNh 3 I1).rowNh 39 rH).fNew 52 (rP rB (rS (rI .u32)))).k10
    exact m _ _ _ (G4 results35 (A4 rfl rfl a R4 C8 rfl) ⟨rfl,rfl⟩ ⟨_,_,_,_,rfl,(a.k2o)⟩)
   ·refine q 2 rfl ?_
    cases c
    exact m _ _ _ (G4 results35 (A4 rfl rfl a R4 C8 rfl) ⟨rfl,rfl⟩ ⟨_,_,_,_,rfl,(a.k2p)⟩)
  rintro o _ g w a3 a c
  refine q 6 rfl (cI c (fun S c=>?_) fun S c=>?_)
  ·refine z 3 7 ?_;intro a4 a5 c a6 a7 c a8 a9 w a
   refine bE c fun b0 b1 c=>?_
   replace a:=a.ffz
   refine z 3 3 ?_;intro b2 w a
   refine cI c (fun T c=>?_) fun T c=>?_
   ·refine z 2 1 ?_;intro b3 b4 c b5 b6 w a
    refine bE c fun b7 b8 c=>?_
    replace a:=a.ffz
    refine z 6 6 ?_;intro c0 w a w a w a w a w a
    cases c
    exact lx (_,_) ((a.k2q).fc)
   ·refine q 7 rfl ?_
    cases c
    exact ln () ((a.k2r).facts (S0 F1 (N0 (N0 E1))))
  ·refine q 2 rfl ?_
   cases c
   exact lx (hnil,hnil) ((a.k2s).fc)
 ·refine z 2 5 ?_;intro w a
  cases c
  replace a:=((((a.rowNh 3 I1).rowNh 3 I1).rowNh 39 rH).fNew 52 (rP rB (rS (rI .u32)))).k10
  exact m _ _ _ (G4 results35 (A4 rfl rfl a R4 C8 rfl) ⟨rfl,rfl⟩ ⟨_,_,_,_,rfl,(a.k2t)⟩)
instance:CL prog 35 (type_of% @Bh):=⟨@Bh⟩
theorem mm {b d:Int} {f g h:LI} {i j k:Hdr} {out:(List (Bool×LI))×Bool×Int} (c:m_ku b d f g h=some out) (o:imm I1 i.v f∈ros) (p:imm I1 j.v g∈ros) (q:imm (rI .u64) k.v h∈ros) (r:globF∈ros) (a:St w0 ros rs w):
  Calls prog 36 #[.agg #[iV b,iV d,i.v,j.v,k.v]] w (fun e w=>∃ (l:Hdr),e=.returned (.tuple #[l.v,.bool out.2.1,iV out.2.2])∧St w0 (imm (rP rB (rS (rI .u32))) l.v out.1::ros) rs w):=by
 refine en func36 rfl ntmps36 fun Q m=>?_
 refine v 0 ?_
 refine fun _ _ _ _ _ _ _ _ w a=>⟨fun _ c=>?_,fun _ c=>?_⟩
 ·refine bE c fun s t c=>?_
  replace a:=a.ffz
  refine z 1 0 ?_;intro u x w a
  replace a:=a.ffz
  refine v 0 ?_
  refine ⟨fun _ c=>?_,fun _ _ _ n c=>?_⟩
  ·cases c
   replace a:=a.immNh (rP rB (rS (rI .u32)))
   exact m _ _ _ (J9 results36 ⟨rfl,rfl⟩ ⟨rfl,rfl⟩ ⟨rfl,rfl⟩ ⟨_,rfl,((a.k14).facts (S0 F0 (N0 (N0 (N0 E1)))))⟩)
  ·obtain ⟨y,a⟩:=iLs a F0 n
   exact vx
 ·cases c
  replace a:=a.immNh (rP rB (rS (rI .u32)))
  exact m _ _ _ (J9 results36 ⟨rfl,rfl⟩ ⟨rfl,rfl⟩ ⟨rfl,rfl⟩ ⟨_,rfl,(a.k1b)⟩)
instance:CL prog 36 (type_of% @mm):=⟨@mm⟩
theorem km {d e:LI} {f h:Hdr} {out:Bool} (c:m_kw d e=some out) (k:imm (rI .u32) f.v d∈ros) (l:imm (rI .u32) h.v e∈ros) (a:St w0 ros rs w):
  Calls prog 91 #[f.v,h.v] w (rv w0 ros rs (.bool out)):=by
 refine en func91 rfl ntmps91 fun Q m=>?_
 refine v 0 ?_
 refine ⟨fun _ c=>?_,vt⟩
 refine bE c fun i j c=>?_
 refine lp j [0,1] (fun b=>[(5,iV b)]) (fun b=>St w0 ros rs) (fun | .inl ()=>(.exit 0,[],St w0 ros rs) | .inr ()=>(.ret,[(4,.bool false)],St w0 ros rs)) rfl a rfl ?_ ?_
 ·clear a
  intro g w a
  rcases i with ⟨⟩ | ⟨⟩
  ·exact vx
  ·exact vx
 rintro b g w n a c
 exact vx
instance:CL prog 91 (type_of% @km):=⟨@km⟩
theorem ef {d:Bool} {e:LI} {f:Bool} {h:LI} {i j:Hdr} {out:Bool} (c:m_kx d e f h=some out) (n:imm (rI .u32) i.v e∈ros) (o:imm (rI .u32) j.v h∈ros) (a:St w0 ros rs w):
  Calls prog 37 #[.agg #[.bool d,i.v],.agg #[.bool f,j.v]] w (rv w0 ros rs (.bool out)):=by
 refine en func37 rfl ntmps37 fun Q p=>?_
 refine z 4 0 ?_;intro r w a s w a
 refine y (We I0 e0 e0) (bE c fun l b c=>q 1 rfl ?_)
 refine jW 6 [] [(16,.bool l)] (St w0 ros rs) rfl (fun k=>?_) ?_
 ·refine gJ 10 b rfl (fun m b=>?_) fun m b=>?_
  ·refine z 2 0 ?_
   refine bE b fun t u b=>?_
   refine z 1 1 ?_;intro w a
   cases b
   exact k _ _ (a.k19) rfl
  ·refine q 6 rfl ?_
   cases b
   exact k _ _ (a.k19) rfl
 intro g w a
 exact vx
instance:CL prog 37 (type_of% @ef):=⟨@ef⟩
theorem Ah {out:Bool} (c:m_ky=some out) (Z:globF∈ros) (a:St w0 ros rs w):
  Calls prog 10 #[] w (rv w0 ros rs (.bool out)):=by
 refine en func10 rfl ntmps10 fun Q i4=>?_
 refine z 2 6 ?_;intro G i5 c w a V i6 c w a
 refine yh (rLt (n:=3) (l:=[0,2,4]) a W0 [iV 0,iV 2,iV 4] (bp3 rfl rfl rfl) rfl rfl (N1 (cs:=[iV 0]) rfl mkI (N1 (cs:=[iV 2]) rfl mkI (N1 (cs:=[iV 4]) rfl mkI Y1)))) fun g2 w a=>yh (rLt (n:=4) (l:=[0,1,0,1]) a W0 [iV 0,iV 1,iV 0,iV 1] (bp4 rfl rfl rfl rfl) rfl rfl (N1 (cs:=[iV 0]) rfl mkI (N1 (cs:=[iV 1]) rfl mkI (N1 (cs:=[iV 0]) rfl mkI (N1 (cs:=[iV 1]) rfl mkI Y1))))) fun g3 w a=>q 3 rfl (yh (rLt (n:=4) (l:=[4607182418800017408,G,G,V]) a ka [.int .u64 4607182418800017408,.int .u64 G,.int .u64 G,.int .u64 V] (bp4 rfl e0 e0 e0) rfl rfl (N1 (cs:=[.int .u64 4607182418800017408]) rfl mkI (N1 (cs:=[.int .u64 G]) rfl mkI (N1 (cs:=[.int .u64 G]) rfl mkI (N1 (cs:=[.int .u64 V]) rfl mkI Y1))))) fun g4 w a=>?_)
 refine z 4 0 ?_;intro i7 w a w a
 refine bE c fun m g5 c=>?_
 replace a:=(((((a.k1f).fz).k16).fz).k10).fz
 refine yC (P9 ZD (a1 e0)) (Bh g5 F2 F1 F0 (F_3 Z) a) ?_
 rintro _ w ⟨g6,g7,K,i8,rfl,a⟩
 refine ⟨_,rfl,?_⟩
 refine nf ?_
 refine z 4 10 ?_;intro i9 w a w a j0 j1 c j2 w a
 refine bE c fun u L c=>bE c fun s D c=>bE c fun r y c=>bE c fun o t c=>bE c fun k p c=>bE c fun i j c=>bE c fun f b c=>bE c fun e d c=>?_
 refine jN Unit [] (fun _=>[(0,.bool e)]) (fun _=>St w0 ros rs) rfl ?_ ?_
 ·rcases Z5 L with ⟨x,L⟩ | ⟨x,L⟩
  ·have B:=U1 L
   rcases Z5 D with ⟨A,D⟩ | ⟨A,D⟩
   ·have E:=U1 D
    rcases Z5 y with ⟨C,y⟩ | ⟨C,y⟩
    ·have H:=U1 y
     rcases Z5 t with ⟨F,t⟩ | ⟨F,t⟩
     ·have N:=U1 t
      rcases Z5 p with ⟨I,p⟩ | ⟨I,p⟩
      ·have S:=U1 p
       rcases Z5 j with ⟨O,j⟩ | ⟨O,j⟩
       ·have W:=U1 j
        rcases Z5 b with ⟨T,b⟩ | ⟨T,b⟩
        ·refine bE b fun U J b=>bE b fun j3 a0 b=>bE b fun j4 a2 b=>?_
         have a3:=U1 b
         rcases Z5 d with ⟨X,d⟩ | ⟨X,d⟩
         ·refine bE d fun j5 g8 d=>?_
          have g9:=U1 d
          refine dS [34,35,40,42] 4 C1 ?_
          replace a:=a.drew
          refine D1 17179869183 0 34 rfl (qR 3 rfl (rK 31 rfl (dT x) (qR 2 rfl (rQ rfl (pt_ (.bool u) e0 rfl (eqv B e0)) (qR 1 rfl (rK 35 rfl A (qR 1 rfl (rQ rfl (pt_ (.bool s) e0 rfl (eqv E e0)) (qR 1 rfl (rK 38 rfl C (qR 1 rfl (rQ rfl (lb_ (iV m.1) O_3 e0 a R0) (qR 1 rfl ?_)))))))))))))
          refine rQ rfl (pt_ (.bool r) e0 rfl (eqv H e0)) (qR 1 rfl (rK 43 rfl F (qR 1 rfl (rQ rfl (lb_ (iV m.2.1) O_3 e0 a R0) (qR 1 rfl (rQ rfl (pt_ (.bool o) e0 rfl (eqv N e0)) (qR 1 rfl (rK 48 rfl I (qR 1 rfl (rQ rfl (lb_ K.v V5 e0 a R0) (rQ rfl (J6 O4 e0 a rO3 R4) (qR 1 rfl (rQ rfl (pt_ (.bool k) e0 rfl (eqv S e0)) ?_)))))))))))))
          refine qR 1 rfl (rK 54 rfl O (qR 1 rfl (rQ rfl (Y2 D3 e0 a (rdI F0)) (qR 1 rfl (rQ rfl (pt_ (.bool i) e0 rfl (eqv W e0)) (qR 1 rfl (rK 59 rfl T (qR 1 rfl (rQ rfl (yIa D3 e0 rfl a (rdI F0) J) ?_)))))))))
          obtain ⟨j6,j7,a⟩:=iLd a F0 J
          obtain ⟨j8,j9,rfl,a⟩:=a.eltP
          obtain ⟨rfl,a⟩:=a.eltB
          obtain ⟨R,rfl,a⟩:=a.eltS
          refine rQ rfl (V6 (cs:=[.bool U.1,R.v]) P0 rfl e0 a F1) (Rn QSn (kO (w_f a0 a) fun h0 w a=>dU (D1 0 15032385536 35 rfl (Rn (qS rfl (sY rfl (yIa D3 e0 rfl a (rdI F2) J) (sY rfl (V6 (cs:=[.bool U.1,R.v]) P0 rfl e0 a F1) QSn))) ?_))))
          replace a:=a.fz
          refine kZ (ef a2 F1 F0 a) fun w a=>dU (D1 1030792151040 0 40 rfl (rQ rfl (pt_ (.bool f) e0 rfl (eqv a3 e0)) (qR 1 rfl (rK 66 rfl X (rQ rfl (J2 [iV 2,iV 2,g2.v,g3.v,g4.v] L9 e0 a R5) (rQ rfl (J2 [iV m.1,iV m.2.1,g6.v,g7.v,K.v] C8 e0 a R0) (Rn QSn ?_)))))))
          replace a:=(((((a.k10).fz).k10).fz).k1c).ffz
          exact kZ (ff g8 F9 F8 F7 F2 F1 F0 (F_10 Z) a) fun w a=>dU (D1 2199023255552 0 42 rfl (rQ rfl (pt_ (.bool e) e0 rfl (eqv g9 e0)) (Rn QSn (Ly wn (a_ (.bool e) e0) (dU (Dw 0 0 (Rn QSn (jr () ((a.k19).fc)))))))))
         ·have h1:=U1 d
          refine dS [34,35,40,42] 4 C1 ?_
          replace a:=a.drew
          refine D1 17179869183 0 34 rfl (qR 3 rfl (rK 31 rfl (dT x) (qR 2 rfl (rQ rfl (pt_ (.bool u) e0 rfl (eqv B e0)) (qR 1 rfl (rK 35 rfl A (qR 1 rfl (rQ rfl (pt_ (.bool s) e0 rfl (eqv E e0)) (qR 1 rfl (rK 38 rfl C (qR 1 rfl (rQ rfl (lb_ (iV m.1) O_3 e0 a R0) (qR 1 rfl ?_)))))))))))))
          refine rQ rfl (pt_ (.bool r) e0 rfl (eqv H e0)) (qR 1 rfl (rK 43 rfl F (qR 1 rfl (rQ rfl (lb_ (iV m.2.1) O_3 e0 a R0) (qR 1 rfl (rQ rfl (pt_ (.bool o) e0 rfl (eqv N e0)) (qR 1 rfl (rK 48 rfl I (qR 1 rfl (rQ rfl (lb_ K.v V5 e0 a R0) (rQ rfl (J6 O4 e0 a rO3 R4) (qR 1 rfl (rQ rfl (pt_ (.bool k) e0 rfl (eqv S e0)) ?_)))))))))))))
          refine qR 1 rfl (rK 54 rfl O (qR 1 rfl (rQ rfl (Y2 D3 e0 a (rdI F0)) (qR 1 rfl (rQ rfl (pt_ (.bool i) e0 rfl (eqv W e0)) (qR 1 rfl (rK 59 rfl T (qR 1 rfl (rQ rfl (yIa D3 e0 rfl a (rdI F0) J) ?_)))))))))
          obtain ⟨k0,k1,a⟩:=iLd a F0 J
          obtain ⟨k2,k3,rfl,a⟩:=a.eltP
          obtain ⟨rfl,a⟩:=a.eltB
          obtain ⟨R,rfl,a⟩:=a.eltS
          refine rQ rfl (V6 (cs:=[.bool U.1,R.v]) P0 rfl e0 a F1) (Rn QSn (kO (w_f a0 a) fun h0 w a=>dU (D1 0 15032385536 35 rfl (Rn (qS rfl (sY rfl (yIa D3 e0 rfl a (rdI F2) J) (sY rfl (V6 (cs:=[.bool U.1,R.v]) P0 rfl e0 a F1) QSn))) ?_))))
          replace a:=a.fz
          refine kZ (ef a2 F1 F0 a) fun w a=>dU (D1 1030792151040 0 40 rfl (rQ rfl (pt_ (.bool f) e0 rfl (eqv a3 e0)) (qR 1 rfl (rK 66 rfl (J3 X) (qR 2 rfl (Rn QSn (Lx (Q2.2 rfl) (dU (D1 2199023255552 0 42 rfl (rQ rfl (pf_ (.bool e) e0 rfl (eqv h1 rfl)) (Rn QSn (Ly wn (a_ (.bool e) e0) ?_))))))))))))
          exact dU (Dw 0 0 (Rn QSn (jr () ((a.k2u).fc))))
        ·have a4:=U1 b
         have a5:¬ f=true:=fun h=>Q4 (a4.trans h)
         rw [K0 a5] at d
         have h2:=U1 d
         refine dS [34,35,40,42] 4 C1 ?_
         replace a:=a.drew
         refine D1 17179869183 0 34 rfl (qR 3 rfl (rK 31 rfl (dT x) (qR 2 rfl (rQ rfl (pt_ (.bool u) e0 rfl (eqv B e0)) (qR 1 rfl (rK 35 rfl A (qR 1 rfl (rQ rfl (pt_ (.bool s) e0 rfl (eqv E e0)) (qR 1 rfl (rK 38 rfl C (qR 1 rfl (rQ rfl (lb_ (iV m.1) O_3 e0 a R0) (qR 1 rfl ?_)))))))))))))
         refine rQ rfl (pt_ (.bool r) e0 rfl (eqv H e0)) (qR 1 rfl (rK 43 rfl F (qR 1 rfl (rQ rfl (lb_ (iV m.2.1) O_3 e0 a R0) (qR 1 rfl (rQ rfl (pt_ (.bool o) e0 rfl (eqv N e0)) (qR 1 rfl (rK 48 rfl I (qR 1 rfl (rQ rfl (lb_ K.v V5 e0 a R0) (rQ rfl (J6 O4 e0 a rO3 R4) (qR 1 rfl (rQ rfl (pt_ (.bool k) e0 rfl (eqv S e0)) ?_)))))))))))))
         refine qR 1 rfl (rK 54 rfl O (qR 1 rfl (rQ rfl (Y2 D3 e0 a (rdI F0)) (qR 1 rfl (rQ rfl (pt_ (.bool i) e0 rfl (eqv W e0)) (qR 1 rfl (rK 59 rfl (J3 T) (qR 3 rfl (Rn QSn (Lx (Q2.2 rfl) (dU (D1 0 15032385536 35 rfl (Rn (qS rfl (qS rfl (qS rfl QSn))) ?_)))))))))))))
         refine Lx (Q2.2 rfl) (dU (D1 1030792151040 0 40 rfl (rQ rfl (pf_ (.bool f) e0 rfl (eqv a4 rfl)) (qR 1 rfl (rK 66 rfl (J3 a5) (qR 2 rfl (Rn QSn (Lx (Q2.2 rfl) (dU (D1 2199023255552 0 42 rfl (rQ rfl (pf_ (.bool e) e0 rfl (eqv h2 rfl)) (Rn QSn (Ly wn (a_ (.bool e) e0) ?_)))))))))))))
         exact dU (Dw 0 0 (Rn QSn (jr () ((a.k2u).fc))))
       ·have a6:=U1 j
        have a7:¬ i=true:=fun h=>Q4 (a6.trans h)
        rw [K0 a7] at b
        have a8:=U1 b
        have a9:¬ f=true:=fun h=>Q4 (a8.trans h)
        rw [K0 a9] at d
        have h6:=U1 d
        refine dS [34,35,40,42] 4 C1 ?_
        replace a:=a.drew
        refine D1 17179869183 0 34 rfl (qR 3 rfl (rK 31 rfl (dT x) (qR 2 rfl (rQ rfl (pt_ (.bool u) e0 rfl (eqv B e0)) (qR 1 rfl (rK 35 rfl A (qR 1 rfl (rQ rfl (pt_ (.bool s) e0 rfl (eqv E e0)) (qR 1 rfl (rK 38 rfl C (qR 1 rfl (rQ rfl (lb_ (iV m.1) O_3 e0 a R0) (qR 1 rfl ?_)))))))))))))
        refine rQ rfl (pt_ (.bool r) e0 rfl (eqv H e0)) (qR 1 rfl (rK 43 rfl F (qR 1 rfl (rQ rfl (lb_ (iV m.2.1) O_3 e0 a R0) (qR 1 rfl (rQ rfl (pt_ (.bool o) e0 rfl (eqv N e0)) (qR 1 rfl (rK 48 rfl I (qR 1 rfl (rQ rfl (lb_ K.v V5 e0 a R0) (rQ rfl (J6 O4 e0 a rO3 R4) (qR 1 rfl (rQ rfl (pt_ (.bool k) e0 rfl (eqv S e0)) ?_)))))))))))))
        refine qR 1 rfl (rK 54 rfl (J3 O) (qR 3 rfl (rQ rfl (pf_ (.bool i) e0 rfl (eqv a6 rfl)) (qR 1 rfl (rK 59 rfl (J3 a7) (qR 3 rfl (Rn QSn (Lx (Q2.2 rfl) (dU (D1 0 15032385536 35 rfl (Rn (qS rfl (qS rfl (qS rfl QSn))) (Lx (Q2.2 rfl) (dU ?_)))))))))))))
        refine D1 1030792151040 0 40 rfl (rQ rfl (pf_ (.bool f) e0 rfl (eqv a8 rfl)) (qR 1 rfl (rK 66 rfl (J3 a9) (qR 2 rfl (Rn QSn (Lx (Q2.2 rfl) (dU (D1 2199023255552 0 42 rfl (rQ rfl (pf_ (.bool e) e0 rfl (eqv h6 rfl)) (Rn QSn (Ly wn (a_ (.bool e) e0) (dU (Dw 0 0 ?_)))))))))))))
        exact Rn QSn (jr () ((a.k2u).fc))
      ·have b0:=U1 p
       have b1:¬ k=true:=fun h=>Q4 (b0.trans h)
       rw [K0 b1] at j
       have b2:=U1 j
       have b3:¬ i=true:=fun h=>Q4 (b2.trans h)
       rw [K0 b3] at b
       have b4:=U1 b
       have b5:¬ f=true:=fun h=>Q4 (b4.trans h)
       rw [K0 b5] at d
       have h7:=U1 d
       refine dS [34,35,40,42] 4 C1 ?_
       replace a:=a.drew
       refine D1 17179869183 0 34 rfl (qR 3 rfl (rK 31 rfl (dT x) (qR 2 rfl (rQ rfl (pt_ (.bool u) e0 rfl (eqv B e0)) (qR 1 rfl (rK 35 rfl A (qR 1 rfl (rQ rfl (pt_ (.bool s) e0 rfl (eqv E e0)) (qR 1 rfl (rK 38 rfl C (qR 1 rfl (rQ rfl (lb_ (iV m.1) O_3 e0 a R0) (qR 1 rfl ?_)))))))))))))
       refine rQ rfl (pt_ (.bool r) e0 rfl (eqv H e0)) (qR 1 rfl (rK 43 rfl F (qR 1 rfl (rQ rfl (lb_ (iV m.2.1) O_3 e0 a R0) (qR 1 rfl (rQ rfl (pt_ (.bool o) e0 rfl (eqv N e0)) (qR 1 rfl (rK 48 rfl (J3 I) (qR 4 rfl (rQ rfl (pf_ (.bool k) e0 rfl (eqv b0 rfl)) (qR 1 rfl (rK 54 rfl (J3 b1) (qR 3 rfl ?_)))))))))))))
       refine rQ rfl (pf_ (.bool i) e0 rfl (eqv b2 rfl)) (qR 1 rfl (rK 59 rfl (J3 b3) (qR 3 rfl (Rn QSn (Lx (Q2.2 rfl) (dU (D1 0 15032385536 35 rfl (Rn (qS rfl (qS rfl (qS rfl QSn))) (Lx (Q2.2 rfl) (dU (D1 1030792151040 0 40 rfl (rQ rfl (pf_ (.bool f) e0 rfl (eqv b4 rfl)) (qR 1 rfl ?_)))))))))))))
       exact rK 66 rfl (J3 b5) (qR 2 rfl (Rn QSn (Lx (Q2.2 rfl) (dU (D1 2199023255552 0 42 rfl (rQ rfl (pf_ (.bool e) e0 rfl (eqv h7 rfl)) (Rn QSn (Ly wn (a_ (.bool e) e0) (dU (Dw 0 0 (Rn QSn (jr () ((a.k2u).fc)))))))))))))
     ·have b7:=U1 t
      have b8:¬ o=true:=fun h=>Q4 (b7.trans h)
      rw [K0 b8] at p
      have b9:=U1 p
      have c0:¬ k=true:=fun h=>Q4 (b9.trans h)
      rw [K0 c0] at j
      have c1:=U1 j
      have c2:¬ i=true:=fun h=>Q4 (c1.trans h)
      rw [K0 c2] at b
      have c3:=U1 b
      have c4:¬ f=true:=fun h=>Q4 (c3.trans h)
      rw [K0 c4] at d
      have i0:=U1 d
      refine dS [34,35,40,42] 4 C1 ?_
      replace a:=a.drew
      refine D1 17179869183 0 34 rfl (qR 3 rfl (rK 31 rfl (dT x) (qR 2 rfl (rQ rfl (pt_ (.bool u) e0 rfl (eqv B e0)) (qR 1 rfl (rK 35 rfl A (qR 1 rfl (rQ rfl (pt_ (.bool s) e0 rfl (eqv E e0)) (qR 1 rfl (rK 38 rfl C (qR 1 rfl (rQ rfl (lb_ (iV m.1) O_3 e0 a R0) (qR 1 rfl ?_)))))))))))))
      refine rQ rfl (pt_ (.bool r) e0 rfl (eqv H e0)) (qR 1 rfl (rK 43 rfl (J3 F) (qR 3 rfl (rQ rfl (pf_ (.bool o) e0 rfl (eqv b7 rfl)) (qR 1 rfl (rK 48 rfl (J3 b8) (qR 4 rfl (rQ rfl (pf_ (.bool k) e0 rfl (eqv b9 rfl)) (qR 1 rfl (rK 54 rfl (J3 c0) (qR 3 rfl (rQ rfl (pf_ (.bool i) e0 rfl (eqv c1 rfl)) (qR 1 rfl ?_)))))))))))))
      refine rK 59 rfl (J3 c2) (qR 3 rfl (Rn QSn (Lx (Q2.2 rfl) (dU (D1 0 15032385536 35 rfl (Rn (qS rfl (qS rfl (qS rfl QSn))) (Lx (Q2.2 rfl) (dU (D1 1030792151040 0 40 rfl (rQ rfl (pf_ (.bool f) e0 rfl (eqv c3 rfl)) (qR 1 rfl (rK 66 rfl (J3 c4) (qR 2 rfl ?_)))))))))))))
      exact Rn QSn (Lx (Q2.2 rfl) (dU (D1 2199023255552 0 42 rfl (rQ rfl (pf_ (.bool e) e0 rfl (eqv i0 rfl)) (Rn QSn (Ly wn (a_ (.bool e) e0) (dU (Dw 0 0 (Rn QSn (jr () ((a.k2u).fc)))))))))))
    ·have c5:=U1 y
     have c6:¬ r=true:=fun h=>Q4 (c5.trans h)
     rw [K0 c6] at t
     have c7:=U1 t
     have c8:¬ o=true:=fun h=>Q4 (c7.trans h)
     rw [K0 c8] at p
     have c9:=U1 p
     have d0:¬ k=true:=fun h=>Q4 (c9.trans h)
     rw [K0 d0] at j
     have d1:=U1 j
     have d2:¬ i=true:=fun h=>Q4 (d1.trans h)
     rw [K0 d2] at b
     have d3:=U1 b
     have d4:¬ f=true:=fun h=>Q4 (d3.trans h)
     rw [K0 d4] at d
     have i1:=U1 d
     refine dS [34,35,40,42] 4 C1 ?_
     replace a:=a.drew
     refine D1 17179869183 0 34 rfl (qR 3 rfl (rK 31 rfl (dT x) (qR 2 rfl (rQ rfl (pt_ (.bool u) e0 rfl (eqv B e0)) (qR 1 rfl (rK 35 rfl A (qR 1 rfl (rQ rfl (pt_ (.bool s) e0 rfl (eqv E e0)) (qR 1 rfl (rK 38 rfl (J3 C) (qR 3 rfl (rQ rfl (pf_ (.bool r) e0 rfl (eqv c5 rfl)) (qR 1 rfl ?_)))))))))))))
     refine rK 43 rfl (J3 c6) (qR 3 rfl (rQ rfl (pf_ (.bool o) e0 rfl (eqv c7 rfl)) (qR 1 rfl (rK 48 rfl (J3 c8) (qR 4 rfl (rQ rfl (pf_ (.bool k) e0 rfl (eqv c9 rfl)) (qR 1 rfl (rK 54 rfl (J3 d0) (qR 3 rfl (rQ rfl (pf_ (.bool i) e0 rfl (eqv d1 rfl)) (qR 1 rfl (rK 59 rfl (J3 d2) (qR 3 rfl ?_)))))))))))))
     refine Rn QSn (Lx (Q2.2 rfl) (dU (D1 0 15032385536 35 rfl (Rn (qS rfl (qS rfl (qS rfl QSn))) (Lx (Q2.2 rfl) (dU (D1 1030792151040 0 40 rfl (rQ rfl (pf_ (.bool f) e0 rfl (eqv d3 rfl)) (qR 1 rfl (rK 66 rfl (J3 d4) (qR 2 rfl (Rn QSn (Lx (Q2.2 rfl) ?_)))))))))))))
     exact dU (D1 2199023255552 0 42 rfl (rQ rfl (pf_ (.bool e) e0 rfl (eqv i1 rfl)) (Rn QSn (Ly wn (a_ (.bool e) e0) (dU (Dw 0 0 (Rn QSn (jr () ((a.k2u).fc)))))))))
   ·have d5:=U1 D
    have d6:¬ s=true:=fun h=>Q4 (d5.trans h)
    rw [K0 d6] at y
    have d7:=U1 y
    have d8:¬ r=true:=fun h=>Q4 (d7.trans h)
    rw [K0 d8] at t
    have d9:=U1 t
    have e1:¬ o=true:=fun h=>Q4 (d9.trans h)
    rw [K0 e1] at p
    have e2:=U1 p
    have e3:¬ k=true:=fun h=>Q4 (e2.trans h)
    rw [K0 e3] at j
    have e4:=U1 j
    have e5:¬ i=true:=fun h=>Q4 (e4.trans h)
    rw [K0 e5] at b
    have e6:=U1 b
    have e7:¬ f=true:=fun h=>Q4 (e6.trans h)
    rw [K0 e7] at d
    have i2:=U1 d
    refine dS [34,35,40,42] 4 C1 ?_
    replace a:=a.drew
    refine D1 17179869183 0 34 rfl (qR 3 rfl (rK 31 rfl (dT x) (qR 2 rfl (rQ rfl (pt_ (.bool u) e0 rfl (eqv B e0)) (qR 1 rfl (rK 35 rfl (J3 A) (qR 1 rfl (rQ rfl (pf_ (.bool s) e0 rfl (eqv d5 rfl)) (qR 1 rfl (rK 38 rfl (J3 d6) (qR 3 rfl (rQ rfl (pf_ (.bool r) e0 rfl (eqv d7 rfl)) (qR 1 rfl ?_)))))))))))))
    refine rK 43 rfl (J3 d8) (qR 3 rfl (rQ rfl (pf_ (.bool o) e0 rfl (eqv d9 rfl)) (qR 1 rfl (rK 48 rfl (J3 e1) (qR 4 rfl (rQ rfl (pf_ (.bool k) e0 rfl (eqv e2 rfl)) (qR 1 rfl (rK 54 rfl (J3 e3) (qR 3 rfl (rQ rfl (pf_ (.bool i) e0 rfl (eqv e4 rfl)) (qR 1 rfl (rK 59 rfl (J3 e5) (qR 3 rfl ?_)))))))))))))
    refine Rn QSn (Lx (Q2.2 rfl) (dU (D1 0 15032385536 35 rfl (Rn (qS rfl (qS rfl (qS rfl QSn))) (Lx (Q2.2 rfl) (dU (D1 1030792151040 0 40 rfl (rQ rfl (pf_ (.bool f) e0 rfl (eqv e6 rfl)) (qR 1 rfl (rK 66 rfl (J3 e7) (qR 2 rfl (Rn QSn (Lx (Q2.2 rfl) ?_)))))))))))))
    exact dU (D1 2199023255552 0 42 rfl (rQ rfl (pf_ (.bool e) e0 rfl (eqv i2 rfl)) (Rn QSn (Ly wn (a_ (.bool e) e0) (dU (Dw 0 0 (Rn QSn (jr () ((a.k2u).fc)))))))))
  ·have e8:=U1 L
   have e9:¬ u=true:=fun h=>Q4 (e8.trans h)
   rw [K0 e9] at D
   have f0:=U1 D
   have f1:¬ s=true:=fun h=>Q4 (f0.trans h)
   rw [K0 f1] at y
   have f2:=U1 y
   have f3:¬ r=true:=fun h=>Q4 (f2.trans h)
   rw [K0 f3] at t
   have f4:=U1 t
   have f5:¬ o=true:=fun h=>Q4 (f4.trans h)
   rw [K0 f5] at p
   have f6:=U1 p
   have f7:¬ k=true:=fun h=>Q4 (f6.trans h)
   rw [K0 f7] at j
   have f8:=U1 j
   have f9:¬ i=true:=fun h=>Q4 (f8.trans h)
   rw [K0 f9] at b
   have g0:=U1 b
   have g1:¬ f=true:=fun h=>Q4 (g0.trans h)
   rw [K0 g1] at d
   have i3:=U1 d
   refine dS [34,35,40,42] 4 C1 ?_
   replace a:=a.drew
   refine D1 17179869183 0 34 rfl (qR 3 rfl (rK 31 rfl (dF x) (qR 2 rfl (rQ rfl (pf_ (.bool u) e0 rfl (eqv e8 rfl)) (qR 1 rfl (rK 35 rfl (J3 e9) (qR 1 rfl (rQ rfl (pf_ (.bool s) e0 rfl (eqv f0 rfl)) (qR 1 rfl (rK 38 rfl (J3 f1) (qR 3 rfl (rQ rfl (pf_ (.bool r) e0 rfl (eqv f2 rfl)) (qR 1 rfl ?_)))))))))))))
   refine rK 43 rfl (J3 f3) (qR 3 rfl (rQ rfl (pf_ (.bool o) e0 rfl (eqv f4 rfl)) (qR 1 rfl (rK 48 rfl (J3 f5) (qR 4 rfl (rQ rfl (pf_ (.bool k) e0 rfl (eqv f6 rfl)) (qR 1 rfl (rK 54 rfl (J3 f7) (qR 3 rfl (rQ rfl (pf_ (.bool i) e0 rfl (eqv f8 rfl)) (qR 1 rfl (rK 59 rfl (J3 f9) (qR 3 rfl ?_)))))))))))))
   refine Rn QSn (Lx (Q2.2 rfl) (dU (D1 0 15032385536 35 rfl (Rn (qS rfl (qS rfl (qS rfl QSn))) (Lx (Q2.2 rfl) (dU (D1 1030792151040 0 40 rfl (rQ rfl (pf_ (.bool f) e0 rfl (eqv g0 rfl)) (qR 1 rfl (rK 66 rfl (J3 g1) (qR 2 rfl (Rn QSn (Lx (Q2.2 rfl) ?_)))))))))))))
   exact dU (D1 2199023255552 0 42 rfl (rQ rfl (pf_ (.bool e) e0 rfl (eqv i3 rfl)) (Rn QSn (Ly wn (a_ (.bool e) e0) (dU (Dw 0 0 (Rn QSn (jr () ((a.k2u).fc)))))))))
 rintro _ g w a
 exact vx
instance:CL prog 10 (type_of% @Ah):=⟨@Ah⟩
theorem zh {a7:LI} {a8 a9:Int} {b0:Bool} {U V:Int} {W X:BL} {b1 b2 b3:Hdr} {out:Bool} (c:m_k6 a7 a8 a9 b0 U V W X=some out) (h1:out=true) (d0:imm (rI .u64) b1.v a7∈ros) (Z:imm rB b2.v W∈ros) (a0:imm rB b3.v X∈ros) (I:globF∈ros) (a:St w0 ros rs w):
  Calls prog 3 #[b1.v,iV a8,iV a9,.bool b0,iV U,iV V,b2.v,b3.v] w (rv w0 ros rs (.bool out)):=by
 refine en func3 rfl ntmps3 fun Q d1=>bE c fun b d2 c=>q 11 rfl (cR_ (qi d2 d0 I a) fun d e f w a=>yb (rAl a ku) fun o w a=>sB rfl a L9 fun w a=>q 4 rfl (y (J2 [iV b.1,iV b.2.1,d.v,e.v,f.v] L9 e0 a R0) (bE c fun d3 d4 c=>?_)))
 replace a:=(((((a.k10).fz).k10).fz).k10).fz
 refine cO (xf d4 F2 F1 F0 (F_3 I) a) fun d5 w a=>q 18 rfl (y (lb_ (iV b.1) O_3 e0 a R1) (q 2 rfl ?_))
 refine jW 4 [4,5,6,7,17,18,21] [(44,.bool ((decide ((0:Int) < b.1)) && (decide ((0:Int) < b.2.1))))] (St w0 (imm I1 d.v b.2.2.1::imm I1 e.v b.2.2.2.1::imm (rI .u64) f.v b.2.2.2.2::ros) (box o 27 [iV b.1,iV b.2.1,d.v,e.v,f.v]::row 39 (rS (rP rB (rS (rI .u32)))) d5.v d3.1::rs)) rfl (fun b4=>?_) ?_
 ·refine gB 40 rfl (fun a1=>?_) fun a1=>?_
  ·exact q 1 rfl (y (lb_ (iV b.2.1) O_3 e0 a R1) (q 2 rfl (b4 _ _ ((a.k10).facts (S0 F2 (S0 F1 (S0 F0 (N0 (N0 (N0 E1))))))) (J1 (Z0 Value.bool (J5 a1)) rfl))))
  ·exact q 4 rfl (b4 _ _ ((a.k10).facts (S0 F2 (S0 F1 (S0 F0 (N0 (N0 (N0 E1))))))) (J1 (Z0 Value.bool (K5 a1)) rfl))
 intro g w a
 refine q 2 rfl ?_
 refine jC Int [4,5,6,7,17] (fun J=>[(21,iV J)]) (fun J w=>St w0 (imm I1 d.v b.2.2.1::imm I1 e.v b.2.2.2.1::imm (rI .u64) f.v b.2.2.2.2::ros) (box o 27 [iV b.1,iV b.2.1,d.v,e.v,f.v]::rs) w∧m_k5 b U V W X J=some out) rfl ?_ ?_
 ·rintro J g w ⟨a,c⟩
  refine q 3 rfl (y (J2 [iV b.1,iV b.2.1,d.v,e.v,f.v] L9 e0 a R0) (bE c fun u d6 c=>cR_ (Yh d6 F0 F1 F2 (F_3 I) a) fun b5 a2 j w a=>q 3 rfl (yb (rAl a jk) fun p w a=>sB rfl a C8 fun w a=>bE c fun h d7 c=>q 6 rfl (cZ (w_a d7 a) fun w a=>q 1 rfl (yt (Ea (vals':=[iV h,iV u.2.1,b5.v,a2.v,j.v]) a O_3 e0 e0 rfl rfl rfl rfl) ?_)))))
  refine fun w a=>q 4 rfl (yh (rLt (n:=8) (l:=[2,3,5,7,11,13,101,2147483647]) a W0 [iV 2,iV 3,iV 5,iV 7,iV 11,iV 13,iV 101,iV 2147483647] (bp8 rfl rfl rfl rfl rfl rfl rfl rfl) rfl rfl (N1 (cs:=[iV 2]) rfl mkI (N1 (cs:=[iV 3]) rfl mkI (N1 (cs:=[iV 5]) rfl mkI (N1 (cs:=[iV 7]) rfl mkI (N1 (cs:=[iV 11]) rfl mkI (N1 (cs:=[iV 13]) rfl mkI (N1 (cs:=[iV 101]) rfl mkI (N1 (cs:=[iV 2147483647]) rfl mkI Y1))))))))) fun h3 w a=>bE c fun h4 d8 c=>q 1 rfl (cZ (w_a d8 a) fun w a=>bE c fun k b6 c=>y (yIa W0 e0 e0 a rO0 b6) (y (yI O_3 e0 a rO0 b6) (q 1 rfl ?_))))
  replace a:=a.k10
  refine yt (Ea (vals':=[iV h,iV k,b5.v,a2.v,j.v]) a O_3 e0 e0 rfl rfl rfl rfl) fun w a=>q 5 rfl (yt (Ea (vals':=[iV h,iV k,hnil.v,a2.v,j.v]) a M1 e0 rfl rfl rfl rfl rfl) fun w a=>q 1 rfl (yt (Ea (vals':=[iV h,iV k,hnil.v,hnil.v,j.v]) a M1 e0 rfl rfl rfl rfl rfl) fun w a=>bE c fun r d9 c=>q 9 rfl ?_))
  replace a:=a.rowNh 3 I1
  refine lpN Hdr Hdr d9 [6,7,17,21,22] (fun (K,z) A=>[(24,iV z)]) (fun (K,z) A=>St w0 (imm I1 d.v b.2.2.1::imm I1 e.v b.2.2.2.1::imm (rI .u64) f.v b.2.2.2.2::ros) (box o 27 [iV b.1,iV b.2.1,d.v,e.v,f.v]::row 3 I1 A.v K::row 39 (rS (rP rB (rS (rI .u32)))) j.v u.2.2.2.2.1::box p 35 [iV h,iV k,A.v,hnil.v,j.v]::rs)) (fun | r,i=>(.exit 0,[],St w0 (imm I1 d.v b.2.2.1::imm I1 e.v b.2.2.2.1::imm (rI .u64) f.v b.2.2.2.2::ros) (box o 27 [iV b.1,iV b.2.1,d.v,e.v,f.v]::row 3 I1 i.v r::row 39 (rS (rP rB (rS (rI .u32)))) j.v u.2.2.2.2.1::box p 35 [iV h,iV k,i.v,hnil.v,j.v]::rs))) rfl _ (a.k2v) rfl ?_ ?_
  ·clear a
   rintro i g w a
   refine bE c fun x e1 c=>q 9 rfl ?_
   replace a:=a.rowNh 3 I1
   refine lpN Hdr Hdr e1 [7,17,21,22] (fun (L,B) C=>[(25,iV B)]) (fun (L,B) C=>St w0 (imm I1 d.v b.2.2.1::imm I1 e.v b.2.2.2.1::imm (rI .u64) f.v b.2.2.2.2::ros) (box o 27 [iV b.1,iV b.2.1,d.v,e.v,f.v]::row 3 I1 i.v r::row 3 I1 C.v L::row 39 (rS (rP rB (rS (rI .u32)))) j.v u.2.2.2.2.1::box p 35 [iV h,iV k,i.v,C.v,j.v]::rs)) (fun | x,m=>(.exit 2,[],St w0 (imm I1 d.v b.2.2.1::imm I1 e.v b.2.2.2.1::imm (rI .u64) f.v b.2.2.2.2::ros) (box o 27 [iV b.1,iV b.2.1,d.v,e.v,f.v]::row 3 I1 i.v r::row 3 I1 m.v x::row 39 (rS (rP rB (rS (rI .u32)))) j.v u.2.2.2.2.1::box p 35 [iV h,iV k,i.v,m.v,j.v]::rs))) rfl _ (a.k2w) rfl ?_ ?_
   ·clear a
    rintro m g w a
    refine bE c fun b7 e2 c=>q 4 rfl ?_
    replace a:=(a.k1f).toQ
    refine lpN Hdr Hdr e2 [17,21,22] (fun D t=>[]) (fun D t=>St w0 (imm I1 d.v b.2.2.1::imm I1 e.v b.2.2.2.1::imm (rI .u64) f.v b.2.2.2.2::ros) (box o 27 [iV b.1,iV b.2.1,d.v,e.v,f.v]::row 3 I1 i.v r::row 3 I1 m.v x::rowS 39 (rS (rP rB (rS (rI .u32)))) t.v D::box p 35 [iV h,iV k,i.v,m.v,t.v]::rs)) (fun | b7,a3=>(.exit 4,[],St w0 (imm I1 d.v b.2.2.1::imm I1 e.v b.2.2.2.1::imm (rI .u64) f.v b.2.2.2.2::ros) (box o 27 [iV b.1,iV b.2.1,d.v,e.v,f.v]::row 3 I1 i.v r::row 3 I1 m.v x::rowS 39 (rS (rP rB (rS (rI .u32)))) a3.v b7::box p 35 [iV h,iV k,i.v,m.v,a3.v]::rs))) rfl _ (a.k2x) rfl ?_ ?_
    ·clear a
     rintro a3 g w a
     refine bE c fun b8 e3 c=>q 4 rfl ?_
     refine lpN Hdr Hdr e3 [17,21,22] (fun H s=>[]) (fun H s=>St w0 (imm I1 d.v b.2.2.1::imm I1 e.v b.2.2.2.1::imm (rI .u64) f.v b.2.2.2.2::ros) (box o 27 [iV b.1,iV b.2.1,d.v,e.v,f.v]::row 3 I1 i.v r::row 3 I1 m.v x::rowS 39 (rS (rP rB (rS (rI .u32)))) s.v H::box p 35 [iV h,iV k,i.v,m.v,s.v]::rs)) (fun | b8,N=>(.exit 6,[],St w0 (imm I1 d.v b.2.2.1::imm I1 e.v b.2.2.2.1::imm (rI .u64) f.v b.2.2.2.2::ros) (box o 27 [iV b.1,iV b.2.1,d.v,e.v,f.v]::row 3 I1 i.v r::row 3 I1 m.v x::rowS 39 (rS (rP rB (rS (rI .u32)))) N.v b8::box p 35 [iV h,iV k,i.v,m.v,N.v]::rs))) rfl _ a rfl ?_ ?_
     ·clear a
      rintro N g w a
      refine q 4 rfl (y (J2 [iV b.1,iV b.2.1,d.v,e.v,f.v] L9 e0 a R0) (y (J2 [iV h,iV k,i.v,m.v,N.v] C8 e0 a R4) (bE c fun e4 e5 c=>?_)))
      replace a:=(((((a.k10).fz).k10).fz).k10).fzq
      refine cZ (ff e5 F3 F4 F5 F2 F1 F0 (F_6 I) a) fun w a=>q 2 rfl ?_
      refine jW 5 [] [(159,.bool ((!e4) || (decide (h=J))))] (St w0 ros rs) rfl (fun b9=>?_) ?_
      ·refine gB 154 rfl (fun a4=>?_) fun a4=>?_
       ·exact q 5 rfl (b9 _ _ ((a.k19).fc) (J1 (Z0 Value.bool (orT a4)) rfl))
       ·exact q 1 rfl (y (lb_ (iV h) O_3 e0 a R1) (q 3 rfl (b9 _ _ ((a.k19).fc) (J1 (Z0 Value.bool (orF a4)) rfl))))
      intro g w a
      refine bE c fun e6 E c=>q 1 rfl ?_
      refine jW 2 [] [(162,.bool e6)] (St w0 ros rs) rfl (fun c0=>?_) ?_
      ·refine gJ 160 E rfl (fun e7 E=>?_) fun e7 E=>?_
       ·refine bE E fun h5 e8 E=>cZ (Ah e8 I a) fun w a=>q 1 rfl ?_
        cases E
        exact c0 _ _ a rfl
       ·refine q 2 rfl ?_
        cases E
        exact c0 _ _ a rfl
      intro g w a
      refine q 4 rfl ?_
      cases c
      exact za d1 results3 ⟨rfl,a⟩
     rintro H s g w h6 a c
     refine q 4 rfl (y (lb_ s.v V5 e0 a R4) (y (Y2 L5 e0 a (rdQ R3)) (q 2 rfl ?_)))
     refine jW 10 [17,21,22] [(140,.bool ((decide ((0:Int) < (H.length:Int))) && (decide ((H.length:Int) < (ws .i64 b.2.1 h)))))] (St w0 (imm I1 d.v b.2.2.1::imm I1 e.v b.2.2.2.1::imm (rI .u64) f.v b.2.2.2.2::ros) (box o 27 [iV b.1,iV b.2.1,d.v,e.v,f.v]::row 3 I1 i.v r::row 3 I1 m.v x::rowS 39 (rS (rP rB (rS (rI .u32)))) s.v H::box p 35 [iV h,iV k,i.v,m.v,s.v]::rs)) rfl (fun c1=>?_) ?_
     ·refine gB 130 rfl (fun a5=>?_) fun a5=>?_
      ·exact q 1 rfl (y (lb_ s.v V5 e0 a R4) (y (Y2 L5 e0 a (rdQ R3)) (q 1 rfl (y (lb_ (iV b.2.1) O_3 e0 a R0) (q 1 rfl (y (lb_ (iV h) O_3 e0 a R4) (q 3 rfl (c1 _ _ a (J1 (Z0 Value.bool (J5 a5)) rfl)))))))))
      ·exact q 10 rfl (c1 _ _ a (J1 (Z0 Value.bool (K5 a5)) rfl))
     intro g w a
     refine q 2 rfl ?_
     refine cJ c (fun e9 c=>?_) fun e9 c=>?_
     ·refine q 3 rfl (bE c fun f0 c2 c=>bE c fun h7 f1 c=>dS [6,7,9] 3 C1 ?_)
      replace a:=a.drew
      refine D1 63 0 6 rfl (qR 1 rfl (rQ rfl (lb_ s.v V5 e0 a R4) (qR 1 rfl (rQ rfl (lb_ s.v V5 e0 a R4) (rQ rfl (yIa L5 e0 rfl a (rdQ R3) c2) ?_)))))
      obtain ⟨c3,f2,a⟩:=rLs a (rdQ R3) c2
      refine rQ rfl (yCe W4 e0 f2 rfl) (Rn QSn (LH wn (rLt (n:=1) (l:=[f0]) a L5 [c3.v] (bp1 e0) rfl rfl (N1 (cs:=[c3.v]) rfl (mkS F0) Y1)) fun h8 w a=>dU (D1 0 3 7 rfl (Rn (qS rfl (sY rfl (lb_ s.v V5 e0 a R5) QSn)) ?_))))
      replace a:=a.k1n
      refine LH wn (rQAp a L5 e0 e0 rO1 (List.cons_ne_nil _ _) f1) fun f3 w a=>dU (D0 256 0 9 rfl (qR 1 rfl (Rn QSn ?_)))
      replace a:=a.k2y
      refine LT wn (Ea (vals':=[iV h,iV k,i.v,m.v,f3.v]) a V5 e0 e0 rfl rfl rfl rfl) fun w a=>Dw 0 0 (Rn QSn (qx 1 rfl ?_))
      cases c
      exact ln _ ((a.k2z).facts (S0 F1 (S0 F2 (S0 F3 (N0 (N0 (N0 (N0 E1))))))))
     ·refine q 2 rfl ?_
      cases c
      exact lx _ a
    rintro D t g w i0 a c
    refine q 4 rfl (y (lb_ t.v V5 e0 a R4) (y (Y2 L5 e0 a (rdQ R3)) (q 2 rfl ?_)))
    refine jW 10 [17,21,22] [(121,.bool ((decide ((0:Int) < (D.length:Int))) && (decide ((ws .i64 b.2.1 h) < (D.length:Int)))))] (St w0 (imm I1 d.v b.2.2.1::imm I1 e.v b.2.2.2.1::imm (rI .u64) f.v b.2.2.2.2::ros) (box o 27 [iV b.1,iV b.2.1,d.v,e.v,f.v]::row 3 I1 i.v r::row 3 I1 m.v x::rowS 39 (rS (rP rB (rS (rI .u32)))) t.v D::box p 35 [iV h,iV k,i.v,m.v,t.v]::rs)) rfl (fun c4=>?_) ?_
    ·refine gB 111 rfl (fun a6=>?_) fun a6=>?_
     ·exact q 1 rfl (y (lb_ t.v V5 e0 a R4) (y (Y2 L5 e0 a (rdQ R3)) (q 1 rfl (y (lb_ (iV b.2.1) O_3 e0 a R0) (q 1 rfl (y (lb_ (iV h) O_3 e0 a R4) (q 3 rfl (c4 _ _ a (J1 (Z0 Value.bool (J5 a6)) rfl)))))))))
     ·exact q 10 rfl (c4 _ _ a (J1 (Z0 Value.bool (K5 a6)) rfl))
    intro g w a
    refine q 2 rfl ?_
    refine cJ c (fun f4 c=>?_) fun f4 c=>?_
    ·refine q 5 rfl (y (lb_ t.v V5 e0 a R4) (bE c fun i1 c5 c=>?_))
     replace a:=a.k1f
     refine y (ySl (k2:=.i64) L5 e0 a (rdQ R0) (.inl (Z0 some rfl)) (.inr ⟨rfl,rfl⟩) c5) ?_
     replace a:=a.qcut c5 rfl
     refine q 1 rfl ?_
     replace a:=a.k1n
     refine yt (Ea (vals':=[iV h,iV k,i.v,m.v,(subH t 1 1 (D.length:Int)).v]) a V5 e0 e0 rfl rfl rfl rfl) fun w a=>q 2 rfl ?_
     cases c
     exact ln _ (a.k30)
    ·refine q 2 rfl ?_
     cases c
     exact lx _ a
   rintro ⟨L,B⟩ C g w f5 a c
   refine q 5 rfl (y (lb_ (iV b.2.1) O_3 e0 a R0) (q 3 rfl (cI c (fun f6 c=>?_) fun f6 c=>?_)))
   ·refine q 8 rfl (y (Y2 ob e0 a (rdI (F_3 a0))) (bE c fun f7 F c=>q 2 rfl ?_))
    refine jW 5 [7,17,21,22,25] [(100,.bool f7)] (St w0 (imm I1 d.v b.2.2.1::imm I1 e.v b.2.2.2.1::imm (rI .u64) f.v b.2.2.2.2::ros) (box o 27 [iV b.1,iV b.2.1,d.v,e.v,f.v]::row 3 I1 i.v r::row 3 I1 C.v L::row 39 (rS (rP rB (rS (rI .u32)))) j.v u.2.2.2.2.1::box p 35 [iV h,iV k,i.v,C.v,j.v]::rs)) rfl (fun c6=>?_) ?_
    ·refine gI 95 F rfl (fun f8 F=>?_) fun f8 F=>?_
     ·refine q 2 rfl (bE F fun i2 c7 F=>y (yIa ob e0 e0 a (rdI (F_3 a0)) c7) (y (yB O_4 e0 a (rdI (F_3 a0)) c7) (q 1 rfl ?_)))
      cases F
      exact c6 _ _ a rfl
     ·refine q 5 rfl ?_
      cases F
      exact c6 _ _ a rfl
    intro g w a
    refine q 2 rfl ?_
    refine jC (LI×Hdr) [7,17,21,22,25] (fun (O,R)=>[]) (fun (O,R) w=>St w0 (imm I1 d.v b.2.2.1::imm I1 e.v b.2.2.2.1::imm (rI .u64) f.v b.2.2.2.2::ros) (box o 27 [iV b.1,iV b.2.1,d.v,e.v,f.v]::row 3 I1 i.v r::row 3 I1 R.v O::row 39 (rS (rP rB (rS (rI .u32)))) j.v u.2.2.2.2.1::box p 35 [iV h,iV k,i.v,R.v,j.v]::rs) w∧m_k1 B O=some f5) rfl ?_ ?_
    ·rintro ⟨O,R⟩ g w ⟨a,c⟩
     refine q 7 rfl ?_
     cases c
     exact ln _ a
    refine cJ c (fun f9 c=>?_) fun f9 c=>?_
    ·refine q 2 rfl (y (lb_ C.v M1 e0 a R4) (q 1 rfl (yh (rLt (n:=1) (l:=[B]) a W0 [iV B] (bp1 e0) rfl rfl (N1 (cs:=[iV B]) rfl mkI Y1)) fun i3 w a=>bE c fun i4 g0 c=>?_)))
     replace a:=a.k1f
     refine yh (rAp a W0 e0 e0 rO1 g0) fun g1 w a=>q 1 rfl ?_
     replace a:=a.k2y
     exact yt (Ea (vals':=[iV h,iV k,i.v,g1.v,j.v]) a M1 e0 e0 rfl rfl rfl rfl) fun w a=>q 1 rfl (jx (_,_) ⟨(a.k31),c⟩)
    ·exact q 1 rfl (jx (_,_) ⟨a,c⟩)
   ·refine q 2 rfl ?_
    cases c
    exact lx _ a
  rintro ⟨K,z⟩ A g w g2 a c
  refine q 5 rfl (y (lb_ (iV b.1) O_3 e0 a R0) (q 3 rfl (cI c (fun g3 c=>?_) fun g3 c=>?_)))
  ·refine q 8 rfl (y (Y2 ob e0 a (rdI (F_3 Z))) (bE c fun g4 G c=>q 2 rfl ?_))
   refine jW 5 [6,7,17,21,22,24] [(78,.bool g4)] (St w0 (imm I1 d.v b.2.2.1::imm I1 e.v b.2.2.2.1::imm (rI .u64) f.v b.2.2.2.2::ros) (box o 27 [iV b.1,iV b.2.1,d.v,e.v,f.v]::row 3 I1 A.v K::row 39 (rS (rP rB (rS (rI .u32)))) j.v u.2.2.2.2.1::box p 35 [iV h,iV k,A.v,hnil.v,j.v]::rs)) rfl (fun c8=>?_) ?_
   ·refine gI 73 G rfl (fun g5 G=>?_) fun g5 G=>?_
    ·refine q 2 rfl (bE G fun i5 c9 G=>y (yIa ob e0 e0 a (rdI (F_3 Z)) c9) (y (yB O_4 e0 a (rdI (F_3 Z)) c9) (q 1 rfl ?_)))
     cases G
     exact c8 _ _ a rfl
    ·refine q 5 rfl ?_
     cases G
     exact c8 _ _ a rfl
   intro g w a
   refine q 2 rfl ?_
   refine jC (LI×Hdr) [6,7,17,21,22,24] (fun (S,T)=>[]) (fun (S,T) w=>St w0 (imm I1 d.v b.2.2.1::imm I1 e.v b.2.2.2.1::imm (rI .u64) f.v b.2.2.2.2::ros) (box o 27 [iV b.1,iV b.2.1,d.v,e.v,f.v]::row 3 I1 T.v S::row 39 (rS (rP rB (rS (rI .u32)))) j.v u.2.2.2.2.1::box p 35 [iV h,iV k,T.v,hnil.v,j.v]::rs) w∧m_k3 z S=some g2) rfl ?_ ?_
   ·rintro ⟨S,T⟩ g w ⟨a,c⟩
    refine q 7 rfl ?_
    cases c
    exact ln _ a
   refine cJ c (fun g6 c=>?_) fun g6 c=>?_
   ·refine q 2 rfl (y (lb_ A.v M1 e0 a R3) (q 1 rfl (yh (rLt (n:=1) (l:=[z]) a W0 [iV z] (bp1 e0) rfl rfl (N1 (cs:=[iV z]) rfl mkI Y1)) fun i6 w a=>bE c fun i7 g7 c=>?_)))
    replace a:=a.k16
    refine yh (rAp a W0 e0 e0 rO1 g7) fun g8 w a=>q 1 rfl ?_
    replace a:=a.k1n
    exact yt (Ea (vals':=[iV h,iV k,g8.v,hnil.v,j.v]) a M1 e0 e0 rfl rfl rfl rfl) fun w a=>q 1 rfl (jx (_,_) ⟨(a.k32),c⟩)
   ·exact q 1 rfl (jx (_,_) ⟨a,c⟩)
  ·refine q 2 rfl ?_
   cases c
   exact lx _ a
 refine cJ c (fun g9 c=>?_) fun g9 c=>?_
 ·refine q 2 rfl (bE c fun i8 h0 c=>?_)
  replace a:=(a.k10).fz
  exact cZ (ui h0 F0 a) fun w a=>q 2 rfl (jx _ ⟨(a.facts (S0 F1 (S0 F2 (S0 F3 (N0 (N0 (N0 (N0 E1)))))))),c⟩)
 ·exact q 1 rfl (jx _ ⟨(a.k11),c⟩)
instance:CL prog 3 (type_of% @zh):=⟨@zh⟩
end Go.Proofs.YthekfonboblioacGreatDoor
