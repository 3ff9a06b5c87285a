/- Walks: each function computes its model, printed. -/
import Derived.Test.YtoahkigijbeegaaGreatDoorW2
namespace Go.Proofs.YtoahkigijbeegaaGreatDoor
open Go Sx M Go.Proofs.Tryz
set_option maxRecDepth 100000
set_option maxHeartbeats 40000000
set_option linter.unusedVariables false
attribute [local irreducible] wpList Code.wp Calls DR QR QS LA LS St row box fam imm rowS loop
variable {w0:World} {mu:List Fact} {rs:List Res} {w:World}
theorem Xm {e:Int} {out:Bool×Bool×LI×Int} (c:m_cg e=some out) (i:globF∈mu) (a:St w0 mu rs w):
  Calls prog 20 #[.int .u64 e] w (rd w0 mu rs out):=by
 refine en func20 rfl ntmps20 fun Q f=>?_
 refine v 18 ?_
 refine fun h _ _ _ _ _ w a=>⟨fun _ c=>?_,fun _ _ _ _ c _ _ _ a=>?_⟩
 ·refine jC (Int×Int) [0,2] (fun (b,d)=>[(4,.int .u64 b),(5,iV d)]) (fun (b,d) w=>St w0 mu (box h 65 [.bool false,.bool false,hnil.v,iV 0]::rs) w∧m_cf e b d=some out) rfl ?_ ?_
  ·rintro ⟨b,d⟩ g w ⟨a,c⟩
   refine z 1 5 ?_;intro j k c w a
   exact yh (rLt (n:=2) (l:=[wc .u32 b,wc .u32 (wsrc .u64 b 32)]) a Y2 [.int .u32 (wc .u32 b),.int .u32 (wc .u32 (wsrc .u64 b 32))] (bp2 e0 e0) rfl rfl (J1 (cs:=[.int .u32 (wc .u32 b)]) rfl mkI (J1 (cs:=[.int .u32 (wc .u32 (wsrc .u64 b 32))]) rfl mkI L1))) fun m w a=>vx
  exact vx
 ·cases c
  replace a:=a.immNh Zt
  exact f _ _ _ (X1 results20 (V2 rfl rfl a R0 J3 rfl) ⟨_,rfl,(a.k14)⟩)
instance:CL prog 20 (type_of% @Xm):=⟨@Xm⟩
theorem Wm {b d:Bool} {e:LI} {f:Int} {g:Hdr} {out:Bool×Bool×LI×Int} (c:m_ch b d e f=some out) (h:imm Zt g.v e∈mu) (i:globF∈mu) (a:St w0 mu rs w):
  Calls prog 19 #[.agg #[.bool b,.bool d,g.v,iV f]] w (rd w0 mu rs out):=by
 exact en func19 rfl ntmps19 fun Q j=>vx
instance:CL prog 19 (type_of% @Wm):=⟨@Wm⟩
theorem Vm {E:List (Bool×Bool×LI×Int)} {F:Hdr} {out:Bool×Bool×LI×Int} (c:m_cm E=some out) (O:imm (rP rB (rP rB (rP (rS Zt) I1))) F.v E∈mu) (a1:globF∈mu) (a:St w0 mu rs w):
  Calls prog 23 #[F.v] w (rd w0 mu rs out):=by
 refine en func23 rfl ntmps23 fun Q G=>?_
 refine z 4 10 ?_;intro b w a e w a w a
 refine bE c fun R S c=>?_
 replace a:=a.immNh Zt
 refine lpN Hdr Hdr S [0,2,3] (fun (u,x,A,d) f=>[(4,iV A),(5,iV d)]) (fun (u,x,A,d) f=>St w0 (imm Zt f.v x::mu) (box b 65 [.bool false,.bool false,hnil.v,iV 0]::box e 63 [.bool u,f.v]::rs)) (fun | .inl (H,I,J),B=>(.exit 0,[(4,iV J)],St w0 (imm Zt B.v I::mu) (box b 65 [.bool false,.bool false,hnil.v,iV 0]::box e 63 [.bool H,B.v]::rs)) | .inr (K,L,N),_=>(.ret,[],St w0 mu (box b 65 [.bool K,.bool L,hnil.v,iV N]::rs))) rfl _ (a.k10) rfl ?_ ?_
 ·clear a
  rintro B g w a
  rcases R with ⟨H,I,J⟩ | ⟨K,L,N⟩
  ·refine z 3 3 ?_;intro a2 a3 c a4 w a w a
   cases c
   exact G _ _ _ (X1 results23 (V2 rfl rfl a R0 J3 rfl) ⟨_,rfl,((a.k19).facts (U0 F0 (M0 (M0 M1))))⟩)
  ·refine q 2 rfl ?_
   cases c
   replace a:=a.immNh Zt
   exact G _ _ _ (X1 results23 (V2 rfl rfl a R0 J3 rfl) ⟨_,rfl,(a.k14)⟩)
 rintro ⟨u,x,A,d⟩ f g w C a c
 refine z 1 3 ?_
 refine cI c (fun T c=>?_) fun T c=>?_
 ·refine q 3 rfl ?_
  refine jC (Bool×LI×Int×Hdr) [0,2,3,5] (fun (h,i,j,k)=>[(4,iV j)]) (fun (h,i,j,k) w=>St w0 (imm Zt k.v i::mu) (box b 65 [.bool false,.bool false,hnil.v,iV 0]::box e 63 [.bool h,k.v]::rs) w∧m_ci d h i j=some C) rfl ?_ ?_
  ·rintro ⟨h,i,j,k⟩ g w ⟨a,c⟩
   refine q 6 rfl ?_
   cases c
   exact ln _ a
  refine z 1 0 ?_;intro D U c
  obtain ⟨a5,a6,a⟩:=iLd a (mtF O) U
  obtain ⟨a7,a8,rfl,a⟩:=a.eltP
  obtain ⟨rfl,a⟩:=a.eltB
  obtain ⟨a9,b0,rfl,a⟩:=a.eltP
  obtain ⟨rfl,a⟩:=a.eltB
  obtain ⟨b1,b2,rfl,a⟩:=a.eltP
  obtain ⟨V,rfl,a⟩:=a.eltS
  replace a:=a.swf
  obtain ⟨rfl,a⟩:=a.eltI
  refine y (jg (cs:=[.bool D.1,.bool D.2.1,V.v,iV D.2.2.2]) J3 rfl e0 a F1) ?_
  refine z 4 2 ?_;intro b5 b6 c b7 w a b8 w a w a
  refine cJ c (fun W c=>?_) fun W c=>?_
  ·refine z 2 7 ?_;intro b9 c0 c w a w a
   cases c
   exact lx hnil ((a.k1l).fc)
  ·refine z 2 3 ?_;intro c1 c2 c w a
   refine cI c (fun X c=>?_) fun X c=>?_
   ·exact q 3 rfl (jx (_,_,_,_) ⟨((a.k1q).facts (U0 F3 (M0 (M0 (M0 (M0 M1)))))),c⟩)
   ·refine z 2 4 ?_;intro c3 c4 c w a
    refine jC (Bool×LI×Int×Hdr) [0,2,3,5] (fun (l,m,n,o)=>[(4,iV n)]) (fun (l,m,n,o) w=>St w0 (imm Zt o.v m::mu) (box b 65 [.bool false,.bool false,hnil.v,iV 0]::box e 63 [.bool l,o.v]::rs) w∧m_cj d l m n=some C) rfl ?_ ?_
    ·rintro ⟨l,m,n,o⟩ g w ⟨a,c⟩
     exact q 2 rfl (jx (_,_,_,_) ⟨a,c⟩)
    refine cI c (fun Z c=>?_) fun Z c=>?_
    ·refine dS [4,5] 2 V0 ?_
     replace a:=a.drew
     refine z 5 0 ?_;intro w a
     exact jx (_,_,_,_) ⟨((a.k2e).facts (U0 F0 (M0 (M0 (M0 (M0 M1)))))),c⟩
    ·refine z 1 5 ?_
     refine jC (Bool×LI×Int×Hdr) [0,2,3,5] (fun (p,r,s,t)=>[(4,iV s)]) (fun (p,r,s,t) w=>St w0 mu (box b 65 [.bool false,.bool false,hnil.v,iV 0]::row 108 Zt t.v r::box e 63 [.bool p,t.v]::rs) w∧m_ck d p r s=some C) rfl ?_ ?_
     ·rintro ⟨p,r,s,t⟩ g w ⟨a,c⟩
      replace a:=(a.k10).fz
      exact jx (_,_,_,_) ⟨a,c⟩
     refine cI c (fun a0 c=>?_) fun a0 c=>?_
     ·refine bE c fun c5 c6 c=>bE c fun c7 c8 c=>dS [7,8,9] 3 V0 ?_
      replace a:=a.drew
      refine z 7 0 ?_;intro c9 w a d0 w a w a
      exact jx (_,_,_,_) ⟨((a.k17).fc),c⟩
     ·refine bE c fun d1 d2 c=>bE c fun d3 d4 c=>dS [5,8,11,12] 4 V0 ?_
      replace a:=a.drew
      refine z 9 0 ?_;intro d5 w a d6 w a w a
      exact jx (_,_,_,_) ⟨((a.k17).fc),c⟩
 ·refine q 2 rfl ?_
  cases c
  exact lx _ a
instance:CL prog 23 (type_of% @Vm):=⟨@Vm⟩
theorem Um {b e:Int} {p r s:LI} {d j:Int} {f h i:Hdr} {out:Bool} (c:m_co b e p r s d j=some out) (B:imm I1 f.v p∈mu) (C:imm I1 h.v r∈mu) (D:imm iu i.v s∈mu) (a:St w0 mu rs w):
  Calls prog 24 #[.agg #[iV b,iV e,f.v,h.v,i.v],iV d,iV j] w (rv w0 mu rs (.bool out)):=by
 refine en func24 rfl ntmps24 fun Q E=>?_
 refine z 1 9 ?_;intro k w a
 refine jW 5 [1,2,3] [(15,.bool ((decide (d < 0)) || (decide (b≤d))))] (St w0 mu (box k 27 [iV b,iV e,f.v,h.v,i.v]::rs)) rfl (fun t=>?_) ?_
 ·refine gB 10 rfl (fun l=>?_) fun l=>?_
  ·exact q 5 rfl (t _ _ a (Z0 (S0 Value.bool (orT l)) rfl))
  ·refine z 1 2 ?_
   exact t _ _ a (Z0 (S0 Value.bool (orF l)) rfl)
 intro g w a
 refine q 1 rfl ?_
 refine jW 3 [1,2,3] [(19,.bool (((decide (d < 0)) || (decide (b≤d))) || (decide (j < 0))))] (St w0 mu (box k 27 [iV b,iV e,f.v,h.v,i.v]::rs)) rfl (fun u=>?_) ?_
 ·refine gB 16 rfl (fun m=>?_) fun m=>?_
  ·exact q 3 rfl (u _ _ a (Z0 (S0 Value.bool (orT m)) rfl))
  ·exact q 3 rfl (u _ _ a (Z0 (S0 Value.bool (orF m)) rfl))
 intro g w a
 refine q 1 rfl ?_
 refine jW 5 [1,2,3] [(25,.bool ((((decide (d < 0)) || (decide (b≤d))) || (decide (j < 0))) || (decide (e≤j))))] (St w0 mu (box k 27 [iV b,iV e,f.v,h.v,i.v]::rs)) rfl (fun x=>?_) ?_
 ·refine gB 20 rfl (fun n=>?_) fun n=>?_
  ·exact q 5 rfl (x _ _ a (Z0 (S0 Value.bool (orT n)) rfl))
  ·refine z 1 2 ?_
   exact x _ _ a (Z0 (S0 Value.bool (orF n)) rfl)
 intro g w a
 refine v 0 ?_
 refine ⟨vt,fun _ _ _ _ c=>?_⟩
 refine bE c fun y A c=>?_
 refine lp A [1,2,3] (fun o=>[(7,iV o)]) (fun o=>St w0 mu (box k 27 [iV b,iV e,f.v,h.v,i.v]::rs)) (fun | .inl ()=>(.exit 0,[],St w0 mu rs) | .inr ()=>(.ret,[(6,.bool true)],St w0 mu rs)) rfl a rfl ?_ ?_
 ·clear a
  intro g w a
  rcases y with ⟨⟩ | ⟨⟩
  ·exact vx
  ·exact vx
 rintro o g w F a c
 exact vx
instance:CL prog 24 (type_of% @Um):=⟨@Um⟩
theorem eh {a6:LI} {d a7:Int} {a8:Hdr} {out:Int×Int×LI×LI×LI} (c:m_cv a6 d a7=some out) (d2:imm iu a8.v a6∈mu) (d3:globF∈mu) (a:St w0 mu rs w):
  Calls prog 6 #[a8.v,iV d,iV a7] w (fun e w=>∃ (a9 b0 b1:Hdr),e=.returned (.agg #[iV out.1,iV out.2.1,a9.v,b0.v,b1.v])∧St w0 mu (row 3 I1 a9.v out.2.2.1::row 3 I1 b0.v out.2.2.2.1::row 56 iu b1.v out.2.2.2.2::rs) w):=by
 refine en func6 rfl ntmps6 fun Q c1=>?_
 refine z 5 6 ?_;intro t w a d4 d5 c w a b d6 c h i j w a x w a w a
 refine yh (rLt (n:=1) (l:=[0]) a N0 [iV 0] (bp1 rfl) rfl rfl (J1 (cs:=[iV 0]) rfl mkI L1)) fun d7 w a=>?_
 refine z 3 9 ?_;intro u w a w a
 obtain ⟨⟨b2,b3,b4⟩,c2,c⟩:=bs c
 replace a:=(((((((a.k1d).fz).k1d).fz).k1d).fz).rowNh 3 I1).rowNh 56 iu
 refine lpN (Hdr×Hdr×Hdr) (Hdr×Hdr×Hdr) c2 [1,6,7,8] (fun (o,T,U,V) (f,C,D)=>[(9,iV V)]) (fun (o,T,U,V) (f,C,D)=>St w0 (imm I1 h.v b.2.2.1::imm I1 i.v b.2.2.2.1::imm iu j.v b.2.2.2.2::mu) (box t 27 [iV 0,iV 0,hnil.v,hnil.v,hnil.v]::box x 27 [iV b.1,iV b.2.1,h.v,i.v,j.v]::row 3 I1 f.v o::row 3 I1 C.v T::row 56 iu D.v U::box u 27 [iV d,iV d,f.v,C.v,D.v]::rs)) (fun | (b2,b3,b4),(W,X,Z)=>(.exit 0,[],St w0 mu (box t 27 [iV 0,iV 0,hnil.v,hnil.v,hnil.v]::row 3 I1 W.v b2::row 3 I1 X.v b3::row 56 iu Z.v b4::box u 27 [iV d,iV d,W.v,X.v,Z.v]::rs))) rfl (_,_,_) ((a.k3k).facts (U0 F2 (U0 F1 (U0 F0 (M0 (M0 (M0 M1))))))) rfl ?_ ?_
 ·clear a
  rintro ⟨W,X,Z⟩ g w a
  refine z 2 3 ?_;intro w a
  cases c
  exact c1 _ _ _ (X1 results6 (V2 rfl rfl a R0 E5 rfl) ⟨_,_,_,rfl,(a.k3g)⟩)
 rintro ⟨o,T,U,V⟩ ⟨f,C,D⟩ g w d8 a c
 refine q 8 rfl (cI c (fun c3 c=>?_) fun c3 c=>?_)
 ·refine q 11 rfl ?_
  obtain ⟨⟨B,b6⟩,c4,c⟩:=bs c
  refine lpN (Hdr×Hdr) (Hdr×Hdr) c4 [1,6,7,8,9] (fun (y,A,m) (p,k)=>[(10,iV m)]) (fun (y,A,m) (p,k)=>St w0 (imm I1 h.v b.2.2.1::imm I1 i.v b.2.2.2.1::imm iu j.v b.2.2.2.2::mu) (box t 27 [iV 0,iV 0,hnil.v,hnil.v,hnil.v]::box x 27 [iV b.1,iV b.2.1,h.v,i.v,j.v]::row 3 I1 f.v o::row 3 I1 p.v y::row 56 iu k.v A::box u 27 [iV d,iV d,f.v,p.v,k.v]::rs)) (fun | (B,b6),(a0,a1)=>(.exit 2,[],St w0 (imm I1 h.v b.2.2.1::imm I1 i.v b.2.2.2.1::imm iu j.v b.2.2.2.2::mu) (box t 27 [iV 0,iV 0,hnil.v,hnil.v,hnil.v]::box x 27 [iV b.1,iV b.2.1,h.v,i.v,j.v]::row 3 I1 f.v o::row 3 I1 a0.v B::row 56 iu a1.v b6::box u 27 [iV d,iV d,f.v,a0.v,a1.v]::rs))) rfl (_,_) a rfl ?_ ?_
  ·clear a
   rintro ⟨a0,a1⟩ g w a
   refine z 3 0 ?_
   refine yh (rLt (n:=1) (l:=[(B.length:Int)]) a N0 [iV (B.length:Int)] (bp1 e0) rfl rfl (J1 (cs:=[iV (B.length:Int)]) rfl mkI L1)) fun d9 w a=>?_
   refine z 2 8 ?_;intro e1 e2 c e3 w a w a
   cases c
   exact ln (_,_,_) (a.k3l)
  rintro ⟨y,A,m⟩ ⟨p,k⟩ g w b7 a c
  refine q 8 rfl (cI c (fun c5 c=>?_) fun c5 c=>?_)
  ·refine q 11 rfl ?_
   refine jC (LI×LI×Hdr×Hdr) [1,6,7,8,9,10] (fun (E,F,G,H)=>[]) (fun (E,F,G,H) w=>St w0 (imm I1 h.v b.2.2.1::imm I1 i.v b.2.2.2.1::imm iu j.v b.2.2.2.2::mu) (box t 27 [iV 0,iV 0,hnil.v,hnil.v,hnil.v]::box x 27 [iV b.1,iV b.2.1,h.v,i.v,j.v]::row 3 I1 f.v o::row 3 I1 G.v E::row 56 iu H.v F::box u 27 [iV d,iV d,f.v,G.v,H.v]::rs) w∧m_cp m E F=some b7) rfl ?_ ?_
   ·rintro ⟨E,F,G,H⟩ g w ⟨a,c⟩
    refine q 7 rfl ?_
    cases c
    exact ln (_,_) a
   refine cI c (fun c6 c=>?_) fun c6 c=>?_
   ·refine z 1 0 ?_;intro r e4 c b8 w a
    refine yh (rLt (n:=1) (l:=[(r.1,r.2.1,r.2.2.1,r.2.2.2)]) a N7 [.agg #[.bool r.1,.bool r.2.1,b8.v,iV r.2.2.2]] (bp1 e0) rfl rfl (J1 (cs:=[.bool r.1,.bool r.2.1,b8.v,iV r.2.2.2]) rfl (mkP mkB (mkP mkB (mkP (mkS F0) mkI))) L1)) fun e5 w a=>bE c fun b9 c7 c=>q 10 rfl ?_
    refine lpN Hdr Hdr c7 [1,6,7,8,9,10] (fun (a2,I) J=>[(11,J.v),(12,iV I)]) (fun (a2,I) J=>St w0 (imm I1 h.v b.2.2.1::imm I1 i.v b.2.2.2.1::imm iu j.v b.2.2.2.2::mu) (box t 27 [iV 0,iV 0,hnil.v,hnil.v,hnil.v]::box x 27 [iV b.1,iV b.2.1,h.v,i.v,j.v]::row 3 I1 f.v o::row 3 I1 p.v y::row 56 iu k.v A::box u 27 [iV d,iV d,f.v,p.v,k.v]::row 65 (rP rB (rP rB (rP (rS Zt) I1))) J.v a2::rs)) (fun | b9,a3=>(.exit 4,[(11,a3.v)],St w0 (imm I1 h.v b.2.2.1::imm I1 i.v b.2.2.2.1::imm iu j.v b.2.2.2.2::mu) (box t 27 [iV 0,iV 0,hnil.v,hnil.v,hnil.v]::box x 27 [iV b.1,iV b.2.1,h.v,i.v,j.v]::row 3 I1 f.v o::row 3 I1 p.v y::row 56 iu k.v A::box u 27 [iV d,iV d,f.v,p.v,k.v]::row 65 (rP rB (rP rB (rP (rS Zt) I1))) a3.v b9::rs))) rfl _ ((a.k3m).facts (U0 F1 (U0 F2 (U0 F3 (M0 (M0 (M0 (M0 M1)))))))) rfl ?_ ?_
    ·clear a
     rintro a3 g w a
     refine z 1 1 ?_
     refine yh (rLt (n:=1) (l:=[m]) a N0 [iV m] (bp1 e0) rfl rfl (J1 (cs:=[iV m]) rfl mkI L1)) fun e6 w a=>?_
     refine z 2 2 ?_;intro e7 e8 c e9 w a w a
     refine bE c fun f0 f1 c=>bE c fun a4 f2 c=>bE c fun f3 f4 c=>dS [3,4,5,6,8] 5 V0 ?_
     replace a:=a.drew
     refine z 3 0 ?_;intro f5 w a w a
     refine dU (D1 0 3 5 rfl (Rn (qS rfl (sY rfl (lb_ k.v T3 e0 a R0) QSn)) (LH wn (rLt (n:=1) (l:=[a4]) a E2 [.int .u64 a4] (bp1 e0) rfl rfl (J1 (cs:=[.int .u64 a4]) rfl mkI L1)) fun f6 w a=>dU ?_)))
     refine z 3 0 ?_;intro f7 w a w a
     exact jx (_,_,_,_) ⟨((a.k3o).facts (U0 F2 (U0 F3 (U0 F4 (M0 (M0 (M0 (M0 (M0 M1))))))))),c⟩
    rintro ⟨a2,I⟩ J g w c8 a c
    refine q 8 rfl (cI c (fun c9 c=>?_) fun c9 c=>?_)
    ·refine q 11 rfl ?_
     refine jC ((List (Bool×Bool×LI×Int))×Hdr) [1,6,7,8,9,10,12] (fun (K,L)=>[(11,L.v)]) (fun (K,L) w=>St w0 (imm I1 h.v b.2.2.1::imm I1 i.v b.2.2.2.1::imm iu j.v b.2.2.2.2::mu) (box t 27 [iV 0,iV 0,hnil.v,hnil.v,hnil.v]::box x 27 [iV b.1,iV b.2.1,h.v,i.v,j.v]::row 3 I1 f.v o::row 3 I1 p.v y::row 56 iu k.v A::box u 27 [iV d,iV d,f.v,p.v,k.v]::row 65 (rP rB (rP rB (rP (rS Zt) I1))) L.v K::rs) w∧m_cq I K=some c8) rfl ?_ ?_
     ·rintro ⟨K,L⟩ g w ⟨a,c⟩
      refine q 7 rfl ?_
      cases c
      exact ln _ a
     refine cIn c (fun d0 c=>?_) fun d0 c=>?_
     ·exact q 1 rfl (jx (_,_) ⟨a,c⟩)
     ·refine z 4 0 ?_;intro f8 f9 c w a g0 g1 c g2 w a s g3 c c0 w a
      refine yh (rLt (n:=1) (l:=[(s.1,s.2.1,s.2.2.1,s.2.2.2)]) a N7 [.agg #[.bool s.1,.bool s.2.1,c0.v,iV s.2.2.2]] (bp1 e0) rfl rfl (J1 (cs:=[.bool s.1,.bool s.2.1,c0.v,iV s.2.2.2]) rfl (mkP mkB (mkP mkB (mkP (mkS F0) mkI))) L1)) fun g4 w a=>?_
      refine z 1 2 ?_;intro g5 g6 c g7 w a
      exact jx (_,_) ⟨((a.k3p).facts (U0 F2 (U0 F3 (U0 F4 (M0 (M0 (M0 (M0 (M0 M1))))))))),c⟩
    ·refine q 2 rfl ?_
     cases c
     exact lx _ a
   ·refine z 2 2 ?_;intro g8 g9 c w a
    refine jC (LI×LI×Hdr×Hdr) [1,6,7,8,9,10] (fun (N,O,R,S)=>[]) (fun (N,O,R,S) w=>St w0 (imm I1 h.v b.2.2.1::imm I1 i.v b.2.2.2.1::imm iu j.v b.2.2.2.2::mu) (box t 27 [iV 0,iV 0,hnil.v,hnil.v,hnil.v]::box x 27 [iV b.1,iV b.2.1,h.v,i.v,j.v]::row 3 I1 f.v o::row 3 I1 R.v N::row 56 iu S.v O::box u 27 [iV d,iV d,f.v,R.v,S.v]::rs) w∧m_cs m N O=some b7) rfl ?_ ?_
    ·rintro ⟨N,O,R,S⟩ g w ⟨a,c⟩
     exact jx (_,_,_,_) ⟨a,c⟩
    refine cJ c (fun d1 c=>?_) fun d1 c=>?_
    ·refine z 1 1 ?_
     refine yh (rLt (n:=1) (l:=[m]) a N0 [iV m] (bp1 e0) rfl rfl (J1 (cs:=[iV m]) rfl mkI L1)) fun h0 w a=>?_
     refine z 2 2 ?_;intro h1 h3 c h4 w a w a
     refine bE c fun a5 h5 c=>bE c fun h6 h7 c=>dS [5,6,7,9] 4 V0 ?_
     replace a:=a.drew
     refine z 3 0 ?_;intro w a
     refine dU (D1 0 3 6 rfl (Rn (qS rfl (sY rfl (lb_ k.v T3 e0 a R0) QSn)) (LH wn (rLt (n:=1) (l:=[a5]) a E2 [.int .u64 a5] (bp1 e0) rfl rfl (J1 (cs:=[.int .u64 a5]) rfl mkI L1)) fun i0 w a=>dU ?_)))
     refine z 3 0 ?_;intro i1 w a w a
     exact jx (_,_,_,_) ⟨(a.k3o),c⟩
    ·exact q 1 rfl (jx (_,_,_,_) ⟨a,c⟩)
  ·refine q 2 rfl ?_
   cases c
   exact lx (_,_) a
 ·refine q 2 rfl ?_
  cases c
  exact lx (_,_,_) ((a.k3q).fc)
instance:CL prog 6 (type_of% @eh):=⟨@eh⟩
theorem Sm {f h:Int} {y A B:LI} {i d e:Hdr} {out:(List (Int×Int×Int))} (c:m_cy f h y A B=some out) (R:imm I1 i.v y∈mu) (C:imm I1 d.v A∈mu) (D:imm iu e.v B∈mu) (a:St w0 mu rs w):
  Calls prog 15 #[.agg #[iV f,iV h,i.v,d.v,e.v]] w (ro w0 mu rs 58 rTi64i64u64 out):=by
 refine en func15 rfl ntmps15 fun Q E=>?_
 refine z 3 3 ?_;intro p w a S T c w a
 refine cIn c (fun J c=>?_) fun J c=>?_
 ·refine q 14 rfl (bE c fun F K c=>?_)
  replace a:=a.rowNh 58 rTi64i64u64
  refine lpN Hdr Hdr K [1] (fun (r,b) m=>[(3,m.v),(4,iV b)]) (fun (r,b) m=>St w0 mu (box p 27 [iV f,iV h,i.v,d.v,e.v]::row 58 rTi64i64u64 m.v r::rs)) (fun | F,s=>(.exit 0,[(3,s.v)],St w0 mu (row 58 rTi64i64u64 s.v F::rs))) rfl _ (a.k10) rfl ?_ ?_
  ·clear a
   rintro s g w a
   refine q 9 rfl ?_
   cases c
   exact E _ _ _ (X1 results15 ⟨rfl,rfl⟩ ⟨_,rfl,a⟩)
  rintro ⟨r,b⟩ m g w U a c
  refine z 1 3 ?_
  refine cI c (fun L c=>?_) fun L c=>?_
  ·refine z 3 4 ?_;intro V W c
   refine bE c fun G N c=>?_
   refine lpN Hdr Hdr N [1,4] (fun (t,u) o=>[(3,o.v),(5,iV u)]) (fun (t,u) o=>St w0 mu (box p 27 [iV f,iV h,i.v,d.v,e.v]::row 58 rTi64i64u64 o.v t::rs)) (fun | G,x=>(.exit 2,[(3,x.v)],St w0 mu (box p 27 [iV f,iV h,i.v,d.v,e.v]::row 58 rTi64i64u64 x.v G::rs))) rfl _ a rfl ?_ ?_
   ·clear a
    rintro x g w a
    refine q 8 rfl ?_
    cases c
    exact ln _ a
   rintro ⟨t,u⟩ o g w X a c
   refine z 3 3 ?_;intro Z a0 c
   refine cI c (fun O c=>?_) fun O c=>?_
   ·refine q 4 rfl (bE c fun j H c=>bE c fun k I c=>bE c fun a1 a2 c=>dS [13,14,15] 3 V0 ?_)
    replace a:=a.drew
    refine D1 8191 0 13 rfl (qR 2 rfl (rQ rfl (lb_ d.v P0 e0 a R0) (qR 1 rfl (rQ rfl (yIa N0 e0 e0 a (rdI C) H) (rQ rfl (yI O_3 e0 a (rdI C) H) (qR 2 rfl (rQ rfl (lb_ e.v T3 e0 a R0) (qR 1 rfl (rQ rfl (yIa E2 e0 e0 a (rdI D) I) (rQ rfl (yI B5 e0 a (rdI D) I) (rQ rfl (D6 (us:=[iV j,iV b,.int .u64 k]) [(0,iV j),(1,iV b),(2,.int .u64 k)] Vi (bp3 e0 e0 e0) rfl) (Rn QSn (LH wn (rLt (n:=1) (l:=[(j,b,k)]) a H5 [.agg #[iV j,iV b,.int .u64 k]] (bp1 e0) rfl rfl (J1 (cs:=[iV j,iV b,.int .u64 k]) rfl (mkF rfl) L1)) ?_)))))))))))))
    refine fun a3 w a=>dU ?_
    refine z 3 7 ?_;intro a4 w a
    cases c
    exact ln _ (a.k2e)
   ·refine q 2 rfl ?_
    cases c
    exact lx _ a
  ·refine q 2 rfl ?_
   cases c
   exact lx _ (a.k12)
 ·refine q 7 rfl ?_
  cases c
  replace a:=a.rowNh 58 rTi64i64u64
  exact E _ _ _ (X1 results15 ⟨rfl,rfl⟩ ⟨_,rfl,(a.k11)⟩)
instance:CL prog 15 (type_of% @Sm):=⟨@Sm⟩
theorem Rm {d f:Int} {V:List (Int×Int×Int)} {W:Hdr} {out:Int×Int×LI×LI×LI} (c:m_c3 d f V=some out) (k:imm rTi64i64u64 W.v V∈mu) (a:St w0 mu rs w):
  Calls prog 16 #[iV d,iV f,W.v] w (fun e w=>∃ (X Z a0:Hdr),e=.returned (.agg #[iV out.1,iV out.2.1,X.v,Z.v,a0.v])∧St w0 mu (row 3 I1 X.v out.2.2.1::row 3 I1 Z.v out.2.2.2.1::row 56 iu a0.v out.2.2.2.2::rs) w):=by
 refine en func16 rfl ntmps16 fun Q a9=>?_
 refine z 1 6 ?_;intro h w a
 refine yh (rLt (n:=1) (l:=[0]) a N0 [iV 0] (bp1 rfl) rfl rfl (J1 (cs:=[iV 0]) rfl mkI L1)) fun t w a=>?_
 refine z 3 7 ?_;intro i w a w a
 refine bE c fun c3 b0 c=>yh (rMk a N0 e0 b0) fun m w a=>bE c fun o b1 c=>q 10 rfl ?_
 refine lp b1 [0,1,2,6,7,8] (fun (H,x)=>[(9,iV x)]) (fun (H,x)=>St w0 mu (box h 27 [iV 0,iV 0,hnil.v,hnil.v,hnil.v]::row 3 I1 t.v [0]::box i 27 [iV d,iV f,t.v,hnil.v,hnil.v]::row 3 I1 m.v H::rs)) (fun | o=>(.exit 0,[],St w0 mu (box h 27 [iV 0,iV 0,hnil.v,hnil.v,hnil.v]::row 3 I1 t.v [0]::box i 27 [iV d,iV f,t.v,hnil.v,hnil.v]::row 3 I1 m.v o::rs))) rfl (a.k2f) rfl ?_ ?_
 ·clear a
  intro g w a
  refine q 9 rfl ?_
  obtain ⟨⟨a1,a2,a3⟩,b2,c⟩:=bs c
  replace a:=(a.rowNh 3 I1).rowNh 56 iu
  refine lpN (Hdr×Hdr×Hdr) (Hdr×Hdr×Hdr) b2 [0,1,2,6,7,8] (fun (p,I,J,K) (b,y,A)=>[(10,iV K)]) (fun (p,I,J,K) (b,y,A)=>St w0 mu (box h 27 [iV 0,iV 0,hnil.v,hnil.v,hnil.v]::row 3 I1 b.v p::row 3 I1 y.v I::row 56 iu A.v J::box i 27 [iV d,iV f,b.v,y.v,A.v]::row 3 I1 m.v o::rs)) (fun | (a1,a2,a3),(L,N,O)=>(.exit 2,[],St w0 mu (box h 27 [iV 0,iV 0,hnil.v,hnil.v,hnil.v]::row 3 I1 L.v a1::row 3 I1 N.v a2::row 56 iu O.v a3::box i 27 [iV d,iV f,L.v,N.v,O.v]::rs))) rfl (_,_,_) (a.k3r) rfl ?_ ?_
  ·clear a
   rintro ⟨L,N,O⟩ g w a
   refine z 2 3 ?_;intro w a
   cases c
   exact a9 _ _ _ (X1 results16 (V2 rfl rfl a R0 E5 rfl) ⟨_,_,_,rfl,(a.k3g)⟩)
  rintro ⟨p,I,J,K⟩ ⟨b,y,A⟩ g w c4 a c
  refine q 8 rfl (cI c (fun b3 c=>?_) fun b3 c=>?_)
  ·refine q 11 rfl ?_
   obtain ⟨⟨r,a4⟩,b4,c⟩:=bs c
   refine lpN (Hdr×Hdr) (Hdr×Hdr) b4 [0,1,2,6,7,8,10] (fun (R,S,j) (B,s)=>[(11,iV j)]) (fun (R,S,j) (B,s)=>St w0 mu (box h 27 [iV 0,iV 0,hnil.v,hnil.v,hnil.v]::row 3 I1 b.v p::row 3 I1 B.v R::row 56 iu s.v S::box i 27 [iV d,iV f,b.v,B.v,s.v]::row 3 I1 m.v o::rs)) (fun | (r,a4),(T,U)=>(.exit 4,[],St w0 mu (box h 27 [iV 0,iV 0,hnil.v,hnil.v,hnil.v]::row 3 I1 b.v p::row 3 I1 T.v r::row 56 iu U.v a4::box i 27 [iV d,iV f,b.v,T.v,U.v]::row 3 I1 m.v o::rs))) rfl (_,_) a rfl ?_ ?_
   ·clear a
    rintro ⟨T,U⟩ g w a
    refine z 3 0 ?_
    refine yh (rLt (n:=1) (l:=[(r.length:Int)]) a N0 [iV (r.length:Int)] (bp1 e0) rfl rfl (J1 (cs:=[iV (r.length:Int)]) rfl mkI L1)) fun c5 w a=>?_
    refine z 2 8 ?_;intro c6 c7 c c8 w a w a
    cases c
    exact ln (_,_,_) (a.k3s)
   rintro ⟨R,S,j⟩ ⟨B,s⟩ g w b6 a c
   refine q 8 rfl (cI c (fun b8 c=>?_) fun b8 c=>?_)
   ·refine z 2 9 ?_;intro c9 d0 c
    refine jC (LI×LI×Hdr×Hdr) [0,1,2,6,7,8,10,11] (fun (C,D,E,F)=>[]) (fun (C,D,E,F) w=>St w0 mu (box h 27 [iV 0,iV 0,hnil.v,hnil.v,hnil.v]::row 3 I1 b.v p::row 3 I1 E.v C::row 56 iu F.v D::box i 27 [iV d,iV f,b.v,E.v,F.v]::row 3 I1 m.v o::rs) w∧m_cz j C D=some b6) rfl ?_ ?_
    ·rintro ⟨C,D,E,F⟩ g w ⟨a,c⟩
     refine q 7 rfl ?_
     cases c
     exact ln (_,_) a
    refine cI c (fun b9 c=>?_) fun b9 c=>?_
    ·refine z 1 1 ?_
     refine yh (rLt (n:=1) (l:=[j]) a N0 [iV j] (bp1 e0) rfl rfl (J1 (cs:=[iV j]) rfl mkI L1)) fun d1 w a=>?_
     refine z 2 2 ?_;intro d2 d3 c d4 w a w a
     refine bE c fun G a5 c=>bE c fun d5 d6 c=>dS [8,9,11] 3 V0 ?_
     replace a:=a.drew
     refine D1 255 0 8 rfl (qR 1 rfl (rQ rfl (lb_ s.v T3 e0 a R0) (qR 3 rfl (rQ rfl (yIa H5 e0 e0 a (rdI k) a5) (rQ rfl (yFe BD e0) (rQ rfl (yFf (u:=.int .u64 G.2.2) B5 e0 a (rdI k) a5 rfl) (Rn QSn (LH wn (rLt (n:=1) (l:=[G.2.2]) a E2 [.int .u64 G.2.2] (bp1 e0) rfl rfl (J1 (cs:=[.int .u64 G.2.2]) rfl mkI L1)) fun d7 w a=>dU ?_))))))))
     refine z 3 0 ?_;intro d8 w a w a
     exact jx (_,_,_,_) ⟨(a.k3t),c⟩
    ·exact q 1 rfl (jx (_,_,_,_) ⟨a,c⟩)
   ·refine q 2 rfl ?_
    cases c
    exact lx (_,_) a
  ·refine q 2 rfl ?_
   cases c
   exact lx (_,_,_) (a.k3u)
 rintro ⟨H,x⟩ g w d9 a c
 refine z 1 3 ?_
 refine cI c (fun c0 c=>?_) fun c0 c=>?_
 ·refine q 4 rfl (bE c fun c1 a6 c=>bE c fun c2 a7 c=>bE c fun e1 a8 c=>dS [17] 1 V0 ?_)
  replace a:=a.drew
  refine D0 131071 0 17 rfl (qR 3 rfl (rQ rfl (yIa H5 e0 e0 a (rdI k) a6) (rQ rfl (yFe CD e0) (rQ rfl (yFf (u:=iV c1.2.1) O_3 e0 a (rdI k) a6 rfl) (qR 4 rfl (rQ rfl (yIa H5 e0 e0 a (rdI k) a7) (rQ rfl (yFe DD e0) (rQ rfl (yFf (u:=iV c2.1) O_3 e0 a (rdI k) a7 rfl) (qR 3 rfl (rQ rfl (yIs N0 e0 e0 a rO3 a8) (Rn QSn ?_)))))))))))
  replace a:=a.k1d
  refine LT wn (V1 (cs:=[iV (wa .i64 x 1)]) a O_3 rfl e0 e0 rfl mkI a8) fun w a=>?_
  refine z 1 7 ?_
  cases c
  exact lo (a.k1n)
 ·refine q 2 rfl ?_
  cases c
  exact xo a
instance:CL prog 16 (type_of% @Rm):=⟨@Rm⟩
theorem dh {d f:Int} {D E F:LI} {h i j:Hdr} {out:Int×Int×LI×LI×LI} (c:m_c7 d f D E F=some out) (U:imm I1 h.v D∈mu) (V:imm I1 i.v E∈mu) (W:imm iu j.v F∈mu) (a:St w0 mu rs w):
  Calls prog 5 #[.agg #[iV d,iV f,h.v,i.v,j.v]] w (fun e w=>∃ (G H I:Hdr),e=.returned (.agg #[iV out.1,iV out.2.1,G.v,H.v,I.v])∧St w0 mu (row 3 I1 G.v out.2.2.1::row 3 I1 H.v out.2.2.2.1::row 56 iu I.v out.2.2.2.2::rs) w):=by
 refine en func5 rfl ntmps5 fun Q L=>?_
 refine z 4 10 ?_;intro m w a o w a x X c A w a
 refine bE c fun J N c=>?_
 replace a:=a.rowNh 58 rTi64i64u64
 refine lpN Hdr Hdr N [1,2,4] (fun (B,k) p=>[(3,p.v),(5,iV k)]) (fun (B,k) p=>St w0 mu (box m 27 [iV d,iV f,h.v,i.v,j.v]::box o 27 [iV 0,iV 0,hnil.v,hnil.v,hnil.v]::row 58 rTi64i64u64 p.v B::row 58 rTi64i64u64 A.v x::rs)) (fun | J,C=>(.exit 0,[(3,C.v)],St w0 mu (box m 27 [iV d,iV f,h.v,i.v,j.v]::box o 27 [iV 0,iV 0,hnil.v,hnil.v,hnil.v]::row 58 rTi64i64u64 C.v J::rs))) rfl _ (a.k3v) rfl ?_ ?_
 ·clear a
  rintro C g w a
  refine z 4 3 ?_;intro Z a0 c a1 a2 a3 w a w a
  cases c
  exact L _ _ _ (X1 results5 (V2 rfl rfl a R0 E5 rfl) ⟨_,_,_,rfl,((a.k3g).fc)⟩)
 rintro ⟨B,k⟩ p g w K a c
 refine z 1 3 ?_
 refine cI c (fun O c=>?_) fun O c=>?_
 ·refine q 3 rfl ?_
  refine jC ((List (Int×Int×Int))×Hdr) [1,2,4,5] (fun (r,s)=>[(3,s.v)]) (fun (r,s) w=>St w0 mu (box m 27 [iV d,iV f,h.v,i.v,j.v]::box o 27 [iV 0,iV 0,hnil.v,hnil.v,hnil.v]::row 58 rTi64i64u64 s.v r::row 58 rTi64i64u64 A.v x::rs) w∧m_c4 k r=some K) rfl ?_ ?_
  ·rintro ⟨r,s⟩ g w ⟨a,c⟩
   refine q 6 rfl ?_
   cases c
   exact ln _ a
  refine z 1 0 ?_;intro b R c
  refine y (yFn j7 e0 a rO3 R rfl) ?_
  refine z 4 3 ?_;intro a4 w a w a
  refine cI c (fun S c=>?_) fun S c=>?_
  ·exact q 3 rfl (jx (_,_) ⟨(a.k3d),c⟩)
  ·refine z 1 0 ?_
   refine yh (rLt (n:=1) (l:=[(b.1,b.2.1,b.2.2)]) a H5 [.agg #[iV b.1,iV b.2.1,.int .u64 b.2.2]] (bp1 e0) rfl rfl (J1 (cs:=[iV b.1,iV b.2.1,.int .u64 b.2.2]) rfl (mkF rfl) L1)) fun a5 w a=>?_
   refine z 3 3 ?_;intro a6 a7 c a8 w a
   refine jC ((List (Int×Int×Int))×Hdr) [1,2,4,5] (fun (t,u)=>[(3,u.v)]) (fun (t,u) w=>St w0 mu (box m 27 [iV d,iV f,h.v,i.v,j.v]::box o 27 [iV 0,iV 0,hnil.v,hnil.v,hnil.v]::row 58 rTi64i64u64 u.v t::row 58 rTi64i64u64 A.v x::rs) w∧m_c5 k t=some K) rfl ?_ ?_
   ·rintro ⟨t,u⟩ g w ⟨a,c⟩
    exact q 1 rfl (jx (_,_) ⟨a,c⟩)
   refine cI c (fun T c=>?_) fun T c=>?_
   ·refine z 4 0 ?_
    refine yh (rLt (n:=1) (l:=[(b.2.1,b.1,b.2.2)]) a H5 [.agg #[iV b.2.1,iV b.1,.int .u64 b.2.2]] (bp1 e0) rfl rfl (J1 (cs:=[iV b.2.1,iV b.1,.int .u64 b.2.2]) rfl (mkF rfl) L1)) fun a9 w a=>?_
    refine z 1 2 ?_;intro b0 b1 c b2 w a
    exact jx (_,_) ⟨(a.k3w),c⟩
   ·exact q 1 rfl (jx (_,_) ⟨(a.k3x),c⟩)
 ·refine q 2 rfl ?_
  cases c
  exact lx _ (a.k1k)
instance:CL prog 5 (type_of% @dh):=⟨@dh⟩
theorem Qm {b d e:Int} {out:Bool} (c:m_c8 b d e=some out) (a:St w0 mu rs w):
  Calls prog 59 #[iV b,iV d,iV e] w (rv w0 mu rs (.bool out)):=by
 refine en func59 rfl ntmps59 fun Q i=>q 11 rfl ?_
 refine jW 4 [] [(14,.bool ((decide (d≤b)) && (decide (b≤e))))] (St w0 mu rs) rfl (fun h=>?_) ?_
 ·refine gB 10 rfl (fun f=>?_) fun f=>?_
  ·exact q 4 rfl (h _ _ a (Z0 (S0 Value.bool (j5 f)) rfl))
  ·exact q 4 rfl (h _ _ a (Z0 (S0 Value.bool (m5 f)) rfl))
 intro g w a
 exact vx
instance:CL prog 59 (type_of% @Qm):=⟨@Qm⟩
theorem Om {b:Int} {out:Bool} (c:m_c9 b=some out) (a:St w0 mu rs w):
  Calls prog 195 #[iV b] w (rv w0 mu rs (.bool out)):=by
 exact en func195 rfl ntmps195 fun Q d=>vx
instance:CL prog 195 (type_of% @Om):=⟨@Om⟩
theorem Nm {b d:Int} {out:Bool} (c:m_da b d=some out) (a:St w0 mu rs w):
  Calls prog 161 #[iV b,iV d] w (rv w0 mu rs (.bool out)):=by
 exact en func161 rfl ntmps161 fun Q e=>vx
instance:CL prog 161 (type_of% @Nm):=⟨@Nm⟩
theorem Rb {d:LI} {e:Hdr} {out:Bool} (c:m_dc d=some out) (i:imm I1 e.v d∈mu) (a:St w0 mu rs w):
  Calls prog 115 #[e.v] w (rv w0 mu rs (.bool out)):=by
 refine en func115 rfl ntmps115 fun Q j=>?_
 refine z 1 5 ?_
 refine bE c fun f h c=>?_
 refine lp h [0] (fun b=>[(3,iV b)]) (fun b=>St w0 mu rs) (fun | .inl ()=>(.exit 0,[],St w0 mu rs) | .inr ()=>(.ret,[(2,.bool false)],St w0 mu rs)) rfl a rfl ?_ ?_
 ·clear a
  intro g w a
  rcases f with ⟨⟩ | ⟨⟩
  ·exact vx
  ·exact vx
 rintro b g w k a c
 exact vx
instance:CL prog 115 (type_of% @Rb):=⟨@Rb⟩
theorem Mm {p e:Int} {J K L:LI} {d f m:Hdr} {out:Bool} (c:m_df p e J K L=some out) (b:imm I1 d.v J∈mu) (u:imm I1 f.v K∈mu) (a6:imm iu m.v L∈mu) (a:St w0 mu rs w):
  Calls prog 60 #[.agg #[iV p,iV e,d.v,f.v,m.v]] w (rv w0 mu rs (.bool out)):=by
 refine en func60 rfl ntmps60 fun Q c1=>?_
 refine z 1 5 ?_;intro y w a
 refine bE c fun r n c=>bE c fun o j c=>bE c fun k h c=>bE c fun s i c=>?_
 refine jN Unit [1] (fun _=>[(47,.bool s)]) (fun _=>St w0 mu (box y 27 [iV p,iV e,d.v,f.v,m.v]::rs)) rfl ?_ ?_
 ·rcases Z4 n with ⟨t,n⟩ | ⟨t,n⟩
  ·refine bE n fun c2 l n=>?_
   have A:=U2 n
   rcases Z4 j with ⟨x,j⟩ | ⟨x,j⟩
   ·have N:=U2 j
    have O:o=true:=N.symm
    rw [I0 O] at h
    have R:=U2 h
    have S:k=true:=R.symm
    rw [I0 S] at i
    have a7:=U2 i
    refine dS [17] 1 V0 ?_
    replace a:=a.drew
    refine D1 131071 0 17 rfl (qR 1 rfl (rQ rfl (lb_ d.v P0 e0 a R0) (rQ rfl (T1 N0 e0 a (rdI b)) (qR 1 rfl (rQ rfl (lb_ (iV e) O_3 e0 a R0) (qR 3 rfl (rK 14 rfl (nF (dT t)) (qR 1 rfl (rQ rfl (lb_ d.v P0 e0 a R0) (rQ rfl (yIa N0 e0 rfl a (rdI b) l) (rQ rfl (yI O_3 e0 a (rdI b) l) (qR 1 rfl (rQ rfl (pf_ (.bool r) e0 rfl (eqv A e0)) ?_)))))))))))))
    refine qR 1 rfl (rK 21 rfl x (qR 2 rfl (Rn QSn (Lx (N3.2 rfl) (dU (Dw 2199022993408 0 (qR 1 rfl (rQ rfl (pt_ (.bool o) e0 rfl (eqv N rfl)) (qR 1 rfl (rK 27 rfl O (qR 10 rfl (rQ rfl (pt_ (.bool k) e0 rfl (eqv R rfl)) (qR 1 rfl ?_)))))))))))))
    exact rK 39 rfl S (qR 7 rfl (rQ rfl (pt_ (.bool s) e0 rfl (eqv a7 rfl)) (Rn QSn (jr () a))))
   ·refine bE j fun c3 D j=>?_
    have E:=U2 j
    rcases Z4 h with ⟨B,h⟩ | ⟨B,h⟩
    ·have T:=U2 h
     have U:k=true:=T.symm
     rw [I0 U] at i
     have a8:=U2 i
     refine dS [17] 1 V0 ?_
     replace a:=a.drew
     refine D1 131071 0 17 rfl (qR 1 rfl (rQ rfl (lb_ d.v P0 e0 a R0) (rQ rfl (T1 N0 e0 a (rdI b)) (qR 1 rfl (rQ rfl (lb_ (iV e) O_3 e0 a R0) (qR 3 rfl (rK 14 rfl (nF (dT t)) (qR 1 rfl (rQ rfl (lb_ d.v P0 e0 a R0) (rQ rfl (yIa N0 e0 rfl a (rdI b) l) (rQ rfl (yI O_3 e0 a (rdI b) l) (qR 1 rfl (rQ rfl (pf_ (.bool r) e0 rfl (eqv A e0)) ?_)))))))))))))
     refine qR 1 rfl (rK 21 rfl (k8 x) (qR 1 rfl (rQ rfl (lb_ d.v P0 e0 a R0) (Rn QSn (kZ (Rb D b a) fun w a=>dU (Dw 2199022993408 0 (qR 1 rfl (rQ rfl (pf_ (.bool o) e0 rfl (eqv E e0)) (qR 1 rfl (rK 27 rfl B (qR 10 rfl (rQ rfl (pt_ (.bool k) e0 rfl (eqv T rfl)) ?_))))))))))))
     exact qR 1 rfl (rK 39 rfl U (qR 7 rfl (rQ rfl (pt_ (.bool s) e0 rfl (eqv a8 rfl)) (Rn QSn (jr () a)))))
    ·refine bE h fun c4 C h=>?_
     have V:=U2 h
     rcases Z4 i with ⟨F,i⟩ | ⟨F,i⟩
     ·have a9:=U2 i
      refine dS [17] 1 V0 ?_
      replace a:=a.drew
      refine D1 131071 0 17 rfl (qR 1 rfl (rQ rfl (lb_ d.v P0 e0 a R0) (rQ rfl (T1 N0 e0 a (rdI b)) (qR 1 rfl (rQ rfl (lb_ (iV e) O_3 e0 a R0) (qR 3 rfl (rK 14 rfl (nF (dT t)) (qR 1 rfl (rQ rfl (lb_ d.v P0 e0 a R0) (rQ rfl (yIa N0 e0 rfl a (rdI b) l) (rQ rfl (yI O_3 e0 a (rdI b) l) (qR 1 rfl (rQ rfl (pf_ (.bool r) e0 rfl (eqv A e0)) ?_)))))))))))))
      refine qR 1 rfl (rK 21 rfl (k8 x) (qR 1 rfl (rQ rfl (lb_ d.v P0 e0 a R0) (Rn QSn (kZ (Rb D b a) fun w a=>dU (Dw 2199022993408 0 (qR 1 rfl (rQ rfl (pf_ (.bool o) e0 rfl (eqv E e0)) (qR 1 rfl (rK 27 rfl (k8 B) (qR 1 rfl (rQ rfl (lb_ d.v P0 e0 a R0) ?_))))))))))))
      exact qR 1 rfl (rQ rfl (lb_ (iV e) O_3 e0 a R0) (rQ rfl (yIa N0 e0 e0 a (rdI b) C) (rQ rfl (yI O_3 e0 a (rdI b) C) (qR 1 rfl (rQ rfl (lb_ f.v P0 e0 a R0) (rQ rfl (T1 N0 e0 a (rdI u)) (qR 1 rfl (rQ rfl (pf_ (.bool k) e0 rfl (eqv V e0)) (qR 1 rfl (rK 39 rfl F (qR 7 rfl (rQ rfl (pt_ (.bool s) e0 rfl (eqv a9 rfl)) (Rn QSn (jr () a))))))))))))))
     ·have b0:=U2 i
      refine dS [17] 1 V0 ?_
      replace a:=a.drew
      refine D1 131071 0 17 rfl (qR 1 rfl (rQ rfl (lb_ d.v P0 e0 a R0) (rQ rfl (T1 N0 e0 a (rdI b)) (qR 1 rfl (rQ rfl (lb_ (iV e) O_3 e0 a R0) (qR 3 rfl (rK 14 rfl (nF (dT t)) (qR 1 rfl (rQ rfl (lb_ d.v P0 e0 a R0) (rQ rfl (yIa N0 e0 rfl a (rdI b) l) (rQ rfl (yI O_3 e0 a (rdI b) l) (qR 1 rfl (rQ rfl (pf_ (.bool r) e0 rfl (eqv A e0)) ?_)))))))))))))
      refine qR 1 rfl (rK 21 rfl (k8 x) (qR 1 rfl (rQ rfl (lb_ d.v P0 e0 a R0) (Rn QSn (kZ (Rb D b a) fun w a=>dU (Dw 2199022993408 0 (qR 1 rfl (rQ rfl (pf_ (.bool o) e0 rfl (eqv E e0)) (qR 1 rfl (rK 27 rfl (k8 B) (qR 1 rfl (rQ rfl (lb_ d.v P0 e0 a R0) ?_))))))))))))
      refine qR 1 rfl (rQ rfl (lb_ (iV e) O_3 e0 a R0) (rQ rfl (yIa N0 e0 e0 a (rdI b) C) (rQ rfl (yI O_3 e0 a (rdI b) C) (qR 1 rfl (rQ rfl (lb_ f.v P0 e0 a R0) (rQ rfl (T1 N0 e0 a (rdI u)) (qR 1 rfl (rQ rfl (pf_ (.bool k) e0 rfl (eqv V e0)) (qR 1 rfl (rK 39 rfl (k8 F) (qR 1 rfl (rQ rfl (lb_ f.v P0 e0 a R0) (rQ rfl (T1 N0 e0 a (rdI u)) ?_)))))))))))))
      exact qR 1 rfl (rQ rfl (lb_ m.v T3 e0 a R0) (rQ rfl (T1 E2 e0 a (rdI a6)) (qR 1 rfl (rQ rfl (pf_ (.bool s) e0 rfl (eqv b0 e0)) (Rn QSn (jr () a))))))
  ·have W:=U2 n
   have X:r=true:=W.symm
   rw [I0 X] at j
   have Z:=U2 j
   have a0:o=true:=Z.symm
   rw [I0 a0] at h
   have a1:=U2 h
   have a2:k=true:=a1.symm
   rw [I0 a2] at i
   have b1:=U2 i
   refine dS [17] 1 V0 ?_
   replace a:=a.drew
   refine D1 131071 0 17 rfl (qR 1 rfl (rQ rfl (lb_ d.v P0 e0 a R0) (rQ rfl (T1 N0 e0 a (rdI b)) (qR 1 rfl (rQ rfl (lb_ (iV e) O_3 e0 a R0) (qR 3 rfl (rK 14 rfl (nT (dF t)) (qR 5 rfl (rQ rfl (pt_ (.bool r) e0 rfl (eqv W rfl)) (qR 1 rfl (rK 21 rfl X (qR 2 rfl (Rn QSn ?_)))))))))))))
   exact Lx (N3.2 rfl) (dU (Dw 2199022993408 0 (qR 1 rfl (rQ rfl (pt_ (.bool o) e0 rfl (eqv Z rfl)) (qR 1 rfl (rK 27 rfl a0 (qR 10 rfl (rQ rfl (pt_ (.bool k) e0 rfl (eqv a1 rfl)) (qR 1 rfl (rK 39 rfl a2 (qR 7 rfl (rQ rfl (pt_ (.bool s) e0 rfl (eqv b1 rfl)) (Rn QSn (jr () a))))))))))))))
 rintro _ g w a
 refine v 0 ?_
 refine ⟨vt,fun _ c=>?_⟩
 refine bE c fun b2 b3 c=>?_
 refine lp b3 [1,49] (fun G=>[(50,iV G)]) (fun G=>St w0 mu (box y 27 [iV p,iV e,d.v,f.v,m.v]::rs)) (fun | .inl ()=>(.exit 0,[],St w0 mu rs) | .inr ()=>(.ret,[(2,.bool false)],St w0 mu rs)) rfl a rfl ?_ ?_
 ·clear a
  intro g w a
  rcases b2 with ⟨⟩ | ⟨⟩
  ·exact vx
  ·exact vx
 rintro G g w c5 a c
 refine q 6 rfl (cI c (fun b4 c=>?_) fun b4 c=>?_)
 ·refine q 16 rfl (bE c fun b5 a3 c=>bE c fun b6 a4 c=>bE c fun b7 a5 c=>dS [] 0 V0 ?_)
  replace a:=a.drew
  refine Dw 65535 0 (qR 1 rfl (rQ rfl (lb_ f.v P0 e0 a R0) (qR 1 rfl (rQ rfl (lb_ d.v P0 e0 a R0) (qR 1 rfl (rQ rfl (yIa N0 e0 e0 a (rdI b) a3) (rQ rfl (yI O_3 e0 a (rdI b) a3) (qR 1 rfl (rQ rfl (lb_ d.v P0 e0 a R0) (qR 2 rfl (rQ rfl (yIa N0 e0 e0 a (rdI b) a4) (rQ rfl (yI O_3 e0 a (rdI b) a4) (rQ rfl (ySl N0 e0 a (rdI u) (.inl (S0 some e0)) (.inl (S0 some e0)) a5) ?_)))))))))))))
  replace a:=a.sub u a5
  refine rQ rfl (T1 N0 e0 a (rdI F0)) (qR 1 rfl (Rn QSn (bE c fun b8 c0 c=>qx 2 rfl ?_)))
  refine lp c0 [1,49,50,66,67] (fun (H,I)=>[(4,iV H),(68,iV I)]) (fun (H,I)=>St w0 (imm I1 (subH f 1 b5 b6).v b7::mu) (box y 27 [iV p,iV e,d.v,f.v,m.v]::rs)) (fun | .inl ()=>(.exit 2,[],St w0 mu (box y 27 [iV p,iV e,d.v,f.v,m.v]::rs)) | .inr ()=>(.ret,[(2,.bool false)],St w0 mu rs)) rfl a rfl ?_ ?_
  ·clear a
   intro g w a
   rcases b8 with ⟨⟩ | ⟨⟩
   ·exact vx
   ·exact vx
  rintro ⟨H,I⟩ g w c6 a c
  exact vx
 ·exact vx
instance:CL prog 60 (type_of% @Mm):=⟨@Mm⟩
theorem Jm {b:Int} {out:Int×Int} (c:m_dg b=some out) (a:St w0 mu rs w):
  Calls prog 90 #[.int .u64 b] w (rv w0 mu rs (.tuple #[iV out.1,.int .u64 out.2])):=by
 exact en func90 rfl ntmps90 fun Q d=>vx
instance:CL prog 90 (type_of% @Jm):=⟨@Jm⟩
theorem Uq {p:Prop}(h:p:=by
  cases c
  replace a:=a.rowNh 24 S1
  exact r _ _ _ (M3 results7 (V2 rfl rfl a R1 Z3 rfl) ⟨rfl,rfl⟩ ⟨_,rfl,(a.k1l)⟩)):p:=h
theorem Na {b:Int} {out:Bool} (c:m_dh b=some out) (a:St w0 mu rs w):
  Calls prog 42 #[.int .u64 b] w (rv w0 mu rs (.bool out)):=by
 exact en func42 rfl ntmps42 fun Q d=>vx
instance:CL prog 42 (type_of% @Na):=⟨@Na⟩
theorem bh {b:Int} {out:Bool} (c:m_di b=some out) (a:St w0 mu rs w):
  Calls prog 62 #[.int .u64 b] w (rv w0 mu rs (.bool out)):=by
 exact en func62 rfl ntmps62 fun Q d=>vx
instance:CL prog 62 (type_of% @bh):=⟨@bh⟩
theorem Im {d:LI} {e:Hdr} {out:Int} (c:m_dk d=some out) (k:imm iu e.v d∈mu) (a:St w0 mu rs w):
  Calls prog 116 #[e.v,.func (.func 62) #[] #[]] w (rv w0 mu rs (iV out)):=by
 refine en func116 rfl ntmps116 fun Q l=>?_
 refine z 1 4 ?_
 refine bE c fun h i c=>?_
 refine lp i [0,1,7] (fun b=>[(8,iV b)]) (fun b=>St w0 mu rs) (fun | .inl ()=>(.exit 0,[],St w0 mu rs) | .inr f=>(.ret,[(4,iV f)],St w0 mu rs)) rfl a rfl ?_ ?_
 ·clear a
  intro g w a
  rcases h with ⟨⟩ | f
  ·exact vx
  ·exact vx
 rintro b g w m a c
 refine v 0 ?_
 refine ⟨fun _ _ _ _ c=>?_,vt⟩
 refine bE c fun n j c=>yC (A8 rD e0 (a1 e0)) (bh j a) ?_
 rintro _ w ⟨rfl,a⟩
 refine ⟨_,rfl,?_⟩
 exact nf vx
instance:CL prog 116 (type_of% @Im):=⟨@Im⟩
theorem Hm {b:LI} {d:Hdr} {out:Bool} (c:m_dl b=some out) (e:imm iu d.v b∈mu) (a:St w0 mu rs w):
  Calls prog 61 #[d.v,.func (.func 62) #[] #[]] w (rv w0 mu rs (.bool out)):=by
 exact en func61 rfl ntmps61 fun Q f=>vx
instance:CL prog 61 (type_of% @Hm):=⟨@Hm⟩
theorem Xd {b d:Int} {e f g:LI} {h i j:Hdr} {out:Int} (c:m_dm b d e f g=some out) (k:imm I1 h.v e∈mu) (l:imm I1 i.v f∈mu) (m:imm iu j.v g∈mu) (a:St w0 mu rs w):
  Calls prog 25 #[.agg #[iV b,iV d,h.v,i.v,j.v]] w (rv w0 mu rs (iV out)):=by
 exact en func25 rfl ntmps25 fun Q n=>vx
instance:CL prog 25 (type_of% @Xd):=⟨@Xd⟩
theorem Fm {j:Int} {out:(List BL)} (c:m_do j=some out) (a:St w0 mu rs w):
  Calls prog 26 #[iV j] w (fun e w=>∃ (k:Hdr) (l:List Hdr),e=.returned (k.v)∧St w0 mu (row 95 rH k.v l::fam 4 rB l out::rs) w):=by
 refine en func26 rfl ntmps26 fun Q r=>bE c fun C s c=>q 8 rfl ?_
 obtain ⟨t,em3,x⟩:=G5 s hnil
 refine yh (rMk a na e0 x) fun m w a=>?_
 replace a:=(a.fReps 4 rB t).k10
 rw [← em3] at a
 refine q 7 rfl (y (Pu na e0 a rO0 R1) (bE c fun n z c=>q 4 rfl ?_))
 refine lpN (List Hdr) (List Hdr) z [0,3,8] (fun (d,f) b=>[(9,iV f)]) (fun (d,f) b=>St w0 mu (row 95 rH m.v b::fam 4 rB b d::rs)) (fun | n,h=>(.exit 0,[],St w0 mu (row 95 rH m.v h::fam 4 rB h n::rs))) rfl _ a rfl ?_ ?_
 ·clear a
  rintro h g w a
  refine q 9 rfl ?_
  cases c
  exact r _ _ _ (X1 results26 ⟨rfl,rfl⟩ ⟨_,_,rfl,a⟩)
 rintro ⟨d,f⟩ b g w D a c
 refine q 6 rfl (cI c (fun A c=>?_) fun A c=>?_)
 ·refine q 14 rfl (bE c fun E B c=>yh (rMk a K3 e0 B) fun o w a=>bE c fun F p c=>?_)
  obtain ⟨G,i⟩:=V5 (u:=o) p (a.famL (mtR (mtR mhR)))
  refine y (yIs na e0 e0 a rO1 i) ?_
  replace a:=a.k10
  refine yt (V1 (cs:=[o.v]) a qa rfl e0 e0 rfl (mkF rfl) i) fun w a=>?_
  replace a:=(a.k1i).fput i p
  refine q 7 rfl ?_
  cases c
  exact ln _ (a.k10)
 ·refine q 2 rfl ?_
  cases c
  exact lx _ a
instance:CL prog 26 (type_of% @Fm):=⟨@Fm⟩
theorem Hn {f h:Int} {y A B:LI} {i d e:Hdr} {out:(List (Int×Int×Int))} (c:m_dr f h y A B=some out) (O:imm I1 i.v y∈mu) (C:imm I1 d.v A∈mu) (D:imm iu e.v B∈mu) (a:St w0 mu rs w):
  Calls prog 63 #[.agg #[iV f,iV h,i.v,d.v,e.v]] w (ro w0 mu rs 58 rTi64i64u64 out):=by
 refine en func63 rfl ntmps63 fun Q I=>?_
 refine z 2 4 ?_;intro p w a
 refine bE c fun E J c=>?_
 replace a:=a.rowNh 58 rTi64i64u64
 refine lpN Hdr Hdr J [1,7] (fun (r,b) m=>[(3,m.v),(8,iV b)]) (fun (r,b) m=>St w0 mu (box p 27 [iV f,iV h,i.v,d.v,e.v]::row 58 rTi64i64u64 m.v r::rs)) (fun | E,s=>(.exit 0,[(3,s.v)],St w0 mu (row 58 rTi64i64u64 s.v E::rs))) rfl _ (a.k10) rfl ?_ ?_
 ·clear a
  rintro s g w a
  refine q 9 rfl ?_
  cases c
  exact I _ _ _ (X1 results63 ⟨rfl,rfl⟩ ⟨_,rfl,a⟩)
 rintro ⟨r,b⟩ m g w R a c
 refine q 6 rfl (cI c (fun K c=>?_) fun K c=>?_)
 ·refine z 3 4 ?_;intro S T c
  refine bE c fun F L c=>?_
  refine lpN Hdr Hdr L [1,4,7,8] (fun (t,u) o=>[(3,o.v),(5,iV u)]) (fun (t,u) o=>St w0 mu (box p 27 [iV f,iV h,i.v,d.v,e.v]::row 58 rTi64i64u64 o.v t::rs)) (fun | F,x=>(.exit 2,[(3,x.v)],St w0 mu (box p 27 [iV f,iV h,i.v,d.v,e.v]::row 58 rTi64i64u64 x.v F::rs))) rfl _ a rfl ?_ ?_
  ·clear a
   rintro x g w a
   refine q 7 rfl ?_
   cases c
   exact ln _ a
  rintro ⟨t,u⟩ o g w U a c
  refine z 3 3 ?_;intro V W c
  refine cI c (fun N c=>?_) fun N c=>?_
  ·refine q 4 rfl (bE c fun j G c=>bE c fun k H c=>bE c fun X Z c=>dS [13,14,15] 3 V0 ?_)
   replace a:=a.drew
   refine D1 8191 0 13 rfl (qR 2 rfl (rQ rfl (lb_ d.v P0 e0 a R0) (qR 1 rfl (rQ rfl (yIa N0 e0 e0 a (rdI C) G) (rQ rfl (yI O_3 e0 a (rdI C) G) (qR 2 rfl (rQ rfl (lb_ e.v T3 e0 a R0) (qR 1 rfl (rQ rfl (yIa E2 e0 e0 a (rdI D) H) (rQ rfl (yI B5 e0 a (rdI D) H) (rQ rfl (D6 (us:=[iV j,iV b,.int .u64 k]) [(0,iV j),(1,iV b),(2,.int .u64 k)] Vi (bp3 e0 e0 e0) rfl) (Rn QSn (LH wn (rLt (n:=1) (l:=[(j,b,k)]) a H5 [.agg #[iV j,iV b,.int .u64 k]] (bp1 e0) rfl rfl (J1 (cs:=[iV j,iV b,.int .u64 k]) rfl (mkF rfl) L1)) ?_)))))))))))))
   refine fun a0 w a=>dU ?_
   refine z 3 7 ?_;intro a1 w a
   cases c
   exact ln _ (a.k2e)
  ·refine q 2 rfl ?_
   cases c
   exact lx _ a
 ·refine q 2 rfl ?_
  cases c
  exact lx _ (a.k12)
instance:CL prog 63 (type_of% @Hn):=⟨@Hn⟩
theorem Cn {b d:Int} {e f g:LI} {h i j:Hdr} {out:(List (Int×Int×Int))} (c:m_ds b d e f g=some out) (l:imm I1 h.v e∈mu) (m:imm I1 i.v f∈mu) (n:imm iu j.v g∈mu) (a:St w0 mu rs w):
  Calls prog 27 #[.agg #[iV b,iV d,h.v,i.v,j.v]] w (ro w0 mu rs 58 rTi64i64u64 out):=by
 refine en func27 rfl ntmps27 fun Q k=>?_
 refine v 0 ?_
 refine fun _ _ _ _ _ _ _ a=>⟨vt,fun _ c=>?_⟩
 cases c
 replace a:=a.rowNh 58 rTi64i64u64
 exact k _ _ _ (X1 results27 ⟨rfl,rfl⟩ ⟨_,rfl,(a.k11)⟩)
instance:CL prog 27 (type_of% @Cn):=⟨@Cn⟩
theorem Bn {k:List BL} {l m:Int} {h:Hdr} {b:List Hdr} {out:(List BL)} (c:m_du k l m=some out) (a:St w0 mu (row 95 rH h.v b::fam 4 rB b k::rs) w):
  Calls prog 28 #[h.v,iV l,iV m] w (fun e w=>e=.returned (.tuple #[])∧St w0 mu (row 95 rH h.v b::fam 4 rB b out::rs) w):=by
 refine en func28 rfl ntmps28 fun Q r=>q 7 rfl ?_
 refine jC (List BL) [] (fun i=>[]) (fun i w=>St w0 mu (row 95 rH h.v b::fam 4 rB b i::rs) w∧m_dt i=some out) rfl ?_ ?_
 ·rintro i g w ⟨a,c⟩
  cases c
  exact r _ _ _ (p9 results28 ⟨rfl,a⟩)
 refine cIn c (fun s c=>?_) fun s c=>?_
 ·exact vx
 ·refine bE c fun y j c=>bE c fun z t c=>bE c fun A n c=>bE c fun B u c=>bE c fun C o c=>bE c fun D p c=>bE c fun E x c=>dS [11,13] 2 V0 ?_
  replace a:=a.drew
  refine D0 2047 0 11 rfl (qR 2 rfl ?_)
  obtain ⟨F,d⟩:=a.famI R1 j
  refine rQ rfl (yIa na e0 e0 a rO0 d) (rQ rfl (yF1 qa e0 a rO0 d rfl) (qR 3 rfl ?_))
  obtain ⟨G,f⟩:=a.famI R1 t
  refine rQ rfl (yIa na e0 e0 a rO0 f) (rQ rfl (yF1 qa e0 a rO0 f rfl) (qR 1 rfl (rQ rfl (yIs K3 e0 e0 a (rdF R1 d j) n) (Rn QSn ?_))))
  replace a:=a.k10
  refine LT wn (V1 (cs:=[.bool true]) (a.foc d j) O_4 rfl e0 rfl rfl mkB n) fun w a=>?_
  replace a:=a.unfoc' d u
  refine D0 4096 512 13 rfl (rQ rfl (yIs K3 e0 e0 a (rdF R0 f o) p) (Rn (qS rfl QSn) (LT wn (V1 (cs:=[.bool true]) (a.foc f o) O_4 rfl e0 rfl rfl mkB p) fun w a=>?_)))
  replace a:=a.unfoc' f x
  exact vx
instance:CL prog 28 (type_of% @Bn):=⟨@Bn⟩
theorem Zd {h:List BL} {i:Int} {j:Hdr} {out:LI} (c:m_dx h i=some out) (l:imm SB j.v h∈mu) (a:St w0 mu rs w):
  Calls prog 64 #[j.v,iV i] w (ro w0 mu rs 3 I1 out):=by
 refine en func64 rfl ntmps64 fun Q r=>?_
 refine z 1 0 ?_;intro m n c
 obtain ⟨o,a⟩:=iLs a l n
 refine y (yCt qa e0 a F1 rfl) ?_
 refine z 1 4 ?_
 refine bE c fun k p c=>?_
 replace a:=a.rowNh 3 I1
 refine lpN Hdr Hdr p [11,12] (fun (d,e) b=>[(5,b.v),(13,iV e)]) (fun (d,e) b=>St w0 (imm rB o.v m::mu) (row 3 I1 b.v d::rs)) (fun | k,f=>(.exit 0,[(5,f.v)],St w0 mu (row 3 I1 f.v k::rs))) rfl _ (a.facts (U0 F0 (M0 (M0 M1)))) rfl ?_ ?_
 ·clear a
  rintro f g w a
  exact vx
 rintro ⟨d,e⟩ b g w s a c
 refine v 0 ?_
 refine ⟨fun _ _ _ q c=>?_,vt⟩
 exact y (yB O_4 e0 a (rdI F0) q) vx
instance:CL prog 64 (type_of% @Zd):=⟨@Zd⟩
theorem zn {h:List BL} {i:Hdr} {out:L2} (c:m_dz h=some out) (t:imm SB i.v h∈mu) (a:St w0 mu rs w):
  Calls prog 29 #[i.v] w (fun e w=>∃ (j:Hdr),e=.returned (.agg #[j.v])∧St w0 mu (row 24 S1 j.v out::rs) w):=by
 refine en func29 rfl ntmps29 fun Q u=>?_
 refine z 2 0 ?_;intro k w a
 refine bE c fun x o c=>yh (rMk a Q4 e0 o) fun b w a=>?_
 refine z 4 4 ?_;intro l w a w a
 refine bE c fun m p c=>?_
 refine lp p [0,2,3,10] (fun (d,f)=>[(11,iV f)]) (fun (d,f)=>St w0 mu (box k 32 [hnil.v]::row 24 S1 b.v d::box l 32 [b.v]::rs)) (fun | m=>(.exit 0,[],St w0 mu (box k 32 [hnil.v]::row 24 S1 b.v m::box l 32 [b.v]::rs))) rfl (a.k18) rfl ?_ ?_
 ·clear a
  intro g w a
  exact vx
 rintro ⟨d,f⟩ g w y a c
 refine q 6 rfl (cI c (fun r c=>?_) fun r c=>?_)
 ·refine q 10 rfl (bE c fun A B c=>bE c fun C n c=>dS [5,7] 2 V0 ?_)
  replace a:=a.drew
  refine z 2 0 ?_;intro s w a
  refine dU (D0 64 7 7 rfl (rQ rfl (yIs Q4 e0 e0 a rO2 n) (Rn (qS rfl (sY rfl (lb_ b.v M4 e0 a R3) (qS rfl QSn))) ?_)))
  replace a:=a.fz.k10
  exact LT wn (V1 (cs:=[s.v]) a P0 rfl e0 e0 rfl (mkS F0) n) fun w a=>vx
 ·exact vx
instance:CL prog 29 (type_of% @zn):=⟨@zn⟩
theorem Yd {h i:Int} {j k l:LI} {m n o:Hdr} {out:L2×Int} (c:m_d1 h i j k l=some out) (C:imm I1 m.v j∈mu) (D:imm I1 n.v k∈mu) (E:imm iu o.v l∈mu) (a:St w0 mu rs w):
  Calls prog 7 #[.agg #[iV h,iV i,m.v,n.v,o.v]] w (fun e w=>∃ (p:Hdr),e=.returned (.tuple #[.agg #[p.v],iV out.2])∧St w0 mu (row 24 S1 p.v out.1::rs) w):=by
 refine en func7 rfl ntmps7 fun Q r=>?_
 refine v 0 ?_
 refine fun _ _ _ s _ _ _ _ _ w a=>⟨fun _ _=>⟨fun _ _ _ _ _ t b _ _ x _ c z w a=>?_,fun _ c _ a=>?_⟩,fun _ c _ a=>?_⟩
 ·refine bE c fun u A c=>?_
  refine lp A [2,5,26,27] (fun (d,f)=>[(28,iV f)]) (fun (d,f)=>St w0 mu (box s 32 [hnil.v]::row 95 rH t.v b::fam 4 rB b d::row 58 rTi64i64u64 z.v x::rs)) (fun | u=>(.exit 1,[],St w0 mu (box s 32 [hnil.v]::row 95 rH t.v b::fam 4 rB b u::rs))) rfl (a.k3y) rfl ?_ ?_
  ·clear a
   intro g w a
   refine bE c fun F G c=>q 5 rfl ?_
   replace a:=(a.k1i).ffz
   exact vx
  rintro ⟨d,f⟩ g w H a c
  refine v 0 ?_
  refine ⟨fun _ _ I B c=>?_,vt⟩
  exact y (yFn j7 e0 a rO3 B rfl) vx
 ·exact Uq
 ·exact Uq
instance:CL prog 7 (type_of% @Yd):=⟨@Yd⟩
theorem xn {e:LI} {f:Int} {h:Hdr} {out:Bool} (c:m_d3 e f=some out) (k:imm I1 h.v e∈mu) (a:St w0 mu rs w):
  Calls prog 65 #[h.v,iV f] w (rv w0 mu rs (.bool out)):=by
 refine en func65 rfl ntmps65 fun Q l=>?_
 refine z 1 4 ?_
 refine bE c fun i j c=>?_
 refine lp j [1,8,9] (fun (b,d)=>[(5,iV b),(10,iV d)]) (fun (b,d)=>St w0 mu rs) (fun | .inl ()=>(.exit 0,[],St w0 mu rs) | .inr ()=>(.ret,[(4,.bool false)],St w0 mu rs)) rfl a rfl ?_ ?_
 ·clear a
  intro g w a
  rcases i with ⟨⟩ | ⟨⟩
  ·exact vx
  ·exact vx
 rintro ⟨b,d⟩ g w m a c
 exact vx
instance:CL prog 65 (type_of% @xn):=⟨@xn⟩
theorem vn {b:Int} {out:Bool} (c:m_d4 b=some out) (a:St w0 mu rs w):
  Calls prog 162 #[iV b] w (rv w0 mu rs (.bool out)):=by
 exact en func162 rfl ntmps162 fun Q d=>vx
instance:CL prog 162 (type_of% @vn):=⟨@vn⟩
theorem Tq {p:Prop}(h:p:=by
  refine kO (Qb p F0 a) fun d w a=>dU (D0 64 1 8 rfl (rQ rfl (D6 (us:=[b.v,d.v,hnil.v]) [(0,.agg #[b.v]),(1,d.v)] Hf (bp2 e0 e0) rfl) (Rn (sY rfl (A1 [b.v] Z3 e0 a R3) QSn) ?_)))
  replace a:=a.k10
  exact LT wn (w5 (ru:=[b.v,d.v,hnil.v]) (us:=[b.v,d.v,hnil.v]) a Eb e0 e0 rfl rfl (A5 rfl) rfl) fun w a=>Dw 0 0 (Rn QSn (jr (_,_) ((a.k2f).fc)))):p:=h
theorem sn {e:LI} {f:Int} {h:Hdr} {out:Int×Bool} (c:m_d7 e f=some out) (k:imm I1 h.v e∈mu) (a:St w0 mu rs w):
  Calls prog 117 #[h.v,iV f] w (rv w0 mu rs (.tuple #[iV out.1,.bool out.2])):=by
 refine en func117 rfl ntmps117 fun Q l=>?_
 refine z 1 12 ?_
 refine bE c fun i j c=>?_
 refine lp j [0,1,6] (fun (b,d)=>[(7,iV b),(8,iV d)]) (fun (b,d)=>St w0 mu rs) (fun | i=>(.exit 0,[(7,iV i)],St w0 mu rs)) rfl a rfl ?_ ?_
 ·clear a
  intro g w a
  exact vx
 rintro ⟨b,d⟩ g w m a c
 exact vx
instance:CL prog 117 (type_of% @sn):=⟨@sn⟩
theorem rn {b:L2} {d e:Int} {f:Hdr} {out:Bool} (c:m_d8 b d e=some out) (g:imm S1 f.v b∈mu) (a:St w0 mu rs w):
  Calls prog 66 #[.agg #[f.v],iV d,iV e] w (rv w0 mu rs (.bool out)):=by
 refine en func66 rfl ntmps66 fun Q i=>?_
 refine z 3 0 ?_;intro j w a k h c
 obtain ⟨l,a⟩:=iLs a g h
 exact vx
instance:CL prog 66 (type_of% @rn):=⟨@rn⟩
theorem xm {i:L2} {b:Hdr} {out:Int} (c:m_ec i=some out) (j:imm S1 b.v i∈mu) (a:St w0 mu rs w):
  Calls prog 30 #[.agg #[b.v]] w (rv w0 mu rs (iV out)):=by
 refine en func30 rfl ntmps30 fun Q u=>?_
 refine v 0 ?_
 refine fun d w a=>⟨vt,fun _ c=>?_⟩
 refine bE c fun k l c=>?_
 refine lp l [1,3,16,17] (fun e=>[(18,iV e)]) (fun e=>St w0 mu (box d 32 [b.v]::rs)) (fun | .inl ()=>(.exit 0,[],St w0 mu (box d 32 [b.v]::rs)) | .inr ()=>(.ret,[(2,iV 1)],St w0 mu rs)) rfl a rfl ?_ ?_
 ·clear a
  intro g w a
  rcases k with ⟨⟩ | ⟨⟩
  ·refine z 2 4 ?_
   refine bE c fun m n c=>?_
   refine lp n [1,35,36] (fun f=>[(37,iV f)]) (fun f=>St w0 mu (box d 32 [b.v]::rs)) (fun | .inl ()=>(.exit 2,[],St w0 mu rs) | .inr ()=>(.ret,[(2,iV 1)],St w0 mu rs)) rfl a rfl ?_ ?_
   ·clear a
    intro g w a
    rcases m with ⟨⟩ | ⟨⟩
    ·exact vx
    ·exact vx
   rintro f g w x a c
   refine v 0 ?_
   refine ⟨fun _ _ o p c=>?_,vt⟩
   obtain ⟨q,a⟩:=iLs a j p
   refine y (yCt P0 e0 a F1 rfl) ?_
   refine z 1 4 ?_
   refine bE c fun r s c=>?_
   refine lp s [1,6,35,36,37,42,43] (fun h=>[(44,iV h)]) (fun h=>St w0 (imm I1 q.v o::mu) (box d 32 [b.v]::rs)) (fun | .inl ()=>(.exit 4,[],St w0 mu (box d 32 [b.v]::rs)) | .inr ()=>(.ret,[(2,iV 1)],St w0 mu rs)) rfl (a.facts (U0 F0 (M0 (M0 M1)))) rfl ?_ ?_
   ·clear a
    intro g w a
    rcases r with ⟨⟩ | ⟨⟩
    ·exact vx
    ·exact vx
   rintro h g w A a c
   exact vx
  ·exact vx
 rintro e g w B a c
 refine v 0 ?_
 refine ⟨fun _ _ _ t c=>?_,vt⟩
 obtain ⟨C,a⟩:=iLs a j t
 exact vx
instance:CL prog 30 (type_of% @xm):=⟨@xm⟩
theorem vm {b d:Int} {out:Int×Int} (c:m_ed b d=some out) (a:St w0 mu rs w):
  Calls prog 201 #[.int .u64 b,.int .u64 d] w (rv w0 mu rs (.tuple #[.int .u64 out.1,.int .u64 out.2])):=by
 exact en func201 rfl ntmps201 fun Q e=>vx
instance:CL prog 201 (type_of% @vm):=⟨@vm⟩
theorem um {b d:Int} {out:Int×Int} (c:m_ee b d=some out) (a:St w0 mu rs w):
  Calls prog 169 #[.int .u64 b,.int .u64 d] w (rv w0 mu rs (.tuple #[.int .u64 out.1,.int .u64 out.2])):=by
 exact en func169 rfl ntmps169 fun Q e=>vx
instance:CL prog 169 (type_of% @um):=⟨@um⟩
theorem Qb {b:LI} {e:Int} {j:Hdr} {out:LI} (c:m_ei b e=some out) (o:imm I1 j.v b∈mu) (a:St w0 mu rs w):
  Calls prog 122 #[j.v,iV e] w (ro w0 mu rs 3 I1 out):=by
 refine en func122 rfl ntmps122 fun Q p=>q 12 rfl ?_
 refine jC Unit [0,1] (fun _=>[]) (fun _ w=>St w0 mu rs w∧m_eh b e=some out) rfl ?_ ?_
 ·rintro _ g w ⟨a,c⟩
  refine z 2 13 ?_;intro f D c w a
  refine jW 3 [0,6] [(26,.bool ((decide ((0:Int) < f.1)) || (decide ((9223372036854775807:Int) < f.2))))] (St w0 mu rs) rfl (fun k=>?_) ?_
  ·refine gB 23 rfl (fun h=>?_) fun h=>?_
   ·exact q 3 rfl (k _ _ a (Z0 (S0 Value.bool (orT h)) rfl))
   ·exact q 3 rfl (k _ _ a (Z0 (S0 Value.bool (orF h)) rfl))
  intro g w a
  refine q 2 rfl ?_
  refine jC Unit [0,6] (fun _=>[]) (fun _ w=>St w0 mu rs w∧m_eg f b=some out) rfl ?_ ?_
  ·rintro _ g w ⟨a,c⟩
   refine bE c fun E r c=>q 5 rfl (yh (rMk a N0 e0 r) fun l w a=>bE c fun F s c=>q 7 rfl (YV wn rfl (rCp a N0 rfl e0 (.inr ⟨rfl,rfl,rfl⟩) e0 (rdI o) s) fun w a=>nf (bE c fun m t c=>q 5 rfl ?_)))
   refine lp t [7] (fun (i,d)=>[(8,iV d)]) (fun (i,d)=>St w0 mu (row 3 I1 l.v i::rs)) (fun | m=>(.exit 0,[],St w0 mu (row 3 I1 l.v m::rs))) rfl a rfl ?_ ?_
   ·clear a
    intro g w a
    refine q 9 rfl ?_
    cases c
    exact p _ _ _ (X1 results122 ⟨rfl,rfl⟩ ⟨_,rfl,a⟩)
   rintro ⟨i,d⟩ g w G a c
   refine z 1 3 ?_
   refine cI c (fun u c=>?_) fun u c=>?_
   ·refine q 3 rfl (bE c fun H x c=>bE c fun I n c=>bE c fun y A c=>dS [7,9] 2 V0 ?_)
    replace a:=a.drew
    refine D1 127 0 7 rfl (qR 3 rfl (rQ rfl (ySl (k2:=.i64) N0 e0 a rO0 (.inl (S0 some e0)) (.inr ⟨rfl,rfl⟩) x) (qR 2 rfl (rQ rfl (ySl (k1:=.i64) N0 e0 a rO0 (.inr ⟨rfl,rfl⟩) (.inl (S0 some e0)) n) (Rn QSn (LV wn (rCp a N0 rfl e0 (.inl rfl) e0 (fy rO0 n) A) fun w a=>dU (D1 256 1 9 rfl (qR 1 rfl (Rn (qS rfl QSn) (Ly wn (a_ (iV (wa .i64 d y.2)) e0) (dU ?_)))))))))))
    refine z 1 1 ?_
    cases c
    exact lo a
   ·refine q 2 rfl ?_
    cases c
    exact xo a
  refine cJ c (fun B c=>?_) fun B c=>?_
  ·cases c
  ·exact q 1 rfl (jx () ⟨a,c⟩)
 refine cI c (fun C c=>?_) fun C c=>?_
 ·cases c
 ·exact q 1 rfl (jx () ⟨a,c⟩)
instance:CL prog 122 (type_of% @Qb):=⟨@Qb⟩
theorem Wg {t:L2} {b:Hdr} {out:L2×LI×L2} (c:m_ek t=some out) (h:imm S1 b.v t∈mu) (a:St w0 mu rs w):
  Calls prog 68 #[.agg #[b.v]] w (fun e w=>∃ (u x z:Hdr),e=.returned (.agg #[u.v,x.v,z.v])∧St w0 (imm S1 u.v out.1::mu) (row 3 I1 x.v out.2.1::row 24 S1 z.v out.2.2::rs) w):=by
 refine en func68 rfl ntmps68 fun Q E=>q 2 rfl (yb (W5 (vals:=[b.v]) a e0 rfl) fun F w a=>yb (rAl a Gc) fun m w a=>bE c fun o p c=>q 3 rfl ?_)
 refine jN (Nat×Hdr) [1,2] (fun (j,f)=>[(3,(pB j))]) (fun (j,f)=>St w0 mu (box F 32 [b.v]::box m 121 [hnil.v,hnil.v,hnil.v]::row 3 I1 f.v o::box j 121 [b.v,f.v,hnil.v]::rs)) rfl ?_ ?_
 ·refine dS [1,5,7,8] 4 V0 ?_
  replace a:=a.drew
  refine Dm 29 0 [1,7] (rQ rfl (A1 [b.v] Z3 e0 a R1) (qR 1 rfl (rQ rfl (lb_ b.v M4 e0 a R1) (rQ rfl (T1 Q4 e0 a (rdI h)) (Rn QSn ?_)))))
  refine La1 rfl ?_ (La1 rfl ?_ LAn)
  ·refine LH wn (rLt (n:=1) (l:=[1]) a N0 [iV 1] (bp1 rfl) rfl rfl (J1 (cs:=[iV 1]) rfl mkI L1)) fun G w a=>dU (Dm 0 29 [5,7] (Rn (sY rfl (A1 [b.v] Z3 e0 a R2) (qS rfl (sY rfl (lb_ b.v M4 e0 a R2) (sY rfl (T1 Q4 e0 a (rdI h)) QSn)))) ?_))
   refine La1 rfl ?_ (La1 rfl ?_ LAn)
   ·replace a:=a.fz
    exact kO (Qb p F0 a) fun d w a=>dU (D1 64 1 7 rfl (rQ rfl (D6 (us:=[b.v,d.v,hnil.v]) [(0,.agg #[b.v]),(1,d.v)] Hf (bp2 e0 e0) rfl) (Rn (sY rfl (A1 [b.v] Z3 e0 a R2) QSn) (LB wn (rAl a Gc) fun A w a=>dU (D0 0 65 8 rfl (Rn (sY rfl (A1 [b.v] Z3 e0 a R3) (sY rfl (D6 (us:=[b.v,d.v,hnil.v]) [(0,.agg #[b.v]),(1,d.v)] Hf (bp2 e0 e0) rfl) QSn)) (LT wn (w5 (ru:=[b.v,d.v,hnil.v]) (us:=[b.v,d.v,hnil.v]) a Eb e0 e0 rfl rfl (A5 rfl) rfl) fun w a=>Dw 0 0 (Rn QSn (jr (_,_) ((a.k2f).fc))))))))))
   ·refine LB wn (rAl a Gc) fun A w a=>dU (D1 0 29 5 rfl (Rn (sY rfl (A1 [b.v] Z3 e0 a R3) (qS rfl (sY rfl (lb_ b.v M4 e0 a R3) (sY rfl (T1 Q4 e0 a (rdI h)) QSn)))) ?_))
    replace a:=(a.k10).fz
    exact Tq
  ·refine LB wn (rAl a Gc) fun A w a=>dU (D1 0 29 1 rfl (Rn (sY rfl (A1 [b.v] Z3 e0 a R2) (qS rfl (sY rfl (lb_ b.v M4 e0 a R2) (sY rfl (T1 Q4 e0 a (rdI h)) QSn)))) (LH wn (rLt (n:=1) (l:=[1]) a N0 [iV 1] (bp1 rfl) rfl rfl (J1 (cs:=[iV 1]) rfl mkI L1)) fun G w a=>dU (D1 0 29 5 rfl (Rn (sY rfl (A1 [b.v] Z3 e0 a R3) (qS rfl (sY rfl (lb_ b.v M4 e0 a R3) (sY rfl (T1 Q4 e0 a (rdI h)) QSn)))) ?_)))))
   replace a:=a.fz
   exact Tq
 rintro ⟨j,f⟩ g w a
 refine q 5 rfl (y (lb_ b.v M4 e0 a R0) (y (T1 Q4 e0 a (rdI h)) (bE c fun B H c=>q 4 rfl ?_)))
 replace a:=a.rowNh 24 S1
 refine lpN Hdr Hdr H [2,3,14,15] (fun (r,s) i=>[(16,iV s)]) (fun (r,s) i=>St w0 mu (box m 121 [hnil.v,hnil.v,hnil.v]::row 3 I1 f.v o::row 24 S1 i.v r::box j 121 [b.v,f.v,i.v]::rs)) (fun | B,k=>(.exit 0,[],St w0 mu (box m 121 [hnil.v,hnil.v,hnil.v]::row 3 I1 f.v o::row 24 S1 k.v B::box j 121 [b.v,f.v,k.v]::rs))) rfl _ (a.k33) rfl ?_ ?_
 ·clear a
  rintro k g w a
  refine q 4 rfl (y (A1 [b.v,f.v,k.v] Eb e0 a R3) (sB rfl a Eb fun w a=>q 3 rfl ?_))
  cases c
  exact E _ _ _ (X1 results68 (V2 rfl rfl a R0 Eb rfl) ⟨_,_,_,rfl,((a.k41).facts (U0 h M1))⟩)
 rintro ⟨r,s⟩ i g w O a c
 refine q 6 rfl (cI c (fun I c=>?_) fun I c=>?_)
 ·refine q 6 rfl (bE c fun R C c=>y (yIa Q4 e0 e0 a (rdI h) C) ?_)
  obtain ⟨S,a⟩:=iLs a h C
  refine y (yCt P0 e0 a F1 rfl) (bE c fun J K c=>bE c fun T L c=>q 3 rfl (dS [2,5,6,7,9] 5 V0 ?_))
  replace a:=a.drew
  refine D1 27 0 2 rfl (qR 1 rfl (rQ rfl (lb_ i.v M4 e0 a R3) (qR 1 rfl (rQ rfl (T1 N0 e0 a (rdI F0)) (Rn QSn (LH wn (rLt (n:=1) (l:=[1]) a N0 [iV 1] (bp1 rfl) rfl rfl (J1 (cs:=[iV 1]) rfl mkI L1)) fun U w a=>dU (D1 0 27 5 rfl (Rn (qS rfl (sY rfl (lb_ i.v M4 e0 a R4) (qS rfl (sY rfl (T1 N0 e0 a (rdI F0)) QSn)))) ?_))))))))
  replace a:=a.fz
  refine kO (Qb K F0 a) fun D w a=>dU (D1 0 3 6 rfl (Rn (qS rfl (sY rfl (lb_ i.v M4 e0 a R4) QSn)) ?_))
  replace a:=a.fz
  refine LH wn (rLt (n:=1) (l:=[J]) a Q4 [D.v] (bp1 e0) rfl rfl (J1 (cs:=[D.v]) rfl (mkS F0) L1)) fun V w a=>dU (D1 0 3 7 rfl (Rn (qS rfl (sY rfl (lb_ i.v M4 e0 a R4) QSn)) ?_))
  replace a:=a.k1d
  refine LH wn (rAp a Q4 e0 e0 rO1 L) fun N w a=>dU (D0 256 0 9 rfl (qR 1 rfl (Rn QSn ?_)))
  replace a:=a.k1o
  refine LT wn (Yb (ru:=[b.v,f.v,N.v]) a M4 e0 e0 rfl rfl rfl rfl) fun w a=>Dw 0 0 (Rn QSn (qx 6 rfl ?_))
  cases c
  exact ln _ ((a.k42).fc)
 ·refine q 2 rfl ?_
  cases c
  exact lx _ a
instance:CL prog 68 (type_of% @Wg):=⟨@Wg⟩
theorem sm {e:LI} {f:Hdr} {out:Int} (c:m_em e=some out) (j:imm I1 f.v e∈mu) (a:St w0 mu rs w):
  Calls prog 163 #[f.v] w (rv w0 mu rs (iV out)):=by
 refine en func163 rfl ntmps163 fun Q k=>?_
 refine z 1 4 ?_
 refine bE c fun h i c=>?_
 refine lp i [6,7] (fun (b,d)=>[(3,iV b),(8,iV d)]) (fun (b,d)=>St w0 mu rs) (fun | h=>(.exit 0,[(3,iV h)],St w0 mu rs)) rfl a rfl ?_ ?_
 ·clear a
  intro g w a
  exact vx
 rintro ⟨b,d⟩ g w l a c
 exact vx
instance:CL prog 163 (type_of% @sm):=⟨@sm⟩
theorem rm {K:L2} {i:Int} {d:Hdr} {out:L2} (c:m_er K i=some out) (X:imm S1 d.v K∈mu) (a:St w0 mu rs w):
  Calls prog 196 #[.agg #[d.v],iV i] w (ro w0 mu rs 24 S1 out):=by
 refine en func196 rfl ntmps196 fun Q Z=>?_
 refine z 3 0 ?_;intro f w a
 refine bE c fun b2 a0 c=>yh (rMk a K3 e0 a0) fun h w a=>bE c fun b3 L c=>q 7 rfl (y (yIs K3 e0 e0 a rO0 L) (yt (V1 (cs:=[.bool true]) a O_4 rfl e0 rfl rfl mkB L) fun w a=>q 11 rfl (yh (rLt (n:=1) (l:=[i]) a N0 [iV i] (bp1 e0) rfl rfl (J1 (cs:=[iV i]) rfl mkI L1)) fun b5 w a=>bE c fun N a1 c=>q 4 rfl ?_)))
 replace a:=a.rowNh 24 S1
 refine lpN (Hdr×Hdr) Hdr a1 [2,5] (fun (x,A,e) (m,b)=>[(6,m.v),(7,b.v)]) (fun (x,A,e) (m,b)=>St w0 mu (box f 32 [d.v]::row 4 rB h.v x::row 24 S1 m.v A::row 3 I1 b.v e::rs)) (fun | N,B=>(.exit 0,[(6,B.v)],St w0 mu (row 24 S1 B.v N::rs))) rfl (_,_) (a.k3v) rfl ?_ ?_
 ·clear a
  rintro B g w a
  refine q 9 rfl ?_
  cases c
  exact Z _ _ _ (X1 results196 ⟨rfl,rfl⟩ ⟨_,rfl,a⟩)
 rintro ⟨x,A,e⟩ ⟨m,b⟩ g w b6 a c
 refine z 1 3 ?_
 refine cI c (fun a2 c=>?_) fun a2 c=>?_
 ·refine q 7 rfl ?_
  replace a:=(a.k1d).fz
  refine yh (rLt (n:=1) (l:=[e]) a Q4 [b.v] (bp1 e0) rfl rfl (J1 (cs:=[b.v]) rfl (mkS F0) L1)) fun b7 w a=>?_
  refine z 2 4 ?_;intro j b8 c k w a
  obtain ⟨⟨O,R⟩,a3,c⟩:=bs c
  replace a:=a.rowNh 3 I1
  refine lpN Hdr Hdr a3 [2,5,6,29,30] (fun (C,D,E) o=>[(8,o.v),(31,iV E)]) (fun (C,D,E) o=>St w0 (imm I1 b.v e::mu) (box f 32 [d.v]::row 4 rB h.v C::row 24 S1 k.v j::row 3 I1 o.v D::rs)) (fun | (O,R),F=>(.exit 2,[(8,F.v)],St w0 mu (box f 32 [d.v]::row 4 rB h.v O::row 24 S1 k.v j::row 3 I1 F.v R::rs))) rfl _ (a.k42) rfl ?_ ?_
  ·clear a
   rintro F g w a
   refine bE c fun b9 a4 c=>q 5 rfl ?_
   replace a:=a.k1d
   refine cZ (nh a4 a) fun w a=>q 7 rfl ?_
   cases c
   exact ln (_,_) (a.k1n)
  rintro ⟨C,D,E⟩ o g w c0 a c
  refine q 6 rfl (cI c (fun a5 c=>?_) fun a5 c=>?_)
  ·refine z 4 0 ?_;intro c1 c2 c S a6 c
   obtain ⟨T,a⟩:=iLs a (mtF X) a6
   refine y (yCt P0 e0 a F1 rfl) ?_
   refine z 1 4 ?_
   obtain ⟨⟨U,V⟩,a7,c⟩:=bs c
   refine lpN Hdr Hdr a7 [2,5,6,29,30,31,39,40] (fun (G,H,p) r=>[(8,r.v),(41,iV p)]) (fun (G,H,p) r=>St w0 (imm I1 b.v e::imm I1 T.v S::mu) (box f 32 [d.v]::row 4 rB h.v G::row 24 S1 k.v j::row 3 I1 r.v H::rs)) (fun | (U,V),I=>(.exit 4,[(8,I.v)],St w0 (imm I1 b.v e::mu) (box f 32 [d.v]::row 4 rB h.v U::row 24 S1 k.v j::row 3 I1 I.v V::rs))) rfl _ (a.facts (U0 F2 (U0 F0 (M0 (M0 (M0 M1)))))) rfl ?_ ?_
   ·clear a
    rintro I g w a
    refine q 7 rfl ?_
    cases c
    exact ln _ a
   rintro ⟨G,H,p⟩ r g w a8 a c
   refine q 6 rfl (cI c (fun a9 c=>?_) fun a9 c=>?_)
   ·refine z 3 0 ?_;intro J c3 c c4 b0 c
    refine y (yB O_4 e0 a rO1 b0) (q 3 rfl ?_)
    refine jC (BL×LI×Hdr) [2,5,6,29,30,31,39,40,41] (fun (s,t,u)=>[(8,u.v)]) (fun (s,t,u) w=>St w0 (imm I1 b.v e::imm I1 T.v S::mu) (box f 32 [d.v]::row 4 rB h.v s::row 24 S1 k.v j::row 3 I1 u.v t::rs) w∧m_en p s t=some a8) rfl ?_ ?_
    ·rintro ⟨s,t,u⟩ g w ⟨a,c⟩
     refine q 6 rfl ?_
     cases c
     exact ln _ a
    refine cJn c (fun b1 c=>?_) fun b1 c=>?_
    ·exact q 1 rfl (jx (_,_,_) ⟨a,c⟩)
    ·refine q 4 rfl (bE c fun c5 W c=>y (yIs K3 e0 e0 a rO1 W) ?_)
     replace a:=a.k10
     refine yt (V1 (cs:=[.bool true]) a O_4 rfl e0 rfl rfl mkB W) fun w a=>q 5 rfl (yh (rLt (n:=1) (l:=[J]) a N0 [iV J] (bp1 e0) rfl rfl (J1 (cs:=[iV J]) rfl mkI L1)) fun c6 w a=>?_)
     refine z 1 2 ?_;intro c7 c8 c c9 w a
     exact jx (_,_,_) ⟨(a.k43),c⟩
   ·refine q 2 rfl ?_
    cases c
    exact lx _ (a.facts (U0 F0 (M0 (M0 M1))))
  ·refine q 2 rfl ?_
   cases c
   exact lx _ (a.fc)
 ·refine q 2 rfl ?_
  cases c
  exact lx _ (a.k44)
instance:CL prog 196 (type_of% @rm):=⟨@rm⟩
theorem qm {e:Int} {out:LI} (c:m_eu e=some out) (a:St w0 mu rs w):
  Calls prog 198 #[hnil.v,iV e] w (ro w0 mu rs 3 I1 out):=by
 refine en func198 rfl ntmps198 fun Q h=>q 12 rfl ?_
 refine jC Unit [0,1] (fun _=>[]) (fun _ w=>St w0 mu rs w∧m_et e=some out) rfl ?_ ?_
 ·rintro _ g w ⟨a,c⟩
  refine q 6 rfl (y (Yj (by kernel_rfl:prog.underlying 24=some (.slice 3)) e0) ?_)
  refine z 1 11 ?_
  refine jC (LI×Hdr) [] (fun (b,d)=>[(0,d.v)]) (fun (b,d) w=>St w0 mu (row 3 I1 d.v b::rs) w∧m_es b=some out) rfl ?_ ?_
  ·rintro ⟨b,d⟩ g w ⟨a,c⟩
   refine q 8 rfl ?_
   cases c
   exact h _ _ _ (X1 results198 ⟨rfl,rfl⟩ ⟨_,rfl,a⟩)
  refine cI c (fun i c=>?_) fun i c=>?_
  ·refine q 3 rfl (y (Yj (by kernel_rfl:prog.underlying 24=some (.slice 3)) e0) (y (ySlN N0 e0 e0) (bE c fun l j c=>q 1 rfl (yh (rZn a N0 (by kernel_rfl:prog.underlying 3=some (.int .i64)) e0 e0 j) fun m w a=>?_))))
   refine z 1 0 ?_
   refine bE c fun n f c=>y (ySl (k1:=.i64) (hi:=(0:Int)) N0 e0 a rO0 (.inr ⟨rfl,rfl⟩) (.inl (S0 some e0)) f) ?_
   obtain ⟨o,eh12,a⟩:=a.resl f
   rw [← eh12]
   exact q 2 rfl (jx (_,_) ⟨a,c⟩)
  ·refine q 1 rfl ?_
   replace a:=a.rowNh 3 I1
   exact jx (_,_) ⟨a,c⟩
 refine cI c (fun k c=>?_) fun k c=>?_
 ·cases c
 ·exact q 1 rfl (jx () ⟨a,c⟩)
instance:CL prog 198 (type_of% @qm):=⟨@qm⟩
theorem om {j:L2} {k:Hdr} {out:LI} (c:m_ey j=some out) (l:imm S1 k.v j∈mu) (a:St w0 mu rs w):
  Calls prog 165 #[k.v] w (ro w0 mu rs 3 I1 out):=by
 refine en func165 rfl ntmps165 fun Q s=>?_
 refine z 1 4 ?_
 refine bE c fun m o c=>?_
 refine lp o [0,9,10] (fun (d,e)=>[(3,iV d),(11,iV e)]) (fun (d,e)=>St w0 mu rs) (fun | m=>(.exit 0,[(3,iV m)],St w0 mu rs)) rfl a rfl ?_ ?_
 ·clear a
  intro g w a
  refine z 2 4 ?_;intro t u c x w a
  refine bE c fun n p c=>?_
  refine lpN Hdr Hdr p [25,26] (fun (f,h) b=>[(6,b.v),(27,iV h)]) (fun (f,h) b=>St w0 mu (row 3 I1 b.v f::rs)) (fun | n,i=>(.exit 2,[(6,i.v)],St w0 mu (row 3 I1 i.v n::rs))) rfl _ a rfl ?_ ?_
  ·clear a
   rintro i g w a
   exact vx
  rintro ⟨f,h⟩ b g w y a c
  refine v 0 ?_
  refine ⟨fun _ _ _ q c=>?_,vt⟩
  obtain ⟨A,a⟩:=iLs a l q
  exact vx
 rintro ⟨d,e⟩ g w B a c
 refine v 0 ?_
 refine ⟨fun _ _ C r c=>?_,vt⟩
 obtain ⟨D,a⟩:=iLs a l r
 refine v 0 ?_
 refine ⟨fun _ c=>?_,vt⟩
 cases c
instance:CL prog 165 (type_of% @om):=⟨@om⟩
theorem nm {x:L2} {b:Hdr} {out:L2} (c:m_e2 x=some out) (R:imm S1 b.v x∈mu) (a:St w0 mu rs w):
  Calls prog 164 #[.agg #[b.v]] w (ro w0 mu rs 24 S1 out):=by
 refine en func164 rfl ntmps164 fun Q A=>?_
 refine z 3 3 ?_;intro f w a S T c w a
 refine cIn c (fun E c=>?_) fun E c=>?_
 ·refine z 2 0 ?_
  refine bE c fun U F c=>yh (rMk a K3 e0 F) fun h w a=>?_
  refine z 2 4 ?_
  refine bE c fun B G c=>?_
  replace a:=a.rowNh 24 S1
  refine lpN Hdr Hdr G [1,3,18] (fun (p,e,i) d=>[(4,d.v),(19,iV i)]) (fun (p,e,i) d=>St w0 mu (box f 32 [b.v]::row 4 rB h.v p::row 24 S1 d.v e::rs)) (fun | B,r=>(.exit 0,[(4,r.v)],St w0 mu (row 24 S1 r.v B::rs))) rfl _ (a.k18) rfl ?_ ?_
  ·clear a
   rintro r g w a
   refine q 9 rfl ?_
   cases c
   exact A _ _ _ (X1 results164 ⟨rfl,rfl⟩ ⟨_,rfl,a⟩)
  rintro ⟨p,e,i⟩ d g w H a c
  refine q 6 rfl (cI c (fun I c=>?_) fun I c=>?_)
  ·refine q 3 rfl ?_
   refine jC (BL×L2×Hdr) [1,3,18,19] (fun (j,k,m)=>[(4,m.v)]) (fun (j,k,m) w=>St w0 mu (box f 32 [b.v]::row 4 rB h.v j::row 24 S1 m.v k::rs) w∧m_ez i j k=some H) rfl ?_ ?_
   ·rintro ⟨j,k,m⟩ g w ⟨a,c⟩
    refine q 5 rfl ?_
    cases c
    exact ln _ a
   refine z 1 0 ?_;intro V J c
   refine y (yB O_4 e0 a rO1 J) (q 2 rfl ?_)
   refine cJ c (fun K c=>?_) fun K c=>?_
   ·exact q 3 rfl (jx (_,_,_) ⟨a,c⟩)
   ·refine z 3 6 ?_;intro W X c Z w a a0 a1 c o w a
    refine bE c fun s L c=>cZ (nh L a) fun w a=>?_
    refine z 1 4 ?_
    refine bE c fun C N c=>?_
    refine lp N [1,3,4,6,18,19,32,33] (fun (t,u)=>[(34,iV u)]) (fun (t,u)=>St w0 mu (box f 32 [b.v]::row 4 rB h.v t::row 24 S1 d.v e::row 3 I1 o.v s::rs)) (fun | C=>(.exit 2,[],St w0 mu (box f 32 [b.v]::row 4 rB h.v C::row 24 S1 d.v e::row 3 I1 o.v s::rs))) rfl ((a.k1n).fc) rfl ?_ ?_
    ·clear a
     intro g w a
     refine q 5 rfl ?_
     replace a:=(a.k1d).fz
     refine yh (rLt (n:=1) (l:=[s]) a Q4 [o.v] (bp1 e0) rfl rfl (J1 (cs:=[o.v]) rfl (mkS F0) L1)) fun a2 w a=>?_
     refine z 1 3 ?_;intro a3 a4 c a5 w a
     exact jx (_,_,_) ⟨((a.k45).fc),c⟩
    rintro ⟨t,u⟩ g w a6 a c
    refine q 6 rfl (cI c (fun O c=>?_) fun O c=>?_)
    ·refine z 2 6 ?_;intro a7 a8 c
     refine bE c fun a9 D c=>y (yIs K3 e0 e0 a rO1 D) ?_
     replace a:=a.k10
     refine yt (V1 (cs:=[.bool true]) a O_4 rfl e0 rfl rfl mkB D) fun w a=>q 7 rfl ?_
     cases c
     exact lo (a.k46)
    ·refine q 2 rfl ?_
     cases c
     exact xo a
  ·refine q 2 rfl ?_
   cases c
   exact lx _ (a.k47)
 ·refine q 7 rfl ?_
  cases c
  replace a:=a.rowNh 24 S1
  exact A _ _ _ (X1 results164 ⟨rfl,rfl⟩ ⟨_,rfl,(a.k11)⟩)
instance:CL prog 164 (type_of% @nm):=⟨@nm⟩
theorem km {d:L2} {b:Int} {f:Hdr} {out:Bool} (c:m_e3 d b=some out) (i:imm S1 f.v d∈mu) (a:St w0 mu rs w):
  Calls prog 129 #[.agg #[f.v],iV b] w (rv w0 mu rs (.bool out)):=by
 refine en func129 rfl ntmps129 fun Q j=>?_
 refine z 1 8 ?_;intro k w a
 refine jW 6 [] [(13,.bool ((decide ((0:Int)≤b)) && (decide (b < (d.length:Int)))))] (St w0 mu rs) rfl (fun h=>?_) ?_
 ·refine gB 7 rfl (fun e=>?_) fun e=>?_
  ·refine z 2 2 ?_
   exact h _ _ (a.k14) (Z0 (S0 Value.bool (j5 e)) rfl)
  ·exact q 6 rfl (h _ _ (a.k14) (Z0 (S0 Value.bool (m5 e)) rfl))
 intro g w a
 exact vx
instance:CL prog 129 (type_of% @km):=⟨@km⟩
theorem jm {n:L2} {o:Int} {b:Hdr} {out:Int} (c:m_e7 n o=some out) (i:imm S1 b.v n∈mu) (a:St w0 mu rs w):
  Calls prog 167 #[.agg #[b.v],iV o] w (rv w0 mu rs (iV out)):=by
 refine en func167 rfl ntmps167 fun Q p=>?_
 refine z 3 2 ?_;intro h w a O R c w a
 refine bE c fun C d c=>?_
 refine jW 5 [1,2] [(19,.bool C)] (St w0 mu (box h 32 [b.v]::rs)) rfl (fun r=>?_) ?_
 ·refine gIn 14 d rfl (fun D d=>?_) fun D d=>?_
  ·refine z 1 1 ?_
   refine bE d fun S T d=>?_
   refine z 1 2 ?_;intro w a
   cases d
   exact r _ _ a rfl
  ·refine q 5 rfl ?_
   cases d
   exact r _ _ a rfl
 intro g w a
 refine q 2 rfl ?_
 refine cJ c (fun E c=>?_) fun E c=>?_
 ·refine q 7 rfl ?_
  cases c
  exact za p results167 ⟨rfl,(a.k14)⟩
 ·refine z 2 4 ?_;intro U V c W w a
  refine bE c fun s F c=>?_
  refine lpN Hdr Unit F [2] (fun (l,f) e=>[(1,iV l),(5,e.v)]) (fun (l,f) e=>St w0 mu (box h 32 [b.v]::row 24 S1 e.v f::rs)) (fun | s,_=>(.ret,[(4,iV s)],St w0 mu rs)) rfl _ (a.k10) rfl ?_ ?_
  ·clear a
   rintro _ g w a
   refine q 1 rfl ?_
   cases c
   exact za p results167 ⟨rfl,a⟩
  rintro ⟨l,f⟩ e g w X a c
  refine z 2 0 ?_;intro t G c
  obtain ⟨u,H,a⟩:=rLs a rO1 G
  refine y (yCe P0 e0 H rfl) ?_
  refine z 3 4 ?_;intro Z a0 c
  refine bE c fun x I c=>?_
  refine lp I [1,2,5,32,33] (fun (m,j)=>[(7,iV m),(34,iV j)]) (fun (m,j)=>St w0 (imm I1 u.v t::mu) (box h 32 [b.v]::row 24 S1 e.v f::rs)) (fun | x=>(.exit 2,[(7,iV x)],St w0 mu (box h 32 [b.v]::row 24 S1 e.v f::rs))) rfl a rfl ?_ ?_
  ·clear a
   intro g w a
   refine z 4 3 ?_;intro a1 a2 c a3 w a
   refine cI c (fun J c=>?_) fun J c=>?_
   ·refine q 9 rfl ?_
    cases c
    exact lx () (a.k1b)
   ·refine q 9 rfl ?_
    cases c
    exact ln _ (a.k37)
  rintro ⟨m,j⟩ g w K a c
  refine q 6 rfl (cI c (fun L c=>?_) fun L c=>?_)
  ·refine z 2 4 ?_;intro a4 a5 c
   refine bE c fun a6 A c=>bE c fun a7 B c=>dS [] 0 V0 ?_
   replace a:=a.drew
   refine Dw 8191 0 (qR 1 rfl (rQ rfl (lb_ b.v M4 e0 a R0) (qR 1 rfl (rQ rfl (yIa Q4 e0 e0 a (rdI (mtF i)) A) ?_))))
   obtain ⟨a8,a⟩:=iLs a (mtF i) A
   refine rQ rfl (yCt P0 e0 a F1 rfl) (rQ rfl (T1 N0 e0 a (rdI F0)) (qR 1 rfl (rQ rfl (lb_ b.v M4 e0 a R0) (qR 1 rfl (rQ rfl (yIa Q4 e0 e0 a (rdI (F_3 i)) B) ?_)))))
   obtain ⟨a9,a⟩:=iLs a (F_3 i) B
   refine rQ rfl (yCt P0 e0 a F1 rfl) (rQ rfl (T1 N0 e0 a (rdI F0)) (qR 1 rfl (Rn QSn (qx 1 rfl ?_))))
   refine jC Int [1,2,5,32,33,34] (fun k=>[(7,iV k)]) (fun k w=>St w0 (imm I1 u.v t::mu) (box h 32 [b.v]::row 24 S1 e.v f::rs) w∧m_e4 j k=some K) rfl ?_ ?_
   ·rintro k g w ⟨a,c⟩
    refine q 6 rfl ?_
    cases c
    exact lo a
   refine cI c (fun N c=>?_) fun N c=>?_
   ·exact q 4 rfl (jx _ ⟨(a.facts (U0 F4 (M0 (M0 (M0 (M0 (M0 M1))))))),c⟩)
   ·exact q 1 rfl (jx _ ⟨(a.facts (U0 F4 (M0 (M0 (M0 (M0 (M0 M1))))))),c⟩)
  ·refine q 2 rfl ?_
   cases c
   exact xo (a.fc)
instance:CL prog 167 (type_of% @jm):=⟨@jm⟩
end Go.Proofs.YtoahkigijbeegaaGreatDoor
