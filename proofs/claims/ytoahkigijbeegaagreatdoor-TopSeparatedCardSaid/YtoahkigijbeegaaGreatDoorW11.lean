/- Walks: each function computes its model, printed. -/
import Derived.Test.YtoahkigijbeegaaGreatDoorW8
namespace Go.Proofs.YtoahkigijbeegaaGreatDoor
open Go Sx M Go.Proofs.Tryz
set_option maxRecDepth 100000
set_option maxHeartbeats 40000000
set_option linter.unusedVariables false
attribute [local irreducible] wpList Code.wp Calls DR QR QS LA LS St row box fam imm rowS loop
variable {w0:World} {mu:List Fact} {rs:List Res} {w:World}
theorem Dl {b:List (Int×Int×Int)} {d:Hdr} {out:(List (Int×Int×Int))} (c:m_ib b=some out) (e:imm rTi64i64u64 d.v b∈mu) (a:St w0 mu rs w):
  Calls prog 178 #[d.v] w (ri w0 mu rs rTi64i64u64 out):=by
 exact en func178 rfl ntmps178 fun Q f=>vx
instance:CL prog 178 (type_of% @Dl):=⟨@Dl⟩
theorem Cl {f h:Int} {F:List (Int×Int×Int)} {G:Hdr} {out:Int×Int×LI×LI×LI} (c:m_ie f h F=some out) (b3:imm rTi64i64u64 G.v F∈mu) (a:St w0 mu rs w):
  Calls prog 131 #[iV f,iV h,G.v] w (fun e w=>∃ (H I J:Hdr),e=.returned (.agg #[iV out.1,iV out.2.1,H.v,I.v,J.v])∧St w0 mu (row 3 I1 H.v out.2.2.1::row 3 I1 I.v out.2.2.2.1::row 56 iu J.v out.2.2.2.2::rs) w):=by
 refine en func131 rfl ntmps131 fun Q Z=>?_
 refine z 1 8 ?_;intro o w a
 refine bE c fun b4 a0 c=>yh (rMk a N0 e0 a0) fun d w a=>?_
 refine z 5 4 ?_;intro p w a w a K b6 c L w a
 obtain ⟨⟨N,r,s⟩,a1,c⟩:=bs c
 replace a:=(a.rowNh 3 I1).rowNh 56 iu
 refine lpN (Hdr×Hdr) (Hdr×Hdr) a1 [1,6,7,18,19] (fun (t,A,B,C) (m,i)=>[(20,iV C)]) (fun (t,A,B,C) (m,i)=>St w0 (imm rTi64i64u64 L.v K::mu) (box o 27 [iV 0,iV 0,hnil.v,hnil.v,hnil.v]::row 3 I1 d.v t::row 3 I1 m.v A::row 56 iu i.v B::box p 27 [iV f,iV h,d.v,m.v,i.v]::rs)) (fun | (N,r,s),(j,k)=>(.exit 0,[],St w0 mu (box o 27 [iV 0,iV 0,hnil.v,hnil.v,hnil.v]::row 3 I1 d.v N::row 3 I1 j.v r::row 56 iu k.v s::box p 27 [iV f,iV h,d.v,j.v,k.v]::rs))) rfl (_,_) (a.k3f) rfl ?_ ?_
 ·clear a
  rintro ⟨j,k⟩ g w a
  refine bE c fun O a2 c=>q 10 rfl ?_
  refine lp a2 [6,7,48] (fun (D,E)=>[(49,iV E)]) (fun (D,E)=>St w0 mu (box o 27 [iV 0,iV 0,hnil.v,hnil.v,hnil.v]::row 3 I1 d.v D::row 3 I1 j.v r::row 56 iu k.v s::box p 27 [iV f,iV h,d.v,j.v,k.v]::rs)) (fun | O=>(.exit 2,[],St w0 mu (box o 27 [iV 0,iV 0,hnil.v,hnil.v,hnil.v]::row 3 I1 d.v O::row 3 I1 j.v r::row 56 iu k.v s::box p 27 [iV f,iV h,d.v,j.v,k.v]::rs))) rfl a rfl ?_ ?_
  ·clear a
   intro g w a
   refine z 2 3 ?_;intro w a
   cases c
   exact Z _ _ _ (X1 results131 (V2 rfl rfl a R0 E5 rfl) ⟨_,_,_,rfl,(a.k3g)⟩)
  rintro ⟨D,E⟩ g w b7 a c
  refine q 6 rfl (cI c (fun a3 c=>?_) fun a3 c=>?_)
  ·refine q 10 rfl (bE c fun a4 R c=>bE c fun a5 S c=>bE c fun b8 T c=>dS [13] 1 V0 ?_)
   replace a:=a.drew
   refine D0 8191 0 13 rfl (qR 1 rfl (rQ rfl (lb_ d.v P0 e0 a R4) (qR 2 rfl (rQ rfl (yIa N0 e0 e0 a rO1 R) (rQ rfl (yI O_3 e0 a rO1 R) (qR 1 rfl (rQ rfl (lb_ d.v P0 e0 a R4) (qR 1 rfl (rQ rfl (yIa N0 e0 e0 a rO1 S) (rQ rfl (yI O_3 e0 a rO1 S) (qR 1 rfl (rQ rfl (yIs N0 e0 e0 a rO1 T) (Rn QSn ?_)))))))))))))
   replace a:=a.k10
   refine LT wn (V1 (cs:=[iV (wa .i64 a4 a5)]) a O_3 rfl e0 e0 rfl mkI T) fun w a=>?_
   refine z 1 6 ?_
   cases c
   exact lo (a.k59)
  ·refine q 2 rfl ?_
   cases c
   exact xo a
 rintro ⟨t,A,B,C⟩ ⟨m,i⟩ g w c0 a c
 refine q 6 rfl (cI c (fun a6 c=>?_) fun a6 c=>?_)
 ·refine z 1 0 ?_;intro b a7 c
  refine y (yFn j7 e0 a (rdI F0) a7 rfl) ?_
  refine z 2 3 ?_;intro a8 w a w a
  refine bE c fun a9 c1 c=>bE c fun b0 c2 c=>?_
  refine jN (Hdr×Hdr) [1,6,7,9,18,19,20] (fun (u,x)=>[]) (fun (u,x)=>St w0 (imm rTi64i64u64 L.v K::mu) (box o 27 [iV 0,iV 0,hnil.v,hnil.v,hnil.v]::row 3 I1 d.v t::row 3 I1 u.v a9::row 56 iu x.v b0::box p 27 [iV f,iV h,d.v,u.v,x.v]::box a8 58 [iV b.1,iV b.2.1,.int .u64 b.2.2]::rs)) rfl ?_ ?_
  ·refine dS [4,5,10,11,13,15] 6 V0 ?_
   replace a:=a.drew
   refine Dm 975 0 [4,10] ?_
   refine z 4 0 ?_
   refine La1 rfl ?_ (La1 rfl ?_ LAn)
   ·refine LH wn (rLt (n:=1) (l:=[b.1]) a N0 [iV b.1] (bp1 e0) rfl rfl (J1 (cs:=[iV b.1]) rfl mkI L1)) fun b1 w a=>dU (Dm 0 963 [5,10] (Rn (qS rfl (sY rfl (lb_ m.v P0 e0 a R6) (qS rfl (sY rfl (lb_ i.v T3 e0 a R6) (qS rfl (sY rfl (lb_ (.int .u64 b.2.2) B5 e0 a R1) QSn)))))) ?_))
    refine La1 rfl ?_ (La1 rfl ?_ LAn)
    ·refine z 1 0 ?_;intro U w a
     refine dU (D1 4096 960 10 rfl (qR 1 rfl (Rn (qS rfl (sY rfl (lb_ i.v T3 e0 a R6) (qS rfl (sY rfl (lb_ (.int .u64 b.2.2) B5 e0 a R2) QSn)))) (LH wn (rLt (n:=1) (l:=[b.2.2]) a E2 [.int .u64 b.2.2] (bp1 e0) rfl rfl (J1 (cs:=[.int .u64 b.2.2]) rfl mkI L1)) fun V w a=>dU ?_))))
     refine z 3 0 ?_;intro W w a w a w a
     exact Dw 0 0 (Rn QSn (jr (_,_) (a.k5a)))
    ·refine LH wn (rLt (n:=1) (l:=[b.2.2]) a E2 [.int .u64 b.2.2] (bp1 e0) rfl rfl (J1 (cs:=[.int .u64 b.2.2]) rfl mkI L1)) fun V w a=>dU ?_
     refine z 4 0 ?_;intro U w a W w a w a w a
     exact Dw 0 0 (Rn QSn (jr (_,_) (a.k5b)))
   ·refine LH wn (rLt (n:=1) (l:=[b.2.2]) a E2 [.int .u64 b.2.2] (bp1 e0) rfl rfl (J1 (cs:=[.int .u64 b.2.2]) rfl mkI L1)) fun V w a=>dU (D1 0 207 4 rfl (Rn (qS rfl (sY rfl (lb_ m.v P0 e0 a R6) (qS rfl (sY rfl (lb_ (iV b.1) O_3 e0 a R1) (qS rfl (sY rfl (lb_ i.v T3 e0 a R6) QSn)))))) (LH wn (rLt (n:=1) (l:=[b.1]) a N0 [iV b.1] (bp1 e0) rfl rfl (J1 (cs:=[iV b.1]) rfl mkI L1)) fun b1 w a=>dU ?_)))
    refine z 4 0 ?_;intro U w a W w a w a w a
    exact Dw 0 0 (Rn QSn (jr (_,_) (a.k5b)))
  rintro ⟨u,x⟩ g w a
  refine z 4 1 ?_;intro b2 c3 c
  refine bE c fun c4 X c=>y (yIs N0 e0 e0 a rO1 X) ?_
  replace a:=a.k10
  refine yt (V1 (cs:=[iV (wa .i64 b2 1)]) a O_3 rfl e0 e0 rfl mkI X) fun w a=>q 7 rfl ?_
  cases c
  exact ln (_,_) (a.k5c)
 ·refine q 2 rfl ?_
  cases c
  exact lx (_,_) (a.fc)
instance:CL prog 131 (type_of% @Cl):=⟨@Cl⟩
theorem Sg {d f:Int} {x A B:LI} {h i j:Hdr} {out:Int×Int×LI×LI×LI×Int} (c:m_ih d f x A B=some out) (S:imm I1 h.v x∈mu) (T:imm I1 i.v A∈mu) (U:imm iu j.v B∈mu) (a:St w0 mu rs w):
  Calls prog 73 #[.agg #[iV d,iV f,h.v,i.v,j.v]] w (fun e w=>∃ (C D E:Hdr),e=.returned (.tuple #[.agg #[iV out.1,iV out.2.1,C.v,D.v,E.v],iV out.2.2.2.2.2])∧St w0 mu (row 3 I1 C.v out.2.2.1::row 3 I1 D.v out.2.2.2.1::row 56 iu E.v out.2.2.2.2.1::rs) w):=by
 refine en func73 rfl ntmps73 fun Q F=>?_
 refine z 4 10 ?_;intro r w a s w a V W c w a
 refine cIn c (fun J c=>?_) fun J c=>?_
 ·refine z 3 4 ?_;intro G X c H w a
  refine bE c fun I K c=>?_
  replace a:=a.rowNh 58 rTi64i64u64
  refine lpN Hdr Hdr K [1,2,15,16] (fun (t,k) m=>[(5,m.v),(17,iV k)]) (fun (t,k) m=>St w0 mu (box r 27 [iV d,iV f,h.v,i.v,j.v]::box s 27 [iV 0,iV 0,hnil.v,hnil.v,hnil.v]::row 58 rTi64i64u64 m.v t::row 58 rTi64i64u64 H.v G::rs)) (fun | I,u=>(.exit 0,[(5,u.v)],St w0 mu (box r 27 [iV d,iV f,h.v,i.v,j.v]::box s 27 [iV 0,iV 0,hnil.v,hnil.v,hnil.v]::row 58 rTi64i64u64 u.v I::rs))) rfl _ (a.k3v) rfl ?_ ?_
  ·clear a
   rintro u g w a
   refine z 4 4 ?_;intro Z a0 c a1 a2 a3 w a w a
   cases c
   exact F _ _ _ (M3 results73 (V2 rfl rfl a R0 E5 rfl) ⟨rfl,rfl⟩ ⟨_,_,_,rfl,((a.k3g).fc)⟩)
  rintro ⟨t,k⟩ m g w L a c
  refine q 6 rfl (cI c (fun N c=>?_) fun N c=>?_)
  ·refine z 1 0 ?_;intro b O c
   refine y (yFn j7 e0 a rO3 O rfl) ?_
   refine z 4 3 ?_;intro a4 w a w a
   refine jC ((List (Int×Int×Int))×Hdr) [1,2,15,16,17] (fun (o,p)=>[(5,p.v)]) (fun (o,p) w=>St w0 mu (box r 27 [iV d,iV f,h.v,i.v,j.v]::box s 27 [iV 0,iV 0,hnil.v,hnil.v,hnil.v]::row 58 rTi64i64u64 p.v o::row 58 rTi64i64u64 H.v G::rs) w∧m_if k o=some L) rfl ?_ ?_
   ·rintro ⟨o,p⟩ g w ⟨a,c⟩
    refine q 6 rfl ?_
    cases c
    exact ln _ a
   refine cI c (fun R c=>?_) fun R c=>?_
   ·refine z 1 0 ?_
    refine yh (rLt (n:=1) (l:=[(b.1,b.2.1,b.2.2)]) a H5 [.agg #[iV b.1,iV b.2.1,.int .u64 b.2.2]] (bp1 e0) rfl rfl (J1 (cs:=[iV b.1,iV b.2.1,.int .u64 b.2.2]) rfl (mkF rfl) L1)) fun a5 w a=>?_
    refine z 1 2 ?_;intro a6 a7 c a8 w a
    exact jx (_,_) ⟨(a.k3x),c⟩
   ·exact q 1 rfl (jx (_,_) ⟨(a.k3d),c⟩)
  ·refine q 2 rfl ?_
   cases c
   exact lx _ (a.k1k)
 ·refine z 2 5 ?_;intro w a
  cases c
  replace a:=((a.rowNh 3 I1).rowNh 3 I1).rowNh 56 iu
  exact F _ _ _ (M3 results73 (V2 rfl rfl a R3 E5 rfl) ⟨rfl,rfl⟩ ⟨_,_,_,rfl,(a.k4x)⟩)
instance:CL prog 73 (type_of% @Sg):=⟨@Sg⟩
theorem Rg {f:Int} {g:L2} {b:Nat} {d:Hdr} {out:Bool} (c:m_ii f g=some out) (h:imm S1 d.v g∈mu) (a:St w0 mu (box b 32 [d.v]::rs) w):
  Calls prog 140 #[iV f,(pB b)] w (fun e w=>e=.returned (.bool out)∧St w0 mu (box b 32 [d.v]::rs) w):=by
 exact en func140 rfl ntmps140 fun Q i=>vx
instance:CL prog 140 (type_of% @Rg):=⟨@Rg⟩
theorem w_d2 {h:LI} {i:L2} {j:Hdr} {b:Nat} {d:Hdr} {out:Int} (c:m_ik h i=some out) (p:imm I1 j.v h∈mu) (l:imm S1 d.v i∈mu) (a:St w0 mu (box b 32 [d.v]::rs) w):
  Calls prog 174 #[j.v,.func (.func 140) #[] #[(pB b)]] w (fun e w=>e=.returned (iV out)∧St w0 mu (box b 32 [d.v]::rs) w):=by
 refine en func174 rfl ntmps174 fun Q q=>?_
 refine z 1 4 ?_
 refine bE c fun m n c=>?_
 refine lp n [0,1,7] (fun f=>[(8,iV f)]) (fun f=>St w0 mu (box b 32 [d.v]::rs)) (fun | .inl ()=>(.exit 0,[],St w0 mu (box b 32 [d.v]::rs)) | .inr k=>(.ret,[(4,iV k)],St w0 mu (box b 32 [d.v]::rs))) rfl a rfl ?_ ?_
 ·clear a
  intro g w a
  rcases m with ⟨⟩ | k
  ·exact vx
  ·exact vx
 rintro f g w r a c
 refine v 0 ?_
 refine ⟨fun _ _ _ _ c=>?_,vt⟩
 refine bE c fun s o c=>yC (A8 yD e0 (a1 e0)) (Rg o l a) ?_
 rintro _ w ⟨rfl,a⟩
 refine ⟨_,rfl,?_⟩
 exact nf vx
theorem w_d3 {f:LI} {g:L2} {h:Hdr} {b:Nat} {d:Hdr} {out:Bool} (c:m_il f g=some out) (i:imm I1 h.v f∈mu) (j:imm S1 d.v g∈mu) (a:St w0 mu (box b 32 [d.v]::rs) w):
  Calls prog 127 #[h.v,.func (.func 140) #[] #[(pB b)]] w (fun e w=>e=.returned (.bool out)∧St w0 mu (box b 32 [d.v]::rs) w):=by
 exact en func127 rfl ntmps127 fun Q l=>bE c fun m k c=>q 9 rfl (cZ (w_d2 k i j a) fun w a=>vx)
theorem Yl {b:L2} {d:LI} {e f:Hdr} {out:Int} (c:m_im b d=some out) (g:imm S1 e.v b∈mu) (h:imm I1 f.v d∈mu) (a:St w0 mu rs w):
  Calls prog 80 #[.agg #[e.v],f.v] w (rv w0 mu rs (iV out)):=by
 refine en func80 rfl ntmps80 fun Q k=>?_
 refine v 0 ?_
 refine fun i _ _ _ _ _ w a=>⟨fun _ _=>⟨fun _ c=>?_,vt⟩,vt⟩
 exact y (ymf (vf:=#[]) (vc:=#[(pB i)]) a0 (a1 e0)) (bE c fun l j c=>cZ (w_d3 j h g a) fun w a=>vx)
instance:CL prog 80 (type_of% @Yl):=⟨@Yl⟩
theorem Vd {b:L2} {d:LI} {f g:Hdr} {out:L2×Int} (c:m_in b d=some out) (j:imm S1 f.v b∈mu) (k:imm I1 g.v d∈mu) (a:St w0 mu rs w):
  Calls prog 37 #[.agg #[f.v],g.v] w (fun e w=>∃ (h:Hdr),e=.returned (.tuple #[.agg #[h.v],iV out.2])∧St w0 mu (row 24 S1 h.v out.1::rs) w):=by
 refine en func37 rfl ntmps37 fun Q i=>?_
 refine v 0 ?_
 refine fun _ _ _ _ _ _ _ _ _ _ a=>⟨vt,fun _ c _ a=>?_⟩
 cases c
 replace a:=a.rowNh 24 S1
 exact i _ _ _ (M3 results37 (V2 rfl rfl a R1 Z3 rfl) ⟨rfl,rfl⟩ ⟨_,rfl,(a.k1l)⟩)
instance:CL prog 37 (type_of% @Vd):=⟨@Vd⟩
theorem Xl {e:LI} {f:Hdr} {out:LI} (c:m_ip e=some out) (h:imm Zt f.v e∈mu) (a:St w0 mu rs w):
  Calls prog 152 #[f.v] w (ri w0 mu rs Zt out):=by
 refine en func152 rfl ntmps152 fun Q o=>?_
 refine z 1 5 ?_
 refine bE c fun i l c=>?_
 refine lp l [0] (fun d=>[(3,iV d)]) (fun d=>St w0 mu rs) (fun | i=>(.exit 0,[(3,iV i)],St w0 mu rs)) rfl a rfl ?_ ?_
 ·clear a
  intro g w a
  refine bE c fun p j c=>q 6 rfl (y (ySl (k1:=.i64) Y2 e0 a (rdI h) (.inr ⟨rfl,rfl⟩) (.inl (S0 some e0)) j) ?_)
  replace a:=a.sub h j
  exact vx
 rintro d g w r a c
 refine bE c fun m b c=>q 6 rfl ?_
 refine jW 7 [0,3] [(15,.bool m)] (St w0 mu rs) rfl (fun k=>?_) ?_
 ·refine gI 8 b rfl (fun n b=>?_) fun n b=>?_
  ·refine q 3 rfl (bE b fun s t b=>?_)
   refine z 2 2 ?_
   cases b
   exact k _ _ a rfl
  ·refine q 7 rfl ?_
   cases b
   exact k _ _ a rfl
 intro g w a
 exact vx
instance:CL prog 152 (type_of% @Xl):=⟨@Xl⟩
theorem Wl {b:Bool} {d:LI} {e:Hdr} {out:Bool×LI} (c:m_iq b d=some out) (g:imm Zt e.v d∈mu) (a:St w0 mu rs w):
  Calls prog 153 #[.bool b,e.v] w (rb w0 mu rs out):=by
 refine en func153 rfl ntmps153 fun Q f=>?_
 refine v 0 ?_
 refine fun _ _ _ _ _ _ _ _ a=>⟨fun _ c _ a=>?_,vt⟩
 cases c
 replace a:=a.immNh Zt
 exact f _ _ _ (X1 results153 (V2 rfl rfl a R0 Q1 rfl) ⟨_,rfl,((a.k14).facts (U0 F0 (M0 (M0 M1))))⟩)
instance:CL prog 153 (type_of% @Wl):=⟨@Wl⟩
theorem Ul {d:Int} {out:Bool×LI} (c:m_is d=some out) (a:St w0 mu rs w):
  Calls prog 93 #[iV d] w (rb w0 mu rs out):=by
 refine en func93 rfl ntmps93 fun Q f=>?_
 refine z 1 16 ?_;intro e w a
 refine jC Int [0,2] (fun b=>[(3,.int .u64 b)]) (fun b w=>St w0 mu (box e 63 [.bool false,hnil.v]::rs) w∧m_ir d b=some out) rfl ?_ ?_
 ·rintro b g w ⟨a,c⟩
  exact q 11 rfl (yh (rLt (n:=2) (l:=[wc .u32 (wand .u64 b 4294967295),wc .u32 (wsrc .u64 b 32)]) a Y2 [.int .u32 (wc .u32 (wand .u64 b 4294967295)),.int .u32 (wc .u32 (wsrc .u64 b 32))] (bp2 e0 e0) rfl rfl (J1 (cs:=[.int .u32 (wc .u32 (wand .u64 b 4294967295))]) rfl mkI (J1 (cs:=[.int .u32 (wc .u32 (wsrc .u64 b 32))]) rfl mkI L1))) fun h w a=>vx)
 exact vx
instance:CL prog 93 (type_of% @Ul):=⟨@Ul⟩
theorem Tl {b:Int} {out:Bool} (c:m_it b=some out) (a:St w0 mu rs w):
  Calls prog 94 #[.int .u64 b] w (rv w0 mu rs (.bool out)):=by
 exact en func94 rfl ntmps94 fun Q d=>vx
instance:CL prog 94 (type_of% @Tl):=⟨@Tl⟩
theorem ll {e:LI} {d:Hdr} {out:LI} (c:m_iu e=some out) (f:imm Zt d.v e∈mu) (a:St w0 mu rs w):
  Calls prog 154 #[d.v] w (ro w0 mu rs 108 Zt out):=by
 refine en func154 rfl ntmps154 fun Q g=>q 9 rfl (y (gg Y2 e0 rfl) (q 2 rfl ?_))
 rcases Bh d with b | b
 ·refine kT b ?_
  obtain rfl:=Dh b f a
  replace c:=Ch c
  refine q 7 rfl ?_
  cases c
  replace a:=a.rowNh 108 Zt
  exact g _ _ _ (X1 results154 ⟨rfl,rfl⟩ ⟨_,rfl,a⟩)
 ·exact kF b (q 4 rfl (yh (rLt (n:=0) (l:=[]) a Y2 [] bp0 rfl rfl L1) fun h w a=>vx))
instance:CL prog 154 (type_of% @ll):=⟨@ll⟩
theorem kl {b:Bool} {d:LI} {e:Hdr} {out:Bool×LI} (c:m_iv b d=some out) (f:imm Zt e.v d∈mu) (a:St w0 mu rs w):
  Calls prog 95 #[.agg #[.bool b,e.v]] w (rb w0 mu rs out):=by
 exact en func95 rfl ntmps95 fun Q g=>vx
instance:CL prog 95 (type_of% @kl):=⟨@kl⟩
theorem jl {out:Bool×Bool×Int} (c:m_iw=some out) (a:St w0 mu rs w):
  Calls prog 147 #[] w (rv w0 mu rs (.agg #[.bool out.1,.bool out.2.1,hnil.v,iV out.2.2])):=by
 exact en func147 rfl ntmps147 fun Q b=>vx
instance:CL prog 147 (type_of% @jl):=⟨@jl⟩
theorem il {b:Bool} {d:LI} {e:Hdr} {out:Bool×LI} (c:m_ix b d=some out) (f:imm Zt e.v d∈mu) (a:St w0 mu rs w):
  Calls prog 148 #[.agg #[.bool b,e.v]] w (rb w0 mu rs out):=by
 exact en func148 rfl ntmps148 fun Q g=>vx
instance:CL prog 148 (type_of% @il):=⟨@il⟩
theorem Mg {b:Bool} {d:LI} {e:Hdr} {out:Int} (c:m_iy b d=some out) (f:imm Zt e.v d∈mu) (a:St w0 mu rs w):
  Calls prog 92 #[.agg #[.bool b,e.v]] w (rv w0 mu rs (iV out)):=by
 exact en func92 rfl ntmps92 fun Q g=>vx
instance:CL prog 92 (type_of% @Mg):=⟨@Mg⟩
theorem Zk {d:Bool} {e:LI} {f:Hdr} {out:Int} (c:m_i0 d e=some out) (m:imm Zt f.v e∈mu) (i:globF∈mu) (a:St w0 mu rs w):
  Calls prog 149 #[.agg #[.bool d,f.v]] w (rv w0 mu rs (iV out)):=by
 refine en func149 rfl ntmps149 fun Q n=>?_
 refine z 3 4 ?_;intro o w a
 refine bE c fun j k c=>?_
 refine lp k [6,7] (fun b=>[(8,iV b)]) (fun b=>St w0 mu rs) (fun | .inl ()=>(.exit 0,[],St w0 mu rs) | .inr h=>(.ret,[(2,iV h)],St w0 mu rs)) rfl (a.k14) rfl ?_ ?_
 ·clear a
  intro g w a
  rcases j with ⟨⟩ | h
  ·exact vx
  ·exact vx
 rintro b g w p a c
 refine v 0 ?_
 refine ⟨fun _ _ _ _ _=>⟨vt,fun _ c=>?_⟩,vt⟩
 exact bE c fun q l c=>cZ (Yn l i a) fun w a=>vx
instance:CL prog 149 (type_of% @Zk):=⟨@Zk⟩
theorem Yk {b:LI} {d:Hdr} {out:Int} (c:m_i1 b=some out) (e:imm Zt d.v b∈mu) (a:St w0 mu rs w):
  Calls prog 193 #[d.v] w (rv w0 mu rs (iV out)):=by
 exact en func193 rfl ntmps193 fun Q f=>vx
instance:CL prog 193 (type_of% @Yk):=⟨@Yk⟩
theorem Sd {b:Bool} {d:LI} {e:Hdr} {out:Int} (c:m_i2 b d=some out) (f:imm Zt e.v d∈mu) (a:St w0 mu rs w):
  Calls prog 150 #[.agg #[.bool b,e.v]] w (rv w0 mu rs (iV out)):=by
 exact en func150 rfl ntmps150 fun Q g=>vx
instance:CL prog 150 (type_of% @Sd):=⟨@Sd⟩
theorem Xk {e:LI} {f:Int} {h:Hdr} {out:LI} (c:m_i4 e f=some out) (u:imm Zt h.v e∈mu) (a:St w0 mu rs w):
  Calls prog 217 #[h.v,iV f] w (ri w0 mu rs Zt out):=by
 refine en func217 rfl ntmps217 fun Q i=>?_
 refine z 1 3 ?_
 refine cI c (fun o c=>?_) fun o c=>?_
 ·refine q 7 rfl ?_
  cases c
  replace a:=a.immNh Zt
  exact i _ _ _ (X1 results217 ⟨rfl,rfl⟩ ⟨_,rfl,a⟩)
 ·refine z 1 2 ?_
  refine bE c fun x p c=>yh (rMk a Y2 e0 p) fun j w a=>?_
  refine z 1 4 ?_
  refine bE c fun k r c=>?_
  refine lp r [5,6,7,25,26] (fun (b,d)=>[(27,iV d)]) (fun (b,d)=>St w0 mu (row 108 Zt j.v b::rs)) (fun | k=>(.exit 0,[],St w0 mu (row 108 Zt j.v k::rs))) rfl a rfl ?_ ?_
  ·clear a
   intro g w a
   refine z 1 4 ?_;intro A B c C w a
   cases c
   exact i _ _ _ (X1 results217 ⟨rfl,rfl⟩ ⟨_,rfl,(a.facts (U0 F0 (M0 (M0 M1))))⟩)
  rintro ⟨b,d⟩ g w D a c
  refine q 6 rfl (cI c (fun s c=>?_) fun s c=>?_)
  ·refine z 5 4 ?_;intro E F c l G c t H c
   refine bE c fun I m c=>y (yIs Y2 e0 e0 a rO0 m) (yt (V1 (cs:=[.int .u32 (wor .u32 t (wc .u32 (wand .u64 l 4294967295)))]) a N4 rfl e0 e0 rfl mkI m) fun w a=>bE c fun J n c=>q 11 rfl (y (yIs Y2 e0 e0 a rO0 n) (yt (V1 (cs:=[.int .u32 (wc .u32 (wsrc .u64 l 32))]) a N4 rfl e0 e0 rfl mkI n) fun w a=>q 7 rfl ?_)))
   cases c
   exact lo a
  ·refine q 2 rfl ?_
   cases c
   exact xo a
instance:CL prog 217 (type_of% @Xk):=⟨@Xk⟩
theorem Lg {b:Int} {out:Bool} (c:m_i5 b=some out) (a:St w0 mu rs w):
  Calls prog 232 #[.int .u32 b] w (rv w0 mu rs (.bool out)):=by
 exact en func232 rfl ntmps232 fun Q d=>vx
instance:CL prog 232 (type_of% @Lg):=⟨@Lg⟩
theorem Wk {d:LI} {e:Hdr} {out:Int} (c:m_i7 d=some out) (k:imm Zt e.v d∈mu) (a:St w0 mu rs w):
  Calls prog 245 #[e.v,.func (.func 232) #[] #[]] w (rv w0 mu rs (iV out)):=by
 refine en func245 rfl ntmps245 fun Q l=>?_
 refine z 1 4 ?_
 refine bE c fun h i c=>?_
 refine lp i [0,1,7] (fun b=>[(8,iV b)]) (fun b=>St w0 mu rs) (fun | .inl ()=>(.exit 0,[],St w0 mu rs) | .inr f=>(.ret,[(4,iV f)],St w0 mu rs)) rfl a rfl ?_ ?_
 ·clear a
  intro g w a
  rcases h with ⟨⟩ | f
  ·exact vx
  ·exact vx
 rintro b g w m a c
 refine v 0 ?_
 refine ⟨fun _ _ _ _ c=>?_,vt⟩
 refine bE c fun n j c=>yC (A8 vD e0 (a1 e0)) (Lg j a) ?_
 rintro _ w ⟨rfl,a⟩
 refine ⟨_,rfl,?_⟩
 exact nf vx
instance:CL prog 245 (type_of% @Wk):=⟨@Wk⟩
theorem Vk {b:LI} {d:Hdr} {out:Bool} (c:m_i8 b=some out) (e:imm Zt d.v b∈mu) (a:St w0 mu rs w):
  Calls prog 231 #[d.v,.func (.func 232) #[] #[]] w (rv w0 mu rs (.bool out)):=by
 exact en func231 rfl ntmps231 fun Q f=>vx
instance:CL prog 231 (type_of% @Vk):=⟨@Vk⟩
theorem Uk {k:LI} {i:Int} {l:Hdr} {out:LI×Bool} (c:m_jb k i=some out) (m:imm Zt l.v k∈mu) (a:St w0 mu rs w):
  Calls prog 218 #[l.v,iV i] w (fun e w=>∃ (n:Hdr),e=.returned (.tuple #[n.v,.bool out.2])∧St w0 (imm Zt n.v out.1::mu) rs w):=by
 refine en func218 rfl ntmps218 fun Q o=>?_
 refine z 1 3 ?_
 refine cI c (fun u c=>?_) fun u c=>?_
 ·refine z 1 7 ?_
  cases c
  replace a:=a.immNh Zt
  exact o _ _ _ (M3 results218 ⟨rfl,rfl⟩ ⟨rfl,rfl⟩ ⟨_,rfl,a⟩)
 ·refine q 6 rfl (bE c fun H p c=>y (ySl (k1:=.i64) Y2 e0 a (rdI m) (.inr ⟨rfl,rfl⟩) (.inl (S0 some e0)) p) ?_)
  replace a:=a.sub m p
  refine z 1 1 ?_;intro I J c w a
  refine bE c fun x b c=>?_
  refine jW 10 [0,6,7] [(38,.bool x)] (St w0 mu rs) rfl (fun r=>?_) ?_
  ·refine gJ 28 b rfl (fun A b=>?_) fun A b=>?_
   ·refine q 10 rfl ?_
    cases b
    exact r _ _ (a.fc) rfl
   ·refine q 2 rfl (bE b fun K L b=>?_)
    refine z 2 1 ?_
    refine bE b fun N O b=>?_
    refine z 1 4 ?_
    cases b
    exact r _ _ (a.fc) rfl
  intro g w a
  refine z 1 2 ?_
  refine bE c fun R B c=>yh (rMk a Y2 e0 B) fun j w a=>?_
  refine z 1 4 ?_
  refine bE c fun s C c=>?_
  refine lp C [0,6,7,8,9,45] (fun (d,f)=>[(46,iV f)]) (fun (d,f)=>St w0 mu (row 108 Zt j.v d::rs)) (fun | s=>(.exit 0,[],St w0 mu (row 108 Zt j.v s::rs))) rfl a rfl ?_ ?_
  ·clear a
   intro g w a
   refine z 1 6 ?_;intro S T c U w a
   cases c
   exact o _ _ _ (M3 results218 ⟨rfl,rfl⟩ ⟨rfl,rfl⟩ ⟨_,rfl,(a.facts (U0 F0 (M0 (M0 M1))))⟩)
  rintro ⟨d,f⟩ g w D a c
  refine q 6 rfl (cI c (fun E c=>?_) fun E c=>?_)
  ·refine z 3 3 ?_;intro V W c
   refine jC Int [0,6,7,8,9,10,45,46] (fun h=>[(11,.int .u64 h)]) (fun h w=>St w0 mu (row 108 Zt j.v d::rs) w∧m_i9 i d f h=some D) rfl ?_ ?_
   ·rintro h g w ⟨a,c⟩
    refine z 1 2 ?_;intro F X c
    refine bE c fun Z t c=>y (yIs Y2 e0 e0 a rO0 t) (yt (V1 (cs:=[.int .u32 (wc .u32 (wand .u64 F 4294967295))]) a N4 rfl e0 e0 rfl mkI t) fun w a=>q 7 rfl ?_)
    cases c
    exact lo a
   refine cI c (fun G c=>?_) fun G c=>?_
   ·refine z 2 5 ?_;intro a0 a1 c
    exact jx _ ⟨a,c⟩
   ·exact q 1 rfl (jx _ ⟨a,c⟩)
  ·refine q 2 rfl ?_
   cases c
   exact xo a
instance:CL prog 218 (type_of% @Uk):=⟨@Uk⟩
theorem Tk {m n:LI} {o p:Hdr} {out:LI} (c:m_jf m n=some out) (u:imm Zt o.v m∈mu) (x:imm Zt p.v n∈mu) (a:St w0 mu rs w):
  Calls prog 211 #[o.v,p.v] w (ri w0 mu rs Zt out):=by
 refine en func211 rfl ntmps211 fun Q y=>?_
 refine z 2 3 ?_
 refine jC (LI×LI×Hdr×Hdr) [] (fun (b,d,e,f)=>[(0,e.v),(1,f.v)]) (fun (b,d,e,f) w=>St w0 (imm Zt e.v b::imm Zt f.v d::mu) rs w∧m_je b d=some out) rfl ?_ ?_
 ·rintro ⟨b,d,e,f⟩ g w ⟨a,c⟩
  refine z 1 1 ?_
  refine bE c fun A s c=>yh (rMkc a Y2 rfl e0 s) fun B w a=>?_
  refine z 1 4 ?_
  obtain ⟨⟨q,r⟩,t,c⟩:=bs c
  refine lpN Hdr Hdr t [1,21,22] (fun (i,j,k) h=>[(5,h.v),(6,.int .u64 j),(23,iV k)]) (fun (i,j,k) h=>St w0 (imm Zt f.v d::imm Zt e.v b::mu) (row 108 Zt h.v i::rs)) (fun | (q,r),l=>(.exit 0,[(5,l.v),(6,.int .u64 r)],St w0 mu (row 108 Zt l.v q::rs))) rfl _ (a.facts (U0 F1 (U0 F0 (M0 (M0 M1))))) rfl ?_ ?_
  ·clear a
   rintro l g w a
   exact vx
  rintro ⟨i,j,k⟩ h g w C a c
  exact vx
 exact vx
instance:CL prog 211 (type_of% @Tk):=⟨@Tk⟩
theorem Sk {b:Bool} {n:LI} {f:Int} {d:Hdr} {out:Bool×LI×Int} (c:m_jh b n f=some out) (x:imm Zt d.v n∈mu) (a:St w0 mu rs w):
  Calls prog 194 #[.agg #[.bool b,d.v],iV f] w (fun e w=>∃ (o:Hdr),e=.returned (.tuple #[.agg #[.bool out.1,o.v],iV out.2.2])∧St w0 (imm Zt o.v out.2.1::mu) rs w):=by
 refine en func194 rfl ntmps194 fun Q t=>?_
 refine z 2 9 ?_;intro j w a k w a
 refine jW 3 [1,2,4] [(14,.bool ((decide (f < (-1048576))) || (decide ((1048576:Int) < f))))] (St w0 mu (box j 63 [.bool b,d.v]::box k 63 [.bool false,hnil.v]::rs)) rfl (fun p=>?_) ?_
 ·refine gB 11 rfl (fun l=>?_) fun l=>?_
  ·exact q 3 rfl (p _ _ (a.k10) (Z0 (S0 Value.bool (orT l)) rfl))
  ·exact q 3 rfl (p _ _ (a.k10) (Z0 (S0 Value.bool (orF l)) rfl))
 intro g w a
 refine v 37 ?_
 refine ⟨fun _ c _ a=>?_,fun _ _ _ _ _ _ w a=>⟨vt,fun _ _ r _ c u w a=>?_⟩⟩
 ·cases c
  replace a:=a.immNh Zt
  exact t _ _ _ (M3 results194 (V2 rfl rfl a R0 Q1 rfl) ⟨rfl,rfl⟩ ⟨_,rfl,(a.k19)⟩)
 ·refine jW 2 [2,4,7] [(38,.bool (b && r.2))] (St w0 (imm Zt u.v r.1::mu) (box j 63 [.bool b,d.v]::box k 63 [.bool false,hnil.v]::rs)) rfl (fun s=>?_) ?_
  ·refine gB 36 rfl (fun m=>?_) fun m=>?_
   ·exact q 2 rfl (s _ _ (a.facts (U0 F0 (M0 (M0 M1)))) (Z0 (S0 Value.bool (j5 m)) rfl))
   ·exact q 2 rfl (s _ _ (a.facts (U0 F0 (M0 (M0 M1)))) (Z0 (S0 Value.bool (m5 m)) rfl))
  intro g w a
  refine q 2 rfl ?_
  refine jC (LI×Hdr) [2,4] (fun (h,i)=>[(7,i.v)]) (fun (h,i) w=>St w0 (imm Zt i.v h::mu) (box j 63 [.bool b,d.v]::box k 63 [.bool false,hnil.v]::rs) w∧m_jg b h=some out) rfl ?_ ?_
  ·rintro ⟨h,i⟩ g w ⟨a,c⟩
   exact vx
  exact vx
instance:CL prog 194 (type_of% @Sk):=⟨@Sk⟩
theorem Qk {i:Bool} {j:LI} {k:Int} {l:Hdr} {out:Bool×LI} (c:m_jj i j k=some out) (r:imm Zt l.v j∈mu) (a:St w0 mu rs w):
  Calls prog 151 #[.agg #[.bool i,l.v],iV k] w (rb w0 mu rs out):=by
 refine en func151 rfl ntmps151 fun Q t=>?_
 refine z 2 4 ?_;intro m w a n w a
 obtain ⟨⟨o,p,q⟩,s,c⟩:=bs c
 refine lpN Hdr Hdr s [2,4] (fun (d,e,f) b=>[(1,iV d)]) (fun (d,e,f) b=>St w0 (imm Zt b.v f::mu) (box m 63 [.bool e,b.v]::box n 63 [.bool false,hnil.v]::rs)) (fun | (o,p,q),h=>(.exit 0,[(1,iV o)],St w0 (imm Zt h.v q::mu) (box m 63 [.bool p,h.v]::box n 63 [.bool false,hnil.v]::rs))) rfl _ ((a.k10).facts (U0 r M1)) rfl ?_ ?_
 ·clear a
  rintro h g w a
  exact vx
 rintro ⟨d,e,f⟩ b g w u a c
 exact vx
instance:CL prog 151 (type_of% @Qk):=⟨@Qk⟩
theorem qi {p:Prop}(h:p:=by exact f _ _ _ (M3 results91 (V2 rfl rfl a R0 J3 rfl) ⟨rfl,rfl⟩ ⟨_,rfl,((a.k1b).facts (U0 F0 (M0 (M0 M1))))⟩)):p:=h
theorem ub {p:Prop}(h:p:=by
  refine q 2 rfl ?_
  cases c
  exact xo a):p:=h
theorem Pk {h i:Bool} {m:LI} {b:Int} {j:Hdr} {out:Bool×Bool×LI×Int×Bool} (c:m_jk h i m b=some out) (C:imm Zt j.v m∈mu) (D:globF∈mu) (a:St w0 mu rs w):
  Calls prog 91 #[.agg #[.bool h,.bool i,j.v,iV b]] w (fun e w=>∃ (n:Hdr),e=.returned (.tuple #[.agg #[.bool out.1,.bool out.2.1,n.v,iV out.2.2.2.1],.bool out.2.2.2.2])∧St w0 (imm Zt n.v out.2.2.1::mu) rs w):=by
 refine en func91 rfl ntmps91 fun Q f=>?_
 refine z 3 2 ?_;intro r w a s w a
 refine cJ c (fun t c=>?_) fun t c=>?_
 ·refine z 2 5 ?_;intro E F c w a w a
  cases c
  replace a:=a.immNh Zt
  exact f _ _ _ (M3 results91 (V2 rfl rfl a R0 J3 rfl) ⟨rfl,rfl⟩ ⟨_,rfl,(a.k19)⟩)
 ·refine z 6 3 ?_;intro o G c p w a u w a w a H I c w a
  refine cI c (fun x c=>?_) fun x c=>?_
  ·refine z 2 5 ?_;intro w a
   cases c
   replace a:=a.immNh Zt
   exact qi
  ·refine z 2 5 ?_;intro J K c w a
   refine bE c fun L N c=>bE c fun k d c=>?_
   refine jN Unit [1,2,4,5] (fun _=>[(30,.bool k)]) (fun _=>St w0 (imm Zt p.v o.2::mu) (box r 65 [.bool h,.bool i,j.v,iV b]::box s 65 [.bool false,.bool false,hnil.v,iV 0]::box u 63 [.bool o.1,p.v]::rs)) rfl ?_ ?_
   ·rcases Z4 d with ⟨l,d⟩ | ⟨l,d⟩
    ·have y:=U2 d
     refine dS [3] 1 V0 ?_
     replace a:=a.drew
     refine z 3 0 ?_;intro w a
     exact dU (Dw 8176 3 (qR 3 rfl (rK 24 rfl (dT l) (qR 5 rfl (rQ rfl (pt_ (.bool k) e0 rfl (eqv y rfl)) (Rn (qS rfl (sY rfl (lb_ (iV b) O_3 e0 a R2) QSn)) (jr () (a.k18))))))))
    ·have A:=U2 d
     refine dS [3] 1 V0 ?_
     replace a:=a.drew
     refine z 3 0 ?_;intro w a
     exact dU (Dw 8176 3 (qR 3 rfl (rK 24 rfl (dF l) (qR 1 rfl (rQ rfl (lb_ (iV b) O_3 e0 a R2) (qR 3 rfl (rQ rfl (pf_ (.bool k) e0 rfl (eqv A e0)) (Rn (qS rfl (sY rfl (lb_ (iV b) O_3 e0 a R2) QSn)) (jr () (a.k18))))))))))
   rintro _ g w a
   refine q 1 rfl ?_
   refine cJ c (fun B c=>?_) fun B c=>?_
   ·refine z 2 5 ?_;intro O R c w a w a
    cases c
    replace a:=a.immNh Zt
    exact qi
   ·refine q 3 rfl (bE c fun S T c=>dS [2,8,9] 3 V0 ?_)
    replace a:=a.drew
    refine z 7 2 ?_;intro U w a w a
    cases c
    exact qi
instance:CL prog 91 (type_of% @Pk):=⟨@Pk⟩
theorem Ok {b:Bool} {d:LI} {e:Int} {f:Hdr} {out:Bool×Bool×LI×Int} (c:m_jl b d e=some out) (g:imm Zt f.v d∈mu) (h:globF∈mu) (a:St w0 mu rs w):
  Calls prog 96 #[.agg #[.bool b,f.v],iV e] w (rd w0 mu rs out):=by
 exact en func96 rfl ntmps96 fun Q i=>vx
instance:CL prog 96 (type_of% @Ok):=⟨@Ok⟩
theorem E6 {b:Int} {out:Bool×Bool×LI×Int} (c:m_jo b=some out) (e:globF∈mu) (a:St w0 mu rs w):
  Calls prog 44 #[.int .u64 b] w (rd w0 mu rs out):=by
 refine en func44 rfl ntmps44 fun Q d=>?_
 refine v 0 ?_
 refine fun _ _ _ _ _ _ _ a=>⟨fun _ c _ a=>?_,vt⟩
 cases c
 replace a:=a.immNh Zt
 exact d _ _ _ (X1 results44 (V2 rfl rfl a R0 J3 rfl) ⟨_,rfl,(a.k14)⟩)
instance:CL prog 44 (type_of% @E6):=⟨@E6⟩
theorem Kg {j b:Int} {L N O R:LI} {h k l S:Hdr} {out:L2×(List (Option (List (Int×(Bool×Bool×LI×Int)))))×Int} (c:m_jt j b L N O R=some out) (o:imm I1 h.v L∈mu) (t:imm I1 k.v N∈mu) (x:imm iu l.v O∈mu) (T:imm I1 S.v R∈mu) (b1:globF∈mu) (a:St w0 mu rs w):
  Calls prog 33 #[.agg #[iV j,iV b,h.v,k.v,l.v],S.v] w (fun e w=>∃ (U:Nat) (V W:Hdr) (X:MH),e=.returned (.tuple #[(pB U),iV out.2.2])∧St w0 (imm S1 V.v out.1::mu) (row 127 rM W.v X::famM .i64 (rP rB (rP rB (rP (rS Zt) I1))) X out.2.1::box U 90 [iV b,V.v,W.v]::rs) w):=by
 refine en func33 rfl ntmps33 fun Q b2=>q 2 rfl (yb (W5 (vals:=[iV j,iV b,h.v,k.v,l.v]) a e0 rfl) fun p w a=>q 7 rfl (y (A1 [iV j,iV b,h.v,k.v,l.v] E5 e0 a R0) (bE c fun e2 b3 c=>cZ (Xd b3 o t x a) fun w a=>q 9 rfl ?_)))
 refine cIn c (fun b4 c=>?_) fun b4 c=>?_
 ·refine q 6 rfl (y (lb_ (iV j) O_3 e0 a R0) (q 1 rfl (y (lb_ (iV b) O_3 e0 a R0) (q 3 rfl ?_))))
  refine cIn c (fun b5 c=>?_) fun b5 c=>?_
  ·refine q 6 rfl (y (lb_ (iV b) O_3 e0 a R0) (bE c fun r b6 c=>cO (Og b6 T a) fun s w a=>q 14 rfl ?_))
   refine cJn c (fun b7 c=>?_) fun b7 c=>?_
   ·refine q 4 rfl (y (A1 [iV j,iV b,h.v,k.v,l.v] E5 e0 a R1) (bE c fun Z b8 c=>cR_ (Sg b8 o t x a) fun b9 c0 c1 w a=>q 3 rfl (yb (rAl a Ef) fun e3 w a=>sB rfl a E5 fun w a=>q 5 rfl (y (A1 [iV Z.1,iV Z.2.1,b9.v,c0.v,c1.v] E5 e0 a R0) (bE c fun e4 c2 c=>?_)))))
    replace a:=(((((a.k10).fz).k10).fz).k10).fz
    refine cO (Yd c2 F2 F1 F0 a) fun c3 w a=>q 3 rfl (yb (rAl a Df) fun e5 w a=>sB rfl a Z3 fun w a=>q 5 rfl (y (A1 [c3.v] Z3 e0 a R0) (bE c fun n c4 c=>q 1 rfl ?_)))
    replace a:=(a.k10).fz
    refine cO (Vd c4 F0 (F_4 T) a) fun f w a=>?_
    replace a:=a.fz
    refine q 3 rfl (sB rfl a Z3 fun w a=>bE c fun e6 c5 c=>q 3 rfl (dS [5,7,8] 3 V0 ?_))
    replace a:=a.drew
    refine D1 31 0 5 rfl (qR 1 rfl (rQ rfl (lb_ (iV b) O_3 e0 a R3) (rQ rfl (A1 [f.v] Z3 e0 a R0) (qR 1 rfl (rQ rfl (lb_ (iV b) O_3 e0 a R3) (Rn QSn ?_))))))
    obtain ⟨c6,em29,c7⟩:=G5 c5 (none:Option Nat)
    refine LH wn (rMk a I5 e0 c7) fun d w a=>?_
    replace a:=(a.mfReps .i64 (rP rB (rP rB (rP (rS Zt) I1))) c6).k10
    rw [← em29] at a
    refine dU (D1 64 7 7 rfl (rQ rfl (D6 (us:=[iV b,f.v,d.v]) [(0,iV b),(1,.agg #[f.v]),(2,d.v)] Ms (bp3 e0 e0 e0) rfl) (Rn (qS rfl (sY rfl (lb_ (iV b) O_3 e0 a R5) (sY rfl (A1 [f.v] Z3 e0 a R2) QSn))) (LB wn (W5 (vals:=[iV b,f.v,d.v]) a e0 rfl) fun m w a=>dU (D1 0 0 8 rfl (Rn QSn (Ly wn (a_ (pB m) e0) (dU (Dw 0 0 (Rn QSn (qx 7 rfl ?_)))))))))))
    refine y (lb_ d.v U3 e0 a R0) (y (Ou I5 e0 a rO1 R2) (bE c fun a0 c8 c=>q 4 rfl ?_))
    refine lpN MH MH c8 [2,7,13,67] (fun (D,F) z=>[(68,iV F)]) (fun (D,F) z=>St w0 (imm S1 f.v n.1::mu) (box p 27 [iV j,iV b,h.v,k.v,l.v]::row 3 I1 s.v r.1::row 127 rM d.v z::famM .i64 (rP rB (rP rB (rP (rS Zt) I1))) z D::box m 90 [iV b,f.v,d.v]::rs)) (fun | a0,i=>(.exit 0,[],St w0 (imm S1 f.v n.1::mu) (box p 27 [iV j,iV b,h.v,k.v,l.v]::row 3 I1 s.v r.1::row 127 rM d.v i::famM .i64 (rP rB (rP rB (rP (rS Zt) I1))) i a0::box m 90 [iV b,f.v,d.v]::rs))) rfl _ ((a.k1c).facts (U0 F0 (M0 (M0 (M0 (M0 (M0 M1))))))) rfl ?_ ?_
    ·clear a
     rintro i g w a
     refine q 6 rfl (y (lb_ (iV b) O_3 e0 a R0) (bE c fun a1 c9 c=>q 4 rfl ?_))
     refine lp c9 [2,7,13,80] (fun (G,H)=>[(81,iV H)]) (fun (G,H)=>St w0 (imm S1 f.v n.1::mu) (box p 27 [iV j,iV b,h.v,k.v,l.v]::row 3 I1 s.v r.1::row 127 rM d.v i::famM .i64 (rP rB (rP rB (rP (rS Zt) I1))) i G::box m 90 [iV b,f.v,d.v]::rs)) (fun | a1=>(.exit 2,[],St w0 (imm S1 f.v n.1::mu) (row 127 rM d.v i::famM .i64 (rP rB (rP rB (rP (rS Zt) I1))) i a1::box m 90 [iV b,f.v,d.v]::rs))) rfl a rfl ?_ ?_
     ·clear a
      intro g w a
      refine q 10 rfl ?_
      cases c
      exact b2 _ _ _ (M3 results33 ⟨rfl,rfl⟩ ⟨rfl,rfl⟩ ⟨_,_,_,_,rfl,a⟩)
     rintro ⟨G,H⟩ g w e7 a c
     refine q 6 rfl (cI c (fun d0 c=>?_) fun d0 c=>?_)
     ·refine q 13 rfl (y (lb_ h.v P0 e0 a R0) (bE c fun e8 a2 c=>q 1 rfl (y (yIa N0 e0 e0 a (rdI (mtF o)) a2) (y (yI O_3 e0 a (rdI (mtF o)) a2) (bE c fun a3 d1 c=>q 4 rfl ?_)))))
      refine lp d1 [2,7,13,15,80,81] (fun (I,A)=>[(16,iV A)]) (fun (I,A)=>St w0 (imm S1 f.v n.1::mu) (box p 27 [iV j,iV b,h.v,k.v,l.v]::row 3 I1 s.v r.1::row 127 rM d.v i::famM .i64 (rP rB (rP rB (rP (rS Zt) I1))) i I::box m 90 [iV b,f.v,d.v]::rs)) (fun | a3=>(.exit 4,[],St w0 (imm S1 f.v n.1::mu) (box p 27 [iV j,iV b,h.v,k.v,l.v]::row 3 I1 s.v r.1::row 127 rM d.v i::famM .i64 (rP rB (rP rB (rP (rS Zt) I1))) i a3::box m 90 [iV b,f.v,d.v]::rs))) rfl a rfl ?_ ?_
      ·clear a
       intro g w a
       refine q 7 rfl ?_
       cases c
       exact lo a
      rintro ⟨I,A⟩ g w d2 a c
      refine q 5 rfl (y (lb_ h.v P0 e0 a R0) (bE c fun e9 a4 c=>q 2 rfl (y (yIa N0 e0 e0 a (rdI (mtF o)) a4) (y (yI O_3 e0 a (rdI (mtF o)) a4) (q 3 rfl (cI c (fun d3 c=>?_) fun d3 c=>?_))))))
      ·refine q 7 rfl (y (lb_ k.v P0 e0 a R0) (bE c fun f0 a5 c=>q 1 rfl (y (yIa N0 e0 e0 a (rdI (mtF t)) a5) (y (yI O_3 e0 a (rdI (mtF t)) a5) (q 10 rfl ?_)))))
       refine jC (List (Option (List (Int×(Bool×Bool×LI×Int))))) [2,7,13,15,16,80,81] (fun B=>[]) (fun B w=>St w0 (imm S1 f.v n.1::mu) (box p 27 [iV j,iV b,h.v,k.v,l.v]::row 3 I1 s.v r.1::row 127 rM d.v i::famM .i64 (rP rB (rP rB (rP (rS Zt) I1))) i B::box m 90 [iV b,f.v,d.v]::rs) w∧m_jp A B=some d2) rfl ?_ ?_
       ·rintro B g w ⟨a,c⟩
        refine q 7 rfl ?_
        cases c
        exact lo a
       refine cI c (fun d4 c=>?_) fun d4 c=>?_
       ·refine q 1 rfl (bE c fun d5 a6 c=>bE c fun d6 C c=>dS [8,9] 2 V0 ?_)
        replace a:=a.drew
        refine D1 255 0 8 rfl (qR 2 rfl (rQ rfl (yIa N0 e0 e0 a rO1 a6) (rQ rfl (yI O_3 e0 a rO1 a6) (qR 2 rfl (rQ rfl (yIa N0 e0 e0 a rO1 C) (rQ rfl (yI O_3 e0 a rO1 C) (Rn QSn (Ly wn (a_ (iV d5) e0) (dU (D1 0 240 9 rfl (Rn (qS rfl (qS rfl (sY rfl (yIa N0 e0 e0 a rO1 C) (sY rfl (yI O_3 e0 a rO1 C) QSn)))) (Ly wn (a_ (iV d6) e0) (dU ?_)))))))))))))
        refine Dw 0 0 (Rn QSn (bE c fun f1 a7 c=>bE c fun f2 a8 c=>bE c fun J d7 c=>bE c fun f3 d8 c=>qx 1 rfl (dS [17,18] 2 V0 ?_)))
        replace a:=a.drew
        refine D1 131071 0 17 rfl (qR 3 rfl (rQ rfl (lb_ d.v U3 e0 a R4) (qR 3 rfl ?_)))
        obtain ⟨f4,gb258⟩:=a.mfI R3 a7
        refine rQ rfl (yIa I5 e0 e0 a rO2 gb258) (rQ rfl (yF1 k7 e0 a rO2 gb258 rfl) (qR 4 rfl (rQ rfl (lb_ l.v T3 e0 a R0) (qR 1 rfl (rQ rfl (yIa E2 e0 e0 a (rdI (mtF x)) a8) (rQ rfl (yI B5 e0 a (rdI (mtF x)) a8) (Rn QSn (kO (E6 d7 (mtF b1) a) fun d9 w a=>dU (D0 0 4095 18 rfl (Rn (qS rfl (qS rfl (qS rfl (sY rfl (lb_ d.v U3 e0 a R4) (qS rfl (qS rfl (qS rfl (sY rfl (yIa I5 e0 e0 a rO2 gb258) (sY rfl (yF1 k7 e0 a rO2 gb258 rfl) (qS rfl (qS rfl (qS rfl QSn)))))))))))) ?_))))))))))
        replace a:=a.k1d
        refine LT wn (rMup (cs:=[.bool J.1,.bool J.2.1,d9.v,iV J.2.2.2]) (a.mfoc gb258 a7) I8 e0 e0 e0 (mkP mkB (mkP mkB (mkP (mkS F0) mkI)))) fun w a=>?_
        replace a:=a.munf gb258 d8
        exact Dw 0 0 (Rn QSn (qx 0 rfl (jx _ ⟨((a.k1e).facts (U0 F1 (M0 (M0 M1)))),c⟩)))
       ·exact q 1 rfl (jx _ ⟨a,c⟩)
      ·exact ub
     ·refine q 2 rfl ?_
      cases c
      exact xo (a.k1f)
    rintro ⟨D,F⟩ z g w f5 a c
    refine q 6 rfl (cI c (fun e1 c=>?_) fun e1 c=>?_)
    ·refine q 14 rfl (y (lb_ d.v U3 e0 a R4) (q 1 rfl (yg (rMm (ik:=.i64) (E:=(rP rB (rP rB (rP (rS Zt) I1)))) a) fun a9 w a=>bE c fun f6 b0 c=>?_)))
     obtain ⟨f7,K⟩:=V5 (u:=some a9) b0 (a.mfL (mtR (mtR (mtR (mtR mhR)))))
     refine y (yIs I5 e0 e0 a rO3 K) ?_
     replace a:=a.k1d
     refine yt (V1 (cs:=[.map (some a9)]) a k7 rfl e0 e0 rfl (mkF rfl) K) fun w a=>?_
     replace a:=(a.k1g).mfput K b0
     refine q 7 rfl ?_
     cases c
     exact ln _ (a.k1h)
    ·refine q 2 rfl ?_
     cases c
     exact lx _ a
   ·cases c
  ·cases c
 ·cases c
instance:CL prog 33 (type_of% @Kg):=⟨@Kg⟩
theorem Nk {k:Int} {out:LI×LI} (c:m_jv k=some out) (a:St w0 mu rs w):
  Calls prog 141 #[iV k] w (fun e w=>∃ (l:Nat) (m n:Hdr),e=.returned (pB l)∧St w0 mu (row 3 I1 m.v out.1::row 3 I1 n.v out.2::box l 189 [m.v,n.v]::rs) w):=by
 refine en func141 rfl ntmps141 fun Q x=>bE c fun y o c=>bE c fun A p c=>q 6 rfl ?_
 refine jN (Nat×Hdr×Hdr) [0] (fun (f,b,d)=>[(3,(pB f))]) (fun (f,b,d)=>St w0 mu (row 3 I1 b.v y::row 3 I1 d.v A::box f 189 [b.v,d.v]::rs)) rfl ?_ ?_
 ·refine dS [1,3,5,6] 4 V0 ?_
  replace a:=a.drew
  refine Dm 5 0 [1,3] (qR 2 rfl (Rn QSn ?_))
  refine La1 rfl ?_ (La1 rfl ?_ LAn)
  ·refine LH wn (rMk a N0 e0 o) fun B w a=>dU (D1 0 4 3 rfl (Rn (qS rfl QSn) (LH wn (rMk a N0 e0 p) fun C w a=>dU ?_)))
   refine z 3 0 ?_;intro D w a
   exact dU (Dw 0 0 (Rn QSn (jr (_,_,_) (a.k18))))
  ·refine LH wn (rMk a N0 e0 p) fun C w a=>dU (D1 0 1 1 rfl (Rn (qS rfl QSn) (LH wn (rMk a N0 e0 o) fun B w a=>dU ?_)))
   refine z 3 0 ?_;intro D w a
   exact dU (Dw 0 0 (Rn QSn (jr (_,_,_) (a.k1i))))
 rintro ⟨f,b,d⟩ g w a
 refine q 9 rfl ?_
 obtain ⟨⟨r,s⟩,E,c⟩:=bs c
 refine lp E [3,11] (fun (h,i,j)=>[(12,iV j)]) (fun (h,i,j)=>St w0 mu (row 3 I1 b.v h::row 3 I1 d.v i::box f 189 [b.v,d.v]::rs)) (fun | (r,s)=>(.exit 0,[],St w0 mu (row 3 I1 b.v r::row 3 I1 d.v s::box f 189 [b.v,d.v]::rs))) rfl a rfl ?_ ?_
 ·clear a
  intro g w a
  refine q 9 rfl ?_
  cases c
  exact x _ _ _ (X1 results141 ⟨rfl,rfl⟩ ⟨_,_,_,rfl,a⟩)
 rintro ⟨h,i,j⟩ g w G a c
 refine q 6 rfl (cI c (fun F c=>?_) fun F c=>?_)
 ·refine q 10 rfl (bE c fun H t c=>bE c fun I u c=>dS [11,13] 2 V0 ?_)
  replace a:=a.drew
  refine D0 2047 0 11 rfl (qR 3 rfl (rQ rfl (lb_ b.v P0 e0 a R2) (qR 4 rfl (rQ rfl (lb_ d.v P0 e0 a R2) (qR 1 rfl (rQ rfl (yIs N0 e0 e0 a rO0 t) (Rn QSn (LT wn (V1 (cs:=[iV (-1)]) a O_3 rfl e0 rfl rfl mkI t) fun w a=>D0 4096 512 13 rfl (rQ rfl (yIs N0 e0 e0 a rO1 u) (Rn (qS rfl QSn) ?_))))))))))
  replace a:=a.k10
  refine LT wn (V1 (cs:=[iV (-1)]) a O_3 rfl e0 rfl rfl mkI u) fun w a=>?_
  refine z 1 6 ?_
  cases c
  exact lo (a.k1j)
 ·exact ub
instance:CL prog 141 (type_of% @Nk):=⟨@Nk⟩
theorem Kk {n o:LI} {p h:Int} {f:Nat} {b d:Hdr} {out:LI×LI} (c:m_jy n o p h=some out) (a:St w0 mu (box f 189 [b.v,d.v]::row 3 I1 b.v n::row 3 I1 d.v o::rs) w):
  Calls prog 142 #[(pB f),iV p,iV h] w (fun e w=>e=.returned (.tuple #[])∧St w0 mu (row 3 I1 b.v out.1::row 3 I1 d.v out.2::box f 189 [b.v,d.v]::rs) w):=by
 refine en func142 rfl ntmps142 fun Q B=>q 1 rfl ?_
 obtain ⟨⟨r,s⟩,C,c⟩:=bs c
 refine lp C [0,2] (fun (j,k,i)=>[(1,iV i)]) (fun (j,k,i)=>St w0 mu (row 3 I1 b.v j::row 3 I1 d.v k::box f 189 [b.v,d.v]::rs)) (fun | (r,s)=>(.exit 0,[],St w0 mu (row 3 I1 b.v r::row 3 I1 d.v s::box f 189 [b.v,d.v]::rs))) rfl (a.k1i) rfl ?_ ?_
 ·clear a
  intro g w a
  refine q 1 rfl ?_
  cases c
  exact B _ _ _ (p9 results142 ⟨rfl,a⟩)
 rintro ⟨j,k,i⟩ g w D a c
 refine q 6 rfl ?_
 refine jW 4 [0,1,2] [(13,.bool ((!(decide (i=(-1)))) && (decide (i < h))))] (St w0 mu (row 3 I1 b.v j::row 3 I1 d.v k::box f 189 [b.v,d.v]::rs)) rfl (fun t=>?_) ?_
 ·refine gB 9 rfl (fun m=>?_) fun m=>?_
  ·exact q 4 rfl (t _ _ a (Z0 (S0 Value.bool (j5 m)) rfl))
  ·exact q 4 rfl (t _ _ a (Z0 (S0 Value.bool (m5 m)) rfl))
 intro g w a
 refine q 2 rfl ?_
 refine cJ c (fun E c=>?_) fun E c=>?_
 ·refine z 4 2 ?_;intro F H c
  refine bE c fun u x c=>y (yIs N0 e0 e0 a rO1 x) ?_
  replace a:=a.k10
  refine yt (V1 (cs:=[iV h]) a O_3 rfl e0 e0 rfl mkI x) fun w a=>q 9 rfl ?_
  refine jC LI [0,2,6] (fun l=>[]) (fun l w=>St w0 mu (row 3 I1 b.v l::row 3 I1 d.v u::box f 189 [b.v,d.v]::rs) w∧m_jw u F l=some D) rfl ?_ ?_
  ·rintro l g w ⟨a,c⟩
   refine q 6 rfl ?_
   cases c
   exact lo a
  refine cI c (fun G c=>?_) fun G c=>?_
  ·refine z 1 2 ?_
   refine bE c fun I A c=>y (yIs N0 e0 e0 a rO1 A) ?_
   replace a:=a.k10
   exact yt (V1 (cs:=[iV h]) a O_3 rfl e0 e0 rfl mkI A) fun w a=>q 1 rfl (jx _ ⟨a,c⟩)
  ·exact q 1 rfl (jx _ ⟨(a.k1j),c⟩)
 ·exact ub
instance:CL prog 142 (type_of% @Kk):=⟨@Kk⟩
theorem Qd {n:L2} {o:Hdr} {out:LI×Int} (c:m_j1 n=some out) (u:imm S1 o.v n∈mu) (a:St w0 mu rs w):
  Calls prog 82 #[.agg #[o.v]] w (fun e w=>∃ (p:Hdr),e=.returned (.tuple #[p.v,iV out.2])∧St w0 mu (row 3 I1 p.v out.1::rs) w):=by
 refine en func82 rfl ntmps82 fun Q x=>?_
 refine v 0 ?_
 refine fun _ _ _ _ _ _ w a=>⟨fun _ _ _ _ c f b d w a=>?_,fun _ c=>?_⟩
 ·obtain ⟨⟨q,r⟩,A,c⟩:=bs c
  refine lp A [5,20,21] (fun (h,i,j)=>[(22,iV j)]) (fun (h,i,j)=>St w0 mu (row 3 I1 b.v h::row 3 I1 d.v i::box f 189 [b.v,d.v]::rs)) (fun | (q,r)=>(.exit 0,[],St w0 mu (row 3 I1 b.v q::row 3 I1 d.v r::box f 189 [b.v,d.v]::rs))) rfl (a.k1k) rfl ?_ ?_
  ·clear a
   intro g w a
   exact vx
  rintro ⟨h,i,j⟩ g w F a c
  refine v 0 ?_
  refine ⟨fun _ _ B C c=>?_,vt⟩
  obtain ⟨D,a⟩:=iLs a u C
  refine y (yCt P0 e0 a F1 rfl) ?_
  refine z 1 4 ?_
  obtain ⟨⟨s,t⟩,E,c⟩:=bs c
  refine lp E [5,6,20,21,22,27,28] (fun (k,l,m)=>[(29,iV m)]) (fun (k,l,m)=>St w0 (imm I1 D.v B::mu) (row 3 I1 b.v k::row 3 I1 d.v l::box f 189 [b.v,d.v]::rs)) (fun | (s,t)=>(.exit 2,[],St w0 mu (row 3 I1 b.v s::row 3 I1 d.v t::box f 189 [b.v,d.v]::rs))) rfl (a.facts (U0 F0 (M0 (M0 M1)))) rfl ?_ ?_
  ·clear a
   intro g w a
   exact vx
  rintro ⟨k,l,m⟩ g w G a c
  exact vx
 ·cases c
  replace a:=a.rowNh 3 I1
  exact x _ _ _ (M3 results82 ⟨rfl,rfl⟩ ⟨rfl,rfl⟩ ⟨_,rfl,(a.k11)⟩)
instance:CL prog 82 (type_of% @Qd):=⟨@Qd⟩
theorem Od {B:L2} {C:LI} {r:Int} {D E:Hdr} {out:LI} (c:m_j6 B C r=some out) (L:imm S1 D.v B∈mu) (a5:imm I1 E.v C∈mu) (a:St w0 mu rs w):
  Calls prog 83 #[.agg #[D.v],E.v,iV r] w (ro w0 mu rs 3 I1 out):=by
 refine en func83 rfl ntmps83 fun Q N=>?_
 refine z 1 7 ?_;intro a6 w a
 refine bE c fun a7 O c=>yh (rMk a K3 e0 O) fun b w a=>bE c fun a8 F c=>q 7 rfl (y (yIs K3 e0 e0 a rO0 F) (yt (V1 (cs:=[.bool true]) a O_4 rfl e0 rfl rfl mkB F) fun w a=>?_))
 refine z 2 0 ?_;intro f R c
 obtain ⟨h,a⟩:=iLs a L R
 refine y (yCt P0 e0 a F1 rfl) ?_
 refine z 1 4 ?_
 refine bE c fun k S c=>?_
 refine lp S [1,2,7,23,24] (fun (s,t)=>[(25,iV t)]) (fun (s,t)=>St w0 (imm I1 h.v f::mu) (row 4 rB b.v s::rs)) (fun | k=>(.exit 0,[],St w0 mu (row 4 rB b.v k::rs))) rfl ((a.k11).facts (U0 F0 (M0 (M0 M1)))) rfl ?_ ?_
 ·clear a
  intro g w a
  refine z 1 4 ?_
  refine bE c fun G T c=>?_
  replace a:=a.rowNh 3 I1
  refine lpN Hdr Hdr T [51,52] (fun (u,d) m=>[(10,m.v),(53,iV d)]) (fun (u,d) m=>St w0 mu (row 3 I1 m.v u::row 4 rB b.v k::rs)) (fun | G,x=>(.exit 4,[(10,x.v)],St w0 mu (row 3 I1 x.v G::rs))) rfl _ a rfl ?_ ?_
  ·clear a
   rintro x g w a
   refine q 9 rfl ?_
   cases c
   exact N _ _ _ (X1 results83 ⟨rfl,rfl⟩ ⟨_,rfl,a⟩)
  rintro ⟨u,d⟩ m g w U a c
  refine q 6 rfl (cI c (fun V c=>?_) fun V c=>?_)
  ·refine z 1 0 ?_;intro a9 W c
   refine y (yB O_4 e0 a rO1 W) (q 9 rfl ?_)
   refine jC (LI×Hdr) [51,52,53] (fun (o,p)=>[(10,p.v)]) (fun (o,p) w=>St w0 mu (row 3 I1 p.v o::row 4 rB b.v k::rs) w∧m_j2 d o=some U) rfl ?_ ?_
   ·rintro ⟨o,p⟩ g w ⟨a,c⟩
    refine q 6 rfl ?_
    cases c
    exact ln _ a
   refine cJ c (fun X c=>?_) fun X c=>?_
   ·refine q 3 rfl (yh (rLt (n:=1) (l:=[d]) a N0 [iV d] (bp1 e0) rfl rfl (J1 (cs:=[iV d]) rfl mkI L1)) fun b0 w a=>?_)
    refine z 1 2 ?_;intro b1 b2 c b3 w a
    exact jx (_,_) ⟨(a.k1m),c⟩
   ·exact q 1 rfl (jx (_,_) ⟨a,c⟩)
  ·refine q 2 rfl ?_
   cases c
   exact lx _ (a.k11)
 rintro ⟨s,t⟩ g w b4 a c
 refine q 6 rfl (cI c (fun Z c=>?_) fun Z c=>?_)
 ·refine z 2 4 ?_;intro b5 b7 c
  refine bE c fun H a0 c=>?_
  refine lp a0 [1,2,7,23,24,25] (fun (i,j)=>[(9,iV j)]) (fun (i,j)=>St w0 (imm I1 h.v f::mu) (row 4 rB b.v i::rs)) (fun | H=>(.exit 2,[],St w0 (imm I1 h.v f::mu) (row 4 rB b.v H::rs))) rfl a rfl ?_ ?_
  ·clear a
   intro g w a
   refine q 7 rfl ?_
   cases c
   exact lo a
  rintro ⟨i,j⟩ g w b8 a c
  refine q 6 rfl ?_
  refine jW 4 [1,2,7,9,23,24,25] [(35,.bool ((decide ((0:Int)≤j)) && (decide (j < r))))] (St w0 (imm I1 h.v f::mu) (row 4 rB b.v i::rs)) rfl (fun I=>?_) ?_
  ·refine gB 31 rfl (fun A=>?_) fun A=>?_
   ·exact q 4 rfl (I _ _ a (Z0 (S0 Value.bool (j5 A)) rfl))
   ·exact q 4 rfl (I _ _ a (Z0 (S0 Value.bool (m5 A)) rfl))
  intro g w a
  refine bE c fun a1 e c=>q 1 rfl ?_
  refine jW 6 [1,2,7,9,23,24,25] [(42,.bool a1)] (St w0 (imm I1 h.v f::mu) (row 4 rB b.v i::rs)) rfl (fun J=>?_) ?_
  ·refine gJ 36 e rfl (fun a2 e=>?_) fun a2 e=>?_
   ·refine q 2 rfl (bE e fun b9 a3 e=>?_)
    refine z 1 0 ?_
    refine y (yB O_4 e0 a rO0 a3) (q 2 rfl ?_)
    cases e
    exact J _ _ a rfl
   ·refine q 6 rfl ?_
    cases e
    exact J _ _ a rfl
  intro g w a
  refine q 2 rfl ?_
  refine cJ c (fun a4 c=>?_) fun a4 c=>?_
  ·refine q 7 rfl (bE c fun c0 K c=>y (yIs K3 e0 e0 a rO0 K) (yt (V1 (cs:=[.bool true]) a O_4 rfl e0 rfl rfl mkB K) fun w a=>?_))
   refine z 2 3 ?_;intro c1 c2 c
   cases c
   exact lo a
  ·exact ub
 ·refine q 2 rfl ?_
  cases c
  exact xo (a.fc)
instance:CL prog 83 (type_of% @Od):=⟨@Od⟩
theorem Jk {A:L2} {b:Hdr} {out:L2×Int} (c:m_j9 A=some out) (B:imm S1 b.v A∈mu) (a:St w0 mu rs w):
  Calls prog 74 #[.agg #[b.v]] w (fun e w=>∃ (C:Hdr) (D:List Hdr),e=.returned (.tuple #[C.v,iV out.2])∧St w0 mu (row 24 rH C.v D::fam 3 I1 D out.1::rs) w):=by
 refine en func74 rfl ntmps74 fun Q E=>q 2 rfl (yb (W5 (vals:=[b.v]) a e0 rfl) fun k w a=>q 6 rfl (y (A1 [b.v] Z3 e0 a R0) (bE c fun m L c=>cO (Qd L B a) fun o w a=>q 14 rfl ?_)))
 refine cIn c (fun N c=>?_) fun N c=>?_
 ·refine q 5 rfl (y (T1 N0 e0 a rO0) (bE c fun a2 O c=>?_))
  obtain ⟨R,em8,S⟩:=G5 O hnil
  refine yh (rMk a O7 e0 S) fun f w a=>?_
  replace a:=(a.fReps 3 I1 R).k10
  rw [← em8] at a
  refine q 7 rfl (y (T1 N0 e0 a rO2) (bE c fun F T c=>q 4 rfl ?_))
  replace a:=(a.k16).fz
  refine lpN (List Hdr) (List Hdr) T [1,4,6,22] (fun (p,d) h=>[(23,iV d)]) (fun (p,d) h=>St w0 (imm I1 o.v m.1::mu) (box k 32 [b.v]::row 24 rH f.v h::fam 3 I1 h p::rs)) (fun | F,r=>(.exit 0,[],St w0 mu (row 24 rH f.v r::fam 3 I1 r F::rs))) rfl _ (a.k16) rfl ?_ ?_
  ·clear a
   rintro r g w a
   refine q 10 rfl ?_
   cases c
   exact E _ _ _ (M3 results74 ⟨rfl,rfl⟩ ⟨rfl,rfl⟩ ⟨_,_,rfl,a⟩)
  rintro ⟨p,d⟩ h g w a3 a c
  refine q 6 rfl (cI c (fun U c=>?_) fun U c=>?_)
  ·refine q 12 rfl (y (A1 [b.v] Z3 e0 a R0) (bE c fun V W c=>q 2 rfl (cO (Od W (mtF B) F0 a) fun X w a=>y (T1 N0 e0 a rO0) (bE c fun G Z c=>q 4 rfl ?_))))
   refine lpN (List Hdr) (List Hdr) Z [1,4,6,7,22,23,29,30] (fun (s,t) i=>[(31,iV t)]) (fun (s,t) i=>St w0 (imm I1 o.v m.1::mu) (box k 32 [b.v]::row 24 rH f.v i::fam 3 I1 i s::row 3 I1 X.v V::rs)) (fun | G,x=>(.exit 2,[],St w0 (imm I1 o.v m.1::mu) (box k 32 [b.v]::row 24 rH f.v x::fam 3 I1 x G::rs))) rfl _ (a.k1n) rfl ?_ ?_
   ·clear a
    rintro x g w a
    refine q 7 rfl ?_
    cases c
    exact ln _ a
   rintro ⟨s,t⟩ i g w a4 a c
   refine q 6 rfl (cI c (fun a0 c=>?_) fun a0 c=>?_)
   ·refine q 6 rfl (bE c fun a5 H c=>y (yIa N0 e0 e0 a rO3 H) (y (yI O_3 e0 a rO3 H) (bE c fun a6 I c=>q 8 rfl ?_)))
    obtain ⟨a7,j⟩:=a.famI R2 I
    refine y (yIa O7 e0 e0 a rO1 j) (y (yF1 P0 e0 a rO1 j rfl) (q 1 rfl (yh (rLt (n:=1) (l:=[d]) a N0 [iV d] (bp1 e0) rfl rfl (J1 (cs:=[iV d]) rfl mkI L1)) fun a8 w a=>bE c fun a9 a1 c=>?_)))
    replace a:=(a.k1d).foc j I
    refine yh (rAp a N0 e0 e0 rO2 a1) fun J w a=>bE c fun b0 K c=>?_
    obtain ⟨b1,z⟩:=V5 (u:=J) K (a.famLx (mtR mhR))
    refine y (yIs O7 e0 e0 a rO4 z) ?_
    replace a:=a.k1o
    refine yt (V1 (cs:=[J.v]) a P0 rfl e0 e0 rfl (mkF rfl) z) fun w a=>?_
    replace a:=(a.k1i).unfS j z K
    refine q 7 rfl ?_
    cases c
    exact ln _ (a.k1p)
   ·refine q 2 rfl ?_
    cases c
    exact lx _ (a.k1k)
  ·refine q 2 rfl ?_
   cases c
   exact lx _ ((a.k1q).fc)
 ·refine q 9 rfl ?_
  cases c
  replace a:=((a.rowNh 24 rH).fNew 3 I1).k10
  exact E _ _ _ (M3 results74 ⟨rfl,rfl⟩ ⟨rfl,rfl⟩ ⟨_,_,rfl,(a.k1r)⟩)
instance:CL prog 74 (type_of% @Jk):=⟨@Jk⟩
theorem Jg {b:Int} {a6:L2} {p:List (Option (List (Int×(Bool×Bool×LI×Int))))} {r:Nat} {s f:Hdr} {h:MH} {out:L2×L2×(List (Option (List (Int×(Bool×Bool×LI×Int)))))×L2} (c:m_kd b a6 p=some out) (d3:imm S1 s.v a6∈mu) (a:St w0 mu (box r 90 [iV b,s.v,f.v]::row 127 rM f.v h::famM .i64 (rP rB (rP rB (rP (rS Zt) I1))) h p::rs) w):
  Calls prog 34 #[(pB r)] w (fun e w=>∃ (a7:Nat) (a8 a9:Hdr) (b0:List Hdr) (b2:Hdr) (b3:MH) (b4:Hdr) (b5:List Hdr),e=.returned (pB a7)∧St w0 (imm S1 a8.v out.1::mu) (row 127 rM f.v h::famM .i64 (rP rB (rP rB (rP (rS Zt) I1))) h p::box r 90 [iV b,s.v,f.v]::row 25 rH a9.v b0::fam 56 iu b0 out.2.1::row 127 rM b2.v b3::famM .i64 (rP rB (rP rB (rP (rS Zt) I1))) b3 out.2.2.1::row 24 rH b4.v b5::fam 3 I1 b5 out.2.2.2::box a7 132 [a8.v,a9.v,b2.v,b4.v]::rs) w):=by
 refine en func34 rfl ntmps34 fun Q c3=>?_
 refine z 2 0 ?_;intro F d4 c o d5 w a
 replace a:=a.ffz
 refine bE c fun G K c=>bE c fun H L c=>bE c fun c4 N c=>q 8 rfl ?_
 refine jN (Nat×Hdr×(List Hdr)×Hdr×MH×Hdr×(List Hdr)) [3] (fun (t,i,j,k,m,d,R)=>[(5,(pB t))]) (fun (t,i,j,k,m,d,R)=>St w0 (imm S1 o.v F.1::mu) (row 127 rM f.v h::famM .i64 (rP rB (rP rB (rP (rS Zt) I1))) h p::box r 90 [iV b,s.v,f.v]::row 25 rH i.v j::fam 56 iu j G::row 127 rM k.v m::famM .i64 (rP rB (rP rB (rP (rS Zt) I1))) m H::row 24 rH d.v R::fam 3 I1 R c4::box t 132 [o.v,i.v,k.v,d.v]::rs)) rfl ?_ ?_
 ·refine dS [5,10,15,17,18] 5 V0 ?_
  replace a:=a.drew
  refine Dm 31711 0 [5,10,15] ?_
  refine z 3 0 ?_
  refine La1 rfl ?_ (La1 rfl ?_ (La1 rfl ?_ LAn))
  ·obtain ⟨x,em12,A⟩:=G5 K hnil
   refine LH wn (rMk a J5 e0 A) fun S w a=>?_
   replace a:=(a.fReps 56 iu x).k10
   rw [← em12] at a
   refine dU (Dm 0 31681 [10,15] (Rn (qS rfl (qS rfl (qS rfl (qS rfl (sY rfl (lb_ (iV b) O_3 e0 a R2) (qS rfl (qS rfl (qS rfl (sY rfl (lb_ (iV b) O_3 e0 a R2) QSn))))))))) ?_))
   refine La1 rfl ?_ (La1 rfl ?_ LAn)
   ·obtain ⟨B,em15,C⟩:=G5 L (none:Option Nat)
    refine LH wn (rMk a I5 e0 C) fun T w a=>?_
    replace a:=(a.mfReps .i64 (rP rB (rP rB (rP (rS Zt) I1))) B).k10
    rw [← em15] at a
    refine dU (D1 0 30721 15 rfl (Rn (qS rfl (qS rfl (qS rfl (qS rfl (sY rfl (lb_ (iV b) O_3 e0 a R4) QSn))))) ?_))
    obtain ⟨D,em18,E⟩:=G5 N hnil
    refine LH wn (rMk a O7 e0 E) fun U w a=>?_
    replace a:=(a.fReps 3 I1 D).k10
    rw [← em18] at a
    refine dU ?_
    refine z 3 0 ?_;intro O w a
    exact dU (Dw 0 0 (Rn QSn (jr (_,_,_,_,_,_,_) (a.k1s))))
   ·obtain ⟨D,em18,E⟩:=G5 N hnil
    refine LH wn (rMk a O7 e0 E) fun U w a=>?_
    replace a:=(a.fReps 3 I1 D).k10
    rw [← em18] at a
    refine dU (D1 0 961 10 rfl (Rn (qS rfl (qS rfl (qS rfl (qS rfl (sY rfl (lb_ (iV b) O_3 e0 a R4) QSn))))) ?_))
    obtain ⟨B,em15,C⟩:=G5 L (none:Option Nat)
    refine LH wn (rMk a I5 e0 C) fun T w a=>?_
    replace a:=(a.mfReps .i64 (rP rB (rP rB (rP (rS Zt) I1))) B).k10
    rw [← em15] at a
    refine dU ?_
    refine z 3 0 ?_;intro O w a
    exact dU (Dw 0 0 (Rn QSn (jr (_,_,_,_,_,_,_) (a.k1t))))
  ·obtain ⟨B,em15,C⟩:=G5 L (none:Option Nat)
   refine LH wn (rMk a I5 e0 C) fun T w a=>?_
   replace a:=(a.mfReps .i64 (rP rB (rP rB (rP (rS Zt) I1))) B).k10
   rw [← em15] at a
   refine dU (Dm 0 30751 [5,15] (Rn (qS rfl (qS rfl (qS rfl (qS rfl (sY rfl (lb_ (iV b) O_3 e0 a R2) (qS rfl (qS rfl (qS rfl (sY rfl (lb_ (iV b) O_3 e0 a R2) QSn))))))))) ?_))
   refine La1 rfl ?_ (La1 rfl ?_ LAn)
   ·obtain ⟨x,em12,A⟩:=G5 K hnil
    refine LH wn (rMk a J5 e0 A) fun S w a=>?_
    replace a:=(a.fReps 56 iu x).k10
    rw [← em12] at a
    refine dU (D1 0 30721 15 rfl (Rn (qS rfl (qS rfl (qS rfl (qS rfl (sY rfl (lb_ (iV b) O_3 e0 a R4) QSn))))) ?_))
    obtain ⟨D,em18,E⟩:=G5 N hnil
    refine LH wn (rMk a O7 e0 E) fun U w a=>?_
    replace a:=(a.fReps 3 I1 D).k10
    rw [← em18] at a
    refine dU ?_
    refine z 3 0 ?_;intro O w a
    exact dU (Dw 0 0 (Rn QSn (jr (_,_,_,_,_,_,_) (a.k1u))))
   ·obtain ⟨D,em18,E⟩:=G5 N hnil
    refine LH wn (rMk a O7 e0 E) fun U w a=>?_
    replace a:=(a.fReps 3 I1 D).k10
    rw [← em18] at a
    refine dU (D1 0 31 5 rfl (Rn (qS rfl (qS rfl (qS rfl (qS rfl (sY rfl (lb_ (iV b) O_3 e0 a R4) QSn))))) ?_))
    obtain ⟨x,em12,A⟩:=G5 K hnil
    refine LH wn (rMk a J5 e0 A) fun S w a=>?_
    replace a:=(a.fReps 56 iu x).k10
    rw [← em12] at a
    refine dU ?_
    refine z 3 0 ?_;intro O w a
    exact dU (Dw 0 0 (Rn QSn (jr (_,_,_,_,_,_,_) (a.k1v))))
  ·obtain ⟨D,em18,E⟩:=G5 N hnil
   refine LH wn (rMk a O7 e0 E) fun U w a=>?_
   replace a:=(a.fReps 3 I1 D).k10
   rw [← em18] at a
   refine dU (Dm 0 991 [5,10] (Rn (qS rfl (qS rfl (qS rfl (qS rfl (sY rfl (lb_ (iV b) O_3 e0 a R2) (qS rfl (qS rfl (qS rfl (sY rfl (lb_ (iV b) O_3 e0 a R2) QSn))))))))) ?_))
   refine La1 rfl ?_ (La1 rfl ?_ LAn)
   ·obtain ⟨x,em12,A⟩:=G5 K hnil
    refine LH wn (rMk a J5 e0 A) fun S w a=>?_
    replace a:=(a.fReps 56 iu x).k10
    rw [← em12] at a
    refine dU (D1 0 961 10 rfl (Rn (qS rfl (qS rfl (qS rfl (qS rfl (sY rfl (lb_ (iV b) O_3 e0 a R4) QSn))))) ?_))
    obtain ⟨B,em15,C⟩:=G5 L (none:Option Nat)
    refine LH wn (rMk a I5 e0 C) fun T w a=>?_
    replace a:=(a.mfReps .i64 (rP rB (rP rB (rP (rS Zt) I1))) B).k10
    rw [← em15] at a
    refine dU ?_
    refine z 3 0 ?_;intro O w a
    exact dU (Dw 0 0 (Rn QSn (jr (_,_,_,_,_,_,_) (a.k1w))))
   ·obtain ⟨B,em15,C⟩:=G5 L (none:Option Nat)
    refine LH wn (rMk a I5 e0 C) fun T w a=>?_
    replace a:=(a.mfReps .i64 (rP rB (rP rB (rP (rS Zt) I1))) B).k10
    rw [← em15] at a
    refine dU (D1 0 31 5 rfl (Rn (qS rfl (qS rfl (qS rfl (qS rfl (sY rfl (lb_ (iV b) O_3 e0 a R4) QSn))))) ?_))
    obtain ⟨x,em12,A⟩:=G5 K hnil
    refine LH wn (rMk a J5 e0 A) fun S w a=>?_
    replace a:=(a.fReps 56 iu x).k10
    rw [← em12] at a
    refine dU ?_
    refine z 3 0 ?_;intro O w a
    exact dU (Dw 0 0 (Rn QSn (jr (_,_,_,_,_,_,_) (a.k1x))))
 rintro ⟨t,i,j,k,m,d,R⟩ g w a
 refine z 1 4 ?_
 refine bE c fun b6 c5 c=>?_
 refine lpN (List Hdr) (List Hdr) c5 [5,36,37] (fun (a1,I) V=>[(38,iV I)]) (fun (a1,I) V=>St w0 (imm S1 o.v F.1::mu) (row 127 rM f.v h::famM .i64 (rP rB (rP rB (rP (rS Zt) I1))) h p::box r 90 [iV b,s.v,f.v]::row 25 rH i.v j::fam 56 iu j G::row 127 rM k.v m::famM .i64 (rP rB (rP rB (rP (rS Zt) I1))) m H::row 24 rH d.v V::fam 3 I1 V a1::box t 132 [o.v,i.v,k.v,d.v]::rs)) (fun | b6,a2=>(.exit 0,[],St w0 (imm S1 o.v F.1::mu) (row 127 rM f.v h::famM .i64 (rP rB (rP rB (rP (rS Zt) I1))) h p::box r 90 [iV b,s.v,f.v]::row 25 rH i.v j::fam 56 iu j G::row 127 rM k.v m::famM .i64 (rP rB (rP rB (rP (rS Zt) I1))) m H::row 24 rH d.v a2::fam 3 I1 a2 b6::box t 132 [o.v,i.v,k.v,d.v]::rs))) rfl _ a rfl ?_ ?_
 ·clear a
  rintro a2 g w a
  refine q 9 rfl ?_
  cases c
  exact c3 _ _ _ (X1 results34 ⟨rfl,rfl⟩ ⟨_,_,_,_,_,_,_,_,rfl,a⟩)
 rintro ⟨a1,I⟩ V g w d6 a c
 refine q 6 rfl (cI c (fun c6 c=>?_) fun c6 c=>?_)
 ·refine z 1 0 ?_;intro b7 c7 c
  obtain ⟨b8,a⟩:=iLs a F0 c7
  refine y (yCt P0 e0 a F1 rfl) ?_
  refine z 1 4 ?_
  refine bE c fun b9 c8 c=>?_
  refine lpN (List Hdr) (List Hdr) c8 [5,6,36,37,38,43,44] (fun (a3,W) X=>[(45,iV W)]) (fun (a3,W) X=>St w0 (imm S1 o.v F.1::imm I1 b8.v b7::mu) (row 127 rM f.v h::famM .i64 (rP rB (rP rB (rP (rS Zt) I1))) h p::box r 90 [iV b,s.v,f.v]::row 25 rH i.v j::fam 56 iu j G::row 127 rM k.v m::famM .i64 (rP rB (rP rB (rP (rS Zt) I1))) m H::row 24 rH d.v X::fam 3 I1 X a3::box t 132 [o.v,i.v,k.v,d.v]::rs)) (fun | b9,a4=>(.exit 2,[],St w0 (imm S1 o.v F.1::mu) (row 127 rM f.v h::famM .i64 (rP rB (rP rB (rP (rS Zt) I1))) h p::box r 90 [iV b,s.v,f.v]::row 25 rH i.v j::fam 56 iu j G::row 127 rM k.v m::famM .i64 (rP rB (rP rB (rP (rS Zt) I1))) m H::row 24 rH d.v a4::fam 3 I1 a4 b9::box t 132 [o.v,i.v,k.v,d.v]::rs))) rfl _ (a.facts (U0 F2 (U0 F0 (M0 (M0 (M0 M1)))))) rfl ?_ ?_
  ·clear a
   rintro a4 g w a
   refine q 7 rfl ?_
   cases c
   exact ln _ a
  rintro ⟨a3,W⟩ X g w c9 a c
  refine q 6 rfl (cI c (fun d0 c=>?_) fun d0 c=>?_)
  ·refine z 2 10 ?_;intro d7 d8 c
   refine jC (L2×(List Hdr)) [5,6,36,37,38,43,44,45] (fun (Z,a0)=>[]) (fun (Z,a0) w=>St w0 (imm S1 o.v F.1::imm I1 b8.v b7::mu) (row 127 rM f.v h::famM .i64 (rP rB (rP rB (rP (rS Zt) I1))) h p::box r 90 [iV b,s.v,f.v]::row 25 rH i.v j::fam 56 iu j G::row 127 rM k.v m::famM .i64 (rP rB (rP rB (rP (rS Zt) I1))) m H::row 24 rH d.v a0::fam 3 I1 a0 Z::box t 132 [o.v,i.v,k.v,d.v]::rs) w∧m_ka W Z=some c9) rfl ?_ ?_
   ·rintro ⟨Z,a0⟩ g w ⟨a,c⟩
    refine q 6 rfl ?_
    cases c
    exact ln _ a
   refine cI c (fun d1 c=>?_) fun d1 c=>?_
   ·refine bE c fun d9 c0 c=>bE c fun e1 d2 c=>bE c fun e2 c1 c=>dS [13,14,16] 3 V0 ?_
    replace a:=a.drew
    refine D1 8191 0 13 rfl (qR 3 rfl (rQ rfl (lb_ d.v M4 e0 a R9) (qR 4 rfl (rQ rfl (lb_ d.v M4 e0 a R9) (qR 1 rfl ?_)))))
    obtain ⟨e3,J⟩:=a.famI R8 c0
    refine rQ rfl (yIa O7 e0 e0 a rO7 J) (rQ rfl (yF1 P0 e0 a rO7 J rfl) (qR 1 rfl (Rn QSn (LH wn (rLt (n:=1) (l:=[I]) a N0 [iV I] (bp1 e0) rfl rfl (J1 (cs:=[iV I]) rfl mkI L1)) fun e4 w a=>dU (D1 0 4095 14 rfl (Rn (qS rfl (qS rfl (qS rfl (sY rfl (lb_ d.v M4 e0 a R10) (qS rfl (qS rfl (qS rfl (qS rfl (sY rfl (lb_ d.v M4 e0 a R10) (qS rfl (sY rfl (yIa O7 e0 e0 a rO8 J) (sY rfl (yF1 P0 e0 a rO8 J rfl) QSn)))))))))))) ?_))))))
    replace a:=(a.k1y).foc J c0
    refine LH wn (rAp a N0 e0 e0 rO2 d2) fun c2 w a=>dU (D0 32768 31 16 rfl ?_)
    obtain ⟨e5,a5⟩:=V5 (u:=c2) c1 (a.famLx (mtR mhR))
    refine rQ rfl (yIs O7 e0 e0 a rO10 a5) (Rn (qS rfl (qS rfl (qS rfl (sY rfl (lb_ d.v M4 e0 a R11) (qS rfl QSn))))) ?_)
    replace a:=a.k1z
    refine LT wn (V1 (cs:=[c2.v]) a P0 rfl e0 e0 rfl (mkF rfl) a5) fun w a=>?_
    replace a:=(a.k1i).unfS J a5 c1
    refine z 1 0 ?_
    exact jx (_,_) ⟨(a.k20),c⟩
   ·exact q 1 rfl (jx (_,_) ⟨a,c⟩)
  ·refine q 2 rfl ?_
   cases c
   exact lx _ (a.facts (U0 F0 (M0 (M0 M1))))
 ·refine q 2 rfl ?_
  cases c
  exact lx _ a
instance:CL prog 34 (type_of% @Jg):=⟨@Jg⟩
theorem Ng {f:Int} {k:L2} {g:List (Option (List (Int×(Bool×Bool×LI×Int))))} {l m:Int} {h:Nat} {i b:Hdr} {d:MH} {out:Bool×Bool×LI×Int} (c:m_ke f k g l m=some out) (t:imm S1 i.v k∈mu) (a:St w0 mu (box h 90 [iV f,i.v,b.v]::row 127 rM b.v d::famM .i64 (rP rB (rP rB (rP (rS Zt) I1))) d g::rs) w):
  Calls prog 132 #[(pB h),iV l,iV m] w (fun e w=>∃ (n:Hdr),e=.returned (.agg #[.bool out.1,.bool out.2.1,n.v,iV out.2.2.2])∧St w0 (imm Zt n.v out.2.2.1::mu) (row 127 rM b.v d::famM .i64 (rP rB (rP rB (rP (rS Zt) I1))) d g::box h 90 [iV f,i.v,b.v]::rs) w):=by
 refine en func132 rfl ntmps132 fun Q p=>q 2 rfl (yb (rAl a Fc) fun x w a=>q 7 rfl (y (lb_ b.v U3 e0 a R1) (bE c fun z o c=>q 3 rfl ?_)))
 obtain ⟨A,gb12⟩:=a.mfI R3 o
 refine y (yIa I5 e0 e0 a rO2 gb12) (y (yF1 k7 e0 a rO2 gb12 rfl) (bE c fun j r c=>q 3 rfl ?_))
 obtain ⟨B,ly15,a⟩:=a.mlk (zs:=[.bool false,.bool false,hnil.v,iV 0]) (Gh (mtR (mtR (mtR mhR))) gb12 o) r (mkP mkB (mkP mkB (mkP He mkI)))
 replace a:=a.eltP
 obtain ⟨C,D,rfl,a⟩:=a
 replace a:=a.eltB
 obtain ⟨rfl,a⟩:=a
 replace a:=a.eltP
 obtain ⟨E,F,rfl,a⟩:=a
 replace a:=a.eltB
 obtain ⟨rfl,a⟩:=a
 replace a:=a.eltP
 obtain ⟨G,H,rfl,a⟩:=a
 replace a:=a.eltS
 obtain ⟨s,rfl,a⟩:=a
 replace a:=a.swf.eltI
 obtain ⟨rfl,a⟩:=a
 refine y (yMl (u:=.agg #[.bool j.1,.bool j.2.1,s.v,iV j.2.2.2]) ly15 I8 e0 e0) (sB rfl a J3 fun w a=>q 3 rfl ?_)
 cases c
 exact p _ _ _ (X1 results132 (V2 rfl rfl a R0 J3 rfl) ⟨_,rfl,(a.k21)⟩)
instance:CL prog 132 (type_of% @Ng):=⟨@Ng⟩
theorem Bl {n o:Bool} {p:LI} {q:Int} {r s:Bool} {t:LI} {u:Int} {x y:Hdr} {out:Bool×Bool×LI×Int×Bool×Bool×LI×Int×Bool} (c:m_kf n o p q r s t u=some out) (E:imm Zt x.v p∈mu) (F:imm Zt y.v t∈mu) (G:globF∈mu) (a:St w0 mu rs w):
  Calls prog 179 #[.agg #[.bool n,.bool o,x.v,iV q],.agg #[.bool r,.bool s,y.v,iV u]] w (fun e w=>∃ (A B:Hdr),e=.returned (.tuple #[.agg #[.bool out.1,.bool out.2.1,A.v,iV out.2.2.2.1],.agg #[.bool out.2.2.2.2.1,.bool out.2.2.2.2.2.1,B.v,iV out.2.2.2.2.2.2.2.1],.bool out.2.2.2.2.2.2.2.2])∧St w0 (imm Zt A.v out.2.2.1::imm Zt B.v out.2.2.2.2.2.2.1::mu) rs w):=by
 refine en func179 rfl ntmps179 fun Q H=>?_
 refine z 10 4 ?_;intro I w a J w a C w a D w a d K c i w a w a b L c f w a w a
 refine bE c fun h j c=>?_
 refine jN Unit [4,5] (fun _=>[(6,.bool h)]) (fun _=>St w0 (imm Zt i.v d.2.2.1::imm Zt f.v b.2.2.1::mu) (box C 65 [.bool d.1,.bool d.2.1,i.v,iV d.2.2.2.1]::box D 65 [.bool b.1,.bool b.2.1,f.v,iV b.2.2.2.1]::rs)) rfl ?_ ?_
 ·rcases Z4 j with ⟨k,j⟩ | ⟨k,j⟩
  ·have l:=U2 j
   refine dS [6,7,8] 3 V0 ?_
   replace a:=a.drew
   refine D0 63 0 6 rfl (rQ rfl (A1 [.bool d.1,.bool d.2.1,i.v,iV d.2.2.2.1] J3 e0 a R1) (rQ rfl (A1 [.bool b.1,.bool b.2.1,f.v,iV b.2.2.2.1] J3 e0 a R0) (qR 2 rfl (rK 21 rfl k (qR 1 rfl (rQ rfl (pt_ (.bool h) e0 rfl (eqv l e0)) (Rn QSn ?_)))))))
   replace a:=a.k10
   refine LT wn (w5 (ru:=[.bool d.1,.bool d.2.1,i.v,iV d.2.2.2.1]) (us:=[.bool d.1,.bool d.2.1,i.v,iV d.2.2.2.1]) a J3 e0 e0 rfl rfl (A5 rfl) rfl) fun w a=>D0 0 50 7 rfl (Rn (sY rfl (A1 [.bool b.1,.bool b.2.1,f.v,iV b.2.2.2.1] J3 e0 a R1) (qS rfl (sY rfl (pt_ (.bool h) e0 rfl (eqv l e0)) QSn))) ?_)
   replace a:=a.k10
   exact LT wn (w5 (ru:=[.bool b.1,.bool b.2.1,f.v,iV b.2.2.2.1]) (us:=[.bool b.1,.bool b.2.1,f.v,iV b.2.2.2.1]) a J3 e0 e0 rfl rfl (A5 rfl) rfl) fun w a=>D1 0 48 8 rfl (Rn (qS rfl (sY rfl (pt_ (.bool h) e0 rfl (eqv l e0)) QSn)) (Ly wn (a_ (.bool h) e0) (dU (Dw 0 0 (Rn QSn (jr () ((a.k22).facts (U0 F1 (U0 F0 (M0 (M0 M1)))))))))))
  ·have m:=U2 j
   refine dS [6,7,8] 3 V0 ?_
   replace a:=a.drew
   refine D0 63 0 6 rfl (rQ rfl (A1 [.bool d.1,.bool d.2.1,i.v,iV d.2.2.2.1] J3 e0 a R1) (rQ rfl (A1 [.bool b.1,.bool b.2.1,f.v,iV b.2.2.2.1] J3 e0 a R0) (qR 2 rfl (rK 21 rfl (k8 k) (qR 1 rfl (rQ rfl (pf_ (.bool h) e0 rfl (eqv m rfl)) (Rn QSn ?_)))))))
   replace a:=a.k10
   refine LT wn (w5 (ru:=[.bool d.1,.bool d.2.1,i.v,iV d.2.2.2.1]) (us:=[.bool d.1,.bool d.2.1,i.v,iV d.2.2.2.1]) a J3 e0 e0 rfl rfl (A5 rfl) rfl) fun w a=>D0 0 50 7 rfl (Rn (sY rfl (A1 [.bool b.1,.bool b.2.1,f.v,iV b.2.2.2.1] J3 e0 a R1) (qS rfl (sY rfl (pf_ (.bool h) e0 rfl (eqv m rfl)) QSn))) ?_)
   replace a:=a.k10
   exact LT wn (w5 (ru:=[.bool b.1,.bool b.2.1,f.v,iV b.2.2.2.1]) (us:=[.bool b.1,.bool b.2.1,f.v,iV b.2.2.2.1]) a J3 e0 e0 rfl rfl (A5 rfl) rfl) fun w a=>D1 0 48 8 rfl (Rn (qS rfl (sY rfl (pf_ (.bool h) e0 rfl (eqv m rfl)) QSn)) (Ly wn (a_ (.bool h) e0) (dU (Dw 0 0 (Rn QSn (jr () ((a.k22).facts (U0 F1 (U0 F0 (M0 (M0 M1)))))))))))
 rintro _ g w a
 exact vx
instance:CL prog 179 (type_of% @Bl):=⟨@Bl⟩
theorem Al {e f:LI} {n o:Hdr} {out:LI} (c:m_ki e f=some out) (J:imm Zt n.v e∈mu) (K:imm Zt o.v f∈mu) (a:St w0 mu rs w):
  Calls prog 210 #[n.v,o.v] w (ri w0 mu rs Zt out):=by
 refine en func210 rfl ntmps210 fun Q p=>?_
 refine z 1 2 ?_
 refine jW 4 [0,1] [(19,.bool ((decide ((e.length:Int)=0)) || (decide ((f.length:Int)=0))))] (St w0 mu rs) rfl (fun r=>?_) ?_
 ·refine gB 15 rfl (fun h=>?_) fun h=>?_
  ·exact q 4 rfl (r _ _ a (Z0 (S0 Value.bool (orT h)) rfl))
  ·refine z 1 2 ?_
   exact r _ _ a (Z0 (S0 Value.bool (orF h)) rfl)
 intro g w a
 refine q 2 rfl ?_
 refine cJ c (fun A c=>?_) fun A c=>?_
 ·refine q 7 rfl ?_
  cases c
  replace a:=a.immNh Zt
  exact p _ _ _ (X1 results210 ⟨rfl,rfl⟩ ⟨_,rfl,a⟩)
 ·refine z 2 1 ?_
  refine bE c fun L B c=>yh (rMk a Y2 e0 B) fun b w a=>?_
  refine z 1 4 ?_
  refine bE c fun s C c=>?_
  refine lp C [1,5,26,27] (fun (i,j)=>[(28,iV j)]) (fun (i,j)=>St w0 mu (row 108 Zt b.v i::rs)) (fun | s=>(.exit 0,[],St w0 mu (row 108 Zt b.v s::rs))) rfl a rfl ?_ ?_
  ·clear a
   intro g w a
   refine z 1 4 ?_;intro N O c R w a
   cases c
   exact p _ _ _ (X1 results210 ⟨rfl,rfl⟩ ⟨_,rfl,(a.facts (U0 F0 (M0 (M0 M1))))⟩)
  rintro ⟨i,j⟩ g w S a c
  refine q 6 rfl (cI c (fun D c=>?_) fun D c=>?_)
  ·refine z 3 4 ?_;intro E T c
   obtain ⟨⟨t,k⟩,F,c⟩:=bs c
   refine lp F [1,5,6,7,26,27,28,33,34] (fun (l,d,m)=>[(8,.int .u64 d),(35,iV m)]) (fun (l,d,m)=>St w0 mu (row 108 Zt b.v l::rs)) (fun | (t,k)=>(.exit 2,[(8,.int .u64 k)],St w0 mu (row 108 Zt b.v t::rs))) rfl a rfl ?_ ?_
   ·clear a
    intro g w a
    refine z 1 3 ?_
    refine bE c fun U u c=>y (yIs Y2 e0 e0 a rO0 u) (yt (V1 (cs:=[.int .u32 (wc .u32 k)]) a N4 rfl e0 e0 rfl mkI u) fun w a=>q 7 rfl ?_)
    cases c
    exact lo a
   rintro ⟨l,d,m⟩ g w V a c
   refine q 6 rfl (cI c (fun G c=>?_) fun G c=>?_)
   ·refine z 4 16 ?_;intro H W c I X c
    refine bE c fun Z x c=>y (yIs Y2 e0 e0 a rO0 x) (yt (V1 (cs:=[.int .u32 (wc .u32 (wand .u64 (wa .u64 (wa .u64 (wm .u64 (wc .u64 E) (wc .u64 H)) (wc .u64 I)) d) 4294967295))]) a N4 rfl e0 e0 rfl mkI x) fun w a=>q 13 rfl ?_)
    cases c
    exact lo a
   ·exact ub
  ·exact ub
instance:CL prog 210 (type_of% @Al):=⟨@Al⟩
theorem zl {b:Bool} {d:LI} {e:Bool} {f:LI} {g h:Hdr} {out:Bool×LI} (c:m_kj b d e f=some out) (i:imm Zt g.v d∈mu) (j:imm Zt h.v f∈mu) (a:St w0 mu rs w):
  Calls prog 180 #[.agg #[.bool b,g.v],.agg #[.bool e,h.v]] w (rb w0 mu rs out):=by
 exact en func180 rfl ntmps180 fun Q k=>vx
instance:CL prog 180 (type_of% @zl):=⟨@zl⟩
end Go.Proofs.YtoahkigijbeegaaGreatDoor
