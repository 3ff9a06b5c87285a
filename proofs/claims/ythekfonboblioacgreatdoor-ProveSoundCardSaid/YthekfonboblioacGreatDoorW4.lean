/- Walks: each function computes its model, printed. -/
import Derived.Test.YthekfonboblioacGreatDoorW3
namespace Go.Proofs.YthekfonboblioacGreatDoor
open Go Sx M Go.Proofs.Tryz
set_option maxRecDepth 100000
set_option maxHeartbeats 40000000
set_option linter.unusedVariables false
attribute [local irreducible] wpList Code.wp Calls DR QR QS LA LS St row box fam imm rowS loop
variable {w0:World} {ros:List Fact} {rs:List Res} {w:World}
theorem Aa {b:Bool} {d:LI} {e:Bool} {f:LI} {g h:Hdr} {out:Bool×LI} (c:m_da b d e f=some out) (i:imm (rI .u32) g.v d∈ros) (j:imm (rI .u32) h.v f∈ros) (a:St w0 ros rs w):
  Calls prog 60 #[.agg #[.bool b,g.v],.agg #[.bool e,h.v]] w (rc w0 ros rs 93 out):=by
 exact en func60 rfl ntmps60 fun Q k=>vx
instance:CL prog 60 (type_of% @Aa):=⟨@Aa⟩
theorem oi {b out:Int} (c:m_db b=some out) (a:St w0 ros rs w):
  Calls prog 178 #[.int .u32 b] w (rv w0 ros rs (iV out)):=by
 exact en func178 rfl ntmps178 fun Q d=>vx
instance:CL prog 178 (type_of% @oi):=⟨@oi⟩
theorem ni {d r:LI} {l s:Int} {b t:Hdr} {out:LI×Bool} (c:m_df d r l s=some out) (O:imm (rI .u32) t.v r∈ros) (a:St w0 ros (row 93 (rI .u32) b.v d::rs) w):
  Calls prog 179 #[b.v,t.v,iV l,.int .u64 s] w (fun e w=>e=.returned (.bool out.2)∧St w0 ros (row 93 (rI .u32) b.v out.1::rs) w):=by
 refine en func179 rfl ntmps179 fun Q u=>?_
 refine z 1 7 ?_
 refine bE c fun R D c=>yh (rMk a Z1 e0 D) fun j w a=>q 16 rfl ?_
 obtain ⟨⟨m,x⟩,E,c⟩:=bs c
 refine lp E [0,1,2,3,9,10] (fun (f,h,n,k)=>[(11,.int .u64 h),(12,.int .u64 n),(13,iV k)]) (fun (f,h,n,k)=>St w0 ros (row 93 (rI .u32) b.v d::row 93 (rI .u32) j.v f::rs)) (fun | (m,x)=>(.exit 0,[(11,.int .u64 x)],St w0 ros (row 93 (rI .u32) b.v d::row 93 (rI .u32) j.v m::rs))) rfl (a.k10) rfl ?_ ?_
 ·clear a
  intro g w a
  refine q 9 rfl ?_
  refine cIn c (fun F c=>?_) fun F c=>?_
  ·refine q 9 rfl (bE c fun A G c=>?_)
   refine lp G [0,2,9,10] (fun (o,p)=>[(15,iV p)]) (fun (o,p)=>St w0 ros (row 93 (rI .u32) b.v o::row 93 (rI .u32) j.v m::rs)) (fun | A=>(.exit 2,[],St w0 ros (row 93 (rI .u32) b.v A::rs))) rfl a rfl ?_ ?_
   ·clear a
    intro g w a
    refine q 8 rfl ?_
    cases c
    exact za u results179 ⟨rfl,a⟩
   rintro ⟨o,p⟩ g w S a c
   refine q 8 rfl (cI c (fun H c=>?_) fun H c=>?_)
   ·refine z 2 0 ?_;intro I T c
    refine bE c fun U B c=>y (yIs Z1 e0 e0 a rO0 B) (yt (W3 (cs:=[.int .u32 I]) a Y3 rfl e0 e0 rfl mkI B) fun w a=>q 8 rfl ?_)
    cases c
    exact lo a
   ·refine q 2 rfl ?_
    cases c
    exact xo (a.k11)
  ·refine q 7 rfl ?_
   cases c
   exact za u results179 ⟨rfl,(a.k11)⟩
 rintro ⟨f,h,n,k⟩ g w J a c
 refine q 8 rfl (cI c (fun K c=>?_) fun K c=>?_)
 ·refine q 12 rfl ?_
  refine jC Int [0,1,2,3,9,10,11,13] (fun i=>[(12,.int .u64 i)]) (fun i w=>St w0 ros (row 93 (rI .u32) b.v d::row 93 (rI .u32) j.v f::rs) w∧m_dd d k l f h i=some J) rfl ?_ ?_
  ·rintro i g w ⟨a,c⟩
   refine z 2 22 ?_;intro L V c
   refine bE c fun W C c=>y (yIs Z1 e0 e0 a rO1 C) ?_
   replace a:=a.k10
   refine yt (W3 (cs:=[.int .u32 (wc .u32 (ws .u64 (ws .u64 (wc .u64 L) h) (wand .u64 i 4294967295)))]) a Y3 rfl e0 e0 rfl mkI C) fun w a=>q 14 rfl ?_
   cases c
   exact lo (a.k10)
  refine cI c (fun N c=>?_) fun N c=>?_
  ·refine z 2 5 ?_;intro X Z c
   exact jx _ ⟨a,c⟩
  ·exact q 1 rfl (jx _ ⟨a,c⟩)
 ·refine q 2 rfl ?_
  cases c
  exact xo a
instance:CL prog 179 (type_of% @ni):=⟨@ni⟩
theorem Ro {p b:LI} {A B:Hdr} {out:LI×LI} (c:m_dj p b=some out) (f:imm (rI .u32) A.v p∈ros) (h:imm (rI .u32) B.v b∈ros) (a:St w0 ros rs w):
  Calls prog 145 #[A.v,B.v] w (fun e w=>∃ (C D:Hdr),e=.returned (.tuple #[C.v,D.v])∧St w0 (imm (rI .u32) D.v out.2::ros) (row 93 (rI .u32) C.v out.1::rs) w):=by
 refine en func145 rfl ntmps145 fun Q E=>bE c fun b3 O c=>q 11 rfl (cZ (w_o O f h a) fun w a=>q 3 rfl (cI c (fun R c=>?_) fun R c=>?_))
 ·refine q 9 rfl ?_
  cases c
  replace a:=a.rowNh 93 (rI .u32)
  exact E _ _ _ (G4 results145 ⟨rfl,rfl⟩ ⟨rfl,rfl⟩ ⟨_,_,rfl,(a.facts (S0 f E1))⟩)
 ·refine q 5 rfl (y (Y2 Z1 e0 a (rdI h)) (bE c fun b4 F c=>q 8 rfl (y (yIa Z1 e0 e0 a (rdI h) F) (y (yI Y3 e0 a (rdI h) F) (bE c fun S T c=>cZ (oi T a) fun w a=>bE c fun b5 U c=>bE c fun b6 V c=>bE c fun i r c=>q 4 rfl (dS [2,5,8,9] 4 C1 ?_))))))
  replace a:=a.drew
  refine D1 91 0 2 rfl (qR 5 rfl (Rn QSn (kO (w_k U f a) fun W w a=>dU (D1 0 88 5 rfl (Rn (qS rfl (qS rfl (qS rfl QSn))) (kO (w_k V h a) fun j w a=>dU (D1 128 64 8 rfl ?_)))))))
  replace a:=a.fz
  refine rQ rfl (ySl (k1:=.i64) Z1 e0 a (rdI F0) (.inr ⟨rfl,rfl⟩) (.inl (Z0 some e0)) r) ?_
  replace a:=a.sub F0 r
  refine Rn (qS rfl QSn) (Ly wn (a_ W.v e0) (dU (D1 0 192 9 rfl (Rn (qS rfl (sY rfl (ySl (k1:=.i64) Z1 e0 a (rdI F1) (.inr ⟨rfl,rfl⟩) (.inl (Z0 some e0)) r) QSn)) (Ly wn (a_ ((subH j 1 0 (b.length:Int)).v) e0) (dU (Dw 0 0 (Rn QSn (qx 5 rfl (y (Y2 Z1 e0 a rO0) (q 1 rfl (y (Y2 Z1 e0 a (rdI (F_2 f))) (q 3 rfl ?_)))))))))))))
  refine jC (LI×Hdr) [0,6,7,9] (fun (m,d)=>[(8,d.v)]) (fun (m,d) w=>St w0 (imm (rI .u32) (subH j 1 0 (b.length:Int)).v i::ros) (row 93 (rI .u32) d.v m::rs) w∧m_di p b i S m=some out) rfl ?_ ?_
  ·rintro ⟨m,d⟩ g w ⟨a,c⟩
   refine q 4 rfl (y (Y2 Z1 e0 a (rdI (mtF f))) (bE c fun b7 X c=>q 3 rfl (yh (rMk a Z1 e0 X) fun o w a=>q 7 rfl (y (Y2 Z1 e0 a (rdI (mtF f))) (q 6 rfl ?_)))))
   obtain ⟨⟨G,H⟩,Z,c⟩:=bs c
   refine lp Z [6,7,8,9,10] (fun (s,k,t)=>[(11,iV t)]) (fun (s,k,t)=>St w0 (imm (rI .u32) (subH j 1 0 (b.length:Int)).v i::ros) (row 93 (rI .u32) d.v s::row 93 (rI .u32) o.v k::rs)) (fun | (G,H)=>(.exit 0,[],St w0 ros (row 93 (rI .u32) d.v G::row 93 (rI .u32) o.v H::rs))) rfl (a.k10) rfl ?_ ?_
   ·clear a
    intro g w a
    refine bE c fun b8 a0 c=>q 5 rfl ?_
    replace a:=a.fz
    refine cO (w_d a0 F0 a) fun b9 w a=>bE c fun c0 a1 c=>q 1 rfl ?_
    replace a:=a.fz
    refine cO (w_l a1 F0 a) fun c1 w a=>bE c fun c2 a2 c=>q 10 rfl ?_
    replace a:=(a.k10).fz
    refine cO (w_d a2 F0 a) fun c3 w a=>bE c fun c4 a3 c=>q 1 rfl ?_
    replace a:=(a.k10).fz
    refine cO (w_d a3 F0 a) fun c5 w a=>q 5 rfl ?_
    cases c
    replace a:=a.fz
    exact E _ _ _ (G4 results145 ⟨rfl,rfl⟩ ⟨rfl,rfl⟩ ⟨_,_,rfl,(a.facts (S0 F0 (N0 (N0 (N0 (N0 (N0 E1)))))))⟩)
   rintro ⟨s,k,t⟩ g w c7 a c
   refine q 7 rfl (cI c (fun a4 c=>?_) fun a4 c=>?_)
   ·refine q 5 rfl (bE c fun a5 I c=>bE c fun a6 J c=>dS [17] 1 C1 ?_)
    replace a:=a.drew
    refine D1 131071 0 17 rfl (qR 4 rfl (rQ rfl (yIa Z1 e0 e0 a rO0 I) (rQ rfl (yI Y3 e0 a rO0 I) (qR 7 rfl (rQ rfl (yIa Z1 e0 e0 a rO0 J) (rQ rfl (yI Y3 e0 a rO0 J) (qR 2 rfl (Rn QSn (Ly wn (a_ (.int .u64 (wor .u64 (wslc .u64 (wc .u64 a5) 32) (wc .u64 a6))) e0) (dU (Dw 0 0 (Rn QSn (bE c fun c8 K c=>?_)))))))))))))
    refine qx 7 rfl (y (yIa Z1 e0 e0 a (rdI F0) K) (y (yI Y3 e0 a (rdI F0) K) (bE c fun c9 a7 c=>q 1 rfl (y (Ve e0 e0 a7) (q 6 rfl ?_)))))
    obtain ⟨⟨L,u⟩,a8,c⟩:=bs c
    refine lp a8 [6,7,8,9,10,11] (fun (x,z)=>[(13,.int .u64 z)]) (fun (x,z)=>St w0 (imm (rI .u32) (subH j 1 0 (b.length:Int)).v i::ros) (row 93 (rI .u32) d.v x::row 93 (rI .u32) o.v k::rs)) (fun | (L,u)=>(.exit 2,[(13,.int .u64 u)],St w0 (imm (rI .u32) (subH j 1 0 (b.length:Int)).v i::ros) (row 93 (rI .u32) d.v L::row 93 (rI .u32) o.v k::rs))) rfl a rfl ?_ ?_
    ·clear a
     intro g w a
     refine bE c fun d0 N c=>q 7 rfl (y (yIs Z1 e0 e0 a rO1 N) ?_)
     replace a:=a.k10
     refine yt (W3 (cs:=[.int .u32 (wc .u32 u)]) a Y3 rfl e0 e0 rfl mkI N) fun w a=>q 8 rfl ?_
     cases c
     exact lo (a.k10)
    rintro ⟨x,z⟩ g w d1 a c
    refine bE c fun d2 a9 c=>q 7 rfl (cZ (ni a9 F0 a) fun w a=>q 3 rfl ?_)
    refine cJn c (fun b0 c=>?_) fun b0 c=>?_
    ·refine q 2 rfl ?_
     cases c
     exact xo a
    ·refine q 9 rfl ?_
     cases c
     exact lo a
   ·refine q 2 rfl ?_
    cases c
    exact xo (a.fc)
  refine cI c (fun b1 c=>?_) fun b1 c=>?_
  ·refine q 2 rfl (yh (rLt (n:=1) (l:=[0]) a Z1 [.int .u32 0] (bp1 rfl) rfl rfl (N1 (cs:=[.int .u32 0]) rfl mkI Y1)) fun d3 w a=>bE c fun d4 b2 c=>?_)
   replace a:=a.k10
   exact yh (rAp a Z1 e0 e0 rO1 b2) fun d5 w a=>q 2 rfl (jx (_,_) ⟨((a.k11).facts (S0 F0 (N0 (N0 E1)))),c⟩)
  ·exact q 1 rfl (jx (_,_) ⟨(a.facts (S0 F0 (N0 (N0 E1)))),c⟩)
instance:CL prog 145 (type_of% @Ro):=⟨@Ro⟩
theorem Qo {K:Bool} {R:LI} {C:Bool} {S:LI} {L D:Hdr} {out:Bool×LI×Bool×LI} (c:m_dm K R C S=some out) (a1:imm (rI .u32) L.v R∈ros) (a2:imm (rI .u32) D.v S∈ros) (a:St w0 ros rs w):
  Calls prog 103 #[.agg #[.bool K,L.v],.agg #[.bool C,D.v]] w (fun e w=>∃ (T U:Hdr),e=.returned (.tuple #[.agg #[.bool out.1,T.v],.agg #[.bool out.2.2.1,U.v]])∧St w0 (imm (rI .u32) U.v out.2.2.2::ros) (row 93 (rI .u32) T.v out.2.1::rs) w):=by
 refine en func103 rfl ntmps103 fun Q b4=>?_
 refine z 4 3 ?_;intro b5 w a a3 w a N w a O w a
 refine bE c fun i a4 c=>bE c fun k a5 c=>dS [1,3,4,5] 4 C1 ?_
 replace a:=a.drew
 refine D1 5 0 1 rfl (rQ rfl (J2 [.bool K,L.v] P0 e0 a R3) (rQ rfl (J2 [.bool C,D.v] P0 e0 a R2) (Rn QSn (kO (w_g a4 a1 a) fun V w a=>dU (D1 0 4 3 rfl (Rn (sY rfl (J2 [.bool C,D.v] P0 e0 a R3) QSn) (kO (w_g a5 a2 a) fun y w a=>dU (D0 0 0 4 rfl (Rn QSn ?_)))))))))
 replace a:=a.k2y
 refine LT wn (G3 (vals':=[.bool i.1,V.v]) (us:=[.bool i.1,V.v]) a P0 e0 e0 rfl rfl (H3 rfl) rfl) fun w a=>D0 0 0 5 rfl (Rn QSn ?_)
 replace a:=a.k2y
 refine LT wn (G3 (vals':=[.bool k.1,y.v]) (us:=[.bool k.1,y.v]) a P0 e0 e0 rfl rfl (H3 rfl) rfl) fun w a=>Dw 0 0 (Rn QSn (qx 0 rfl ?_))
 refine z 3 8 ?_;intro b6 c0 c c1 c2 w a
 refine bE c fun d A c=>bE c fun f j c=>?_
 refine jN (Nat×Hdr×Nat×Hdr) [3,4,5] (fun (t,l,u,x)=>[(8,(pB t)),(9,(pB u))]) (fun (t,l,u,x)=>St w0 (imm (rI .u32) y.v k.2::ros) (box a3 52 [.bool k.1,y.v]::box N 52 [.bool false,hnil.v]::box O 52 [.bool false,hnil.v]::row 93 (rI .u32) l.v d.2::box t 52 [.bool d.1,l.v]::row 93 (rI .u32) x.v f.2::box u 52 [.bool f.1,x.v]::rs)) rfl ?_ ?_
 ·refine dS [6,10,11,12,13,14] 6 C1 ?_
  replace a:=a.drew
  refine Dm 959 0 [6,11,12] (qR 1 rfl (rQ rfl (lb_ (.bool i.1) O_4 e0 a R2) (qR 1 rfl (rQ rfl (lb_ (.bool k.1) O_4 e0 a R1) (rQ rfl (Kb I0 e0 e0) (qR 2 rfl (rQ rfl (lb_ (.bool i.1) O_4 e0 a R2) (qR 1 rfl (Rn QSn ?_)))))))))
  refine La1 rfl ?_ (La1 rfl ?_ (La1 rfl ?_ LAn))
  ·replace a:=a.fz
   refine kO (w_e A F0 a) fun h w a=>dU (Dm 0 896 [10,11,12] (Rn (qS rfl (sY rfl (lb_ (.bool i.1) O_4 e0 a R2) (qS rfl QSn))) ?_))
   refine La1 rfl ?_ (La1 rfl ?_ (La1 rfl ?_ LAn))
   ·refine kO (w_e j F1 a) fun b w a=>dU (Dm 0 0 [11,12] (Rn QSn ?_))
    refine La1 rfl ?_ (La1 rfl ?_ LAn)
    ·refine LB wn (rAl a I4) fun m w a=>dU (D1 0 0 12 rfl (Rn QSn (LB wn (rAl a I4) fun n w a=>dU (D0 0 0 13 rfl (Rn QSn ?_)))))
     replace a:=a.k10
     refine LT wn (G3 (vals':=[.bool d.1,h.v]) (us:=[.bool d.1,h.v]) a P0 e0 e0 rfl rfl (H3 rfl) rfl) fun w a=>D0 0 0 14 rfl (Rn QSn ?_)
     replace a:=a.k10
     exact LT wn (G3 (vals':=[.bool f.1,b.v]) (us:=[.bool f.1,b.v]) a P0 e0 e0 rfl rfl (H3 rfl) rfl) fun w a=>Dw 0 0 (Rn QSn (jr (_,_,_,_) ((a.k3k).facts (S0 F2 (N0 (N0 (N0 (N0 E1))))))))
    ·refine LB wn (rAl a I4) fun n w a=>dU (D1 0 0 11 rfl (Rn QSn (LB wn (rAl a I4) fun m w a=>dU (D0 0 0 13 rfl (Rn QSn (LT wn (G3 (vals':=[.bool d.1,h.v]) (us:=[.bool d.1,h.v]) a P0 e0 e0 rfl rfl (H3 rfl) rfl) fun w a=>D0 0 0 14 rfl (Rn QSn ?_)))))))
     replace a:=a.k10
     exact LT wn (G3 (vals':=[.bool f.1,b.v]) (us:=[.bool f.1,b.v]) a P0 e0 e0 rfl rfl (H3 rfl) rfl) fun w a=>Dw 0 0 (Rn QSn (jr (_,_,_,_) ((a.k3k).facts (S0 F2 (N0 (N0 (N0 (N0 E1))))))))
   ·refine LB wn (rAl a I4) fun m w a=>dU (Dm 0 896 [10,12] (Rn (qS rfl (sY rfl (lb_ (.bool i.1) O_4 e0 a R3) (qS rfl QSn))) ?_))
    refine La1 rfl ?_ (La1 rfl ?_ LAn)
    ·refine kO (w_e j F1 a) fun b w a=>dU (D1 0 0 12 rfl (Rn QSn (LB wn (rAl a I4) fun n w a=>dU (D0 0 0 13 rfl (Rn QSn ?_)))))
     replace a:=a.k16
     refine LT wn (G3 (vals':=[.bool d.1,h.v]) (us:=[.bool d.1,h.v]) a P0 e0 e0 rfl rfl (H3 rfl) rfl) fun w a=>D0 0 0 14 rfl (Rn QSn ?_)
     replace a:=a.k10
     exact LT wn (G3 (vals':=[.bool f.1,b.v]) (us:=[.bool f.1,b.v]) a P0 e0 e0 rfl rfl (H3 rfl) rfl) fun w a=>Dw 0 0 (Rn QSn (jr (_,_,_,_) ((a.k3k).facts (S0 F2 (N0 (N0 (N0 (N0 E1))))))))
    ·refine LB wn (rAl a I4) fun n w a=>dU (D1 0 896 10 rfl (Rn (qS rfl (sY rfl (lb_ (.bool i.1) O_4 e0 a R4) (qS rfl QSn))) (kO (w_e j F1 a) fun b w a=>dU (D0 0 0 13 rfl (Rn QSn ?_)))))
     replace a:=a.k16
     refine LT wn (G3 (vals':=[.bool d.1,h.v]) (us:=[.bool d.1,h.v]) a P0 e0 e0 rfl rfl (H3 rfl) rfl) fun w a=>D0 0 0 14 rfl (Rn QSn ?_)
     replace a:=a.k16
     exact LT wn (G3 (vals':=[.bool f.1,b.v]) (us:=[.bool f.1,b.v]) a P0 e0 e0 rfl rfl (H3 rfl) rfl) fun w a=>Dw 0 0 (Rn QSn (jr (_,_,_,_) ((a.k3k).facts (S0 F2 (N0 (N0 (N0 (N0 E1))))))))
   ·refine LB wn (rAl a I4) fun n w a=>dU (Dm 0 896 [10,11] (Rn (qS rfl (sY rfl (lb_ (.bool i.1) O_4 e0 a R3) (qS rfl QSn))) ?_))
    refine La1 rfl ?_ (La1 rfl ?_ LAn)
    ·refine kO (w_e j F1 a) fun b w a=>dU (D1 0 0 11 rfl (Rn QSn (LB wn (rAl a I4) fun m w a=>dU (D0 0 0 13 rfl (Rn QSn (LT wn (G3 (vals':=[.bool d.1,h.v]) (us:=[.bool d.1,h.v]) a P0 e0 e0 rfl rfl (H3 rfl) rfl) fun w a=>D0 0 0 14 rfl (Rn QSn ?_)))))))
     replace a:=a.k16
     exact LT wn (G3 (vals':=[.bool f.1,b.v]) (us:=[.bool f.1,b.v]) a P0 e0 e0 rfl rfl (H3 rfl) rfl) fun w a=>Dw 0 0 (Rn QSn (jr (_,_,_,_) ((a.k3k).facts (S0 F2 (N0 (N0 (N0 (N0 E1))))))))
    ·refine LB wn (rAl a I4) fun m w a=>dU (D1 0 896 10 rfl (Rn (qS rfl (sY rfl (lb_ (.bool i.1) O_4 e0 a R4) (qS rfl QSn))) (kO (w_e j F1 a) fun b w a=>dU (D0 0 0 13 rfl (Rn QSn ?_)))))
     replace a:=a.k10
     refine LT wn (G3 (vals':=[.bool d.1,h.v]) (us:=[.bool d.1,h.v]) a P0 e0 e0 rfl rfl (H3 rfl) rfl) fun w a=>D0 0 0 14 rfl (Rn QSn ?_)
     replace a:=a.k16
     exact LT wn (G3 (vals':=[.bool f.1,b.v]) (us:=[.bool f.1,b.v]) a P0 e0 e0 rfl rfl (H3 rfl) rfl) fun w a=>Dw 0 0 (Rn QSn (jr (_,_,_,_) ((a.k3k).facts (S0 F2 (N0 (N0 (N0 (N0 E1))))))))
  ·refine LB wn (rAl a I4) fun m w a=>dU (Dm 0 959 [6,12] (Rn (qS rfl (sY rfl (lb_ (.bool i.1) O_4 e0 a R3) (qS rfl (sY rfl (lb_ (.bool k.1) O_4 e0 a R2) (sY rfl (Kb I0 e0 e0) (qS rfl (qS rfl (sY rfl (lb_ (.bool i.1) O_4 e0 a R3) (qS rfl QSn))))))))) ?_))
   refine La1 rfl ?_ (La1 rfl ?_ LAn)
   ·replace a:=a.k10
    replace a:=a.fz
    refine kO (w_e A F0 a) fun h w a=>dU (Dm 0 896 [10,12] (Rn (qS rfl (sY rfl (lb_ (.bool i.1) O_4 e0 a R3) (qS rfl QSn))) ?_))
    refine La1 rfl ?_ (La1 rfl ?_ LAn)
    ·refine kO (w_e j F1 a) fun b w a=>dU (D1 0 0 12 rfl (Rn QSn (LB wn (rAl a I4) fun n w a=>dU (D0 0 0 13 rfl (Rn QSn ?_)))))
     replace a:=a.k1f
     refine LT wn (G3 (vals':=[.bool d.1,h.v]) (us:=[.bool d.1,h.v]) a P0 e0 e0 rfl rfl (H3 rfl) rfl) fun w a=>D0 0 0 14 rfl (Rn QSn ?_)
     replace a:=a.k10
     exact LT wn (G3 (vals':=[.bool f.1,b.v]) (us:=[.bool f.1,b.v]) a P0 e0 e0 rfl rfl (H3 rfl) rfl) fun w a=>Dw 0 0 (Rn QSn (jr (_,_,_,_) ((a.k3k).facts (S0 F2 (N0 (N0 (N0 (N0 E1))))))))
    ·refine LB wn (rAl a I4) fun n w a=>dU (D1 0 896 10 rfl (Rn (qS rfl (sY rfl (lb_ (.bool i.1) O_4 e0 a R4) (qS rfl QSn))) (kO (w_e j F1 a) fun b w a=>dU (D0 0 0 13 rfl (Rn QSn ?_)))))
     replace a:=a.k1f
     refine LT wn (G3 (vals':=[.bool d.1,h.v]) (us:=[.bool d.1,h.v]) a P0 e0 e0 rfl rfl (H3 rfl) rfl) fun w a=>D0 0 0 14 rfl (Rn QSn ?_)
     replace a:=a.k16
     exact LT wn (G3 (vals':=[.bool f.1,b.v]) (us:=[.bool f.1,b.v]) a P0 e0 e0 rfl rfl (H3 rfl) rfl) fun w a=>Dw 0 0 (Rn QSn (jr (_,_,_,_) ((a.k3k).facts (S0 F2 (N0 (N0 (N0 (N0 E1))))))))
   ·refine LB wn (rAl a I4) fun n w a=>dU (D1 0 959 6 rfl (Rn (qS rfl (sY rfl (lb_ (.bool i.1) O_4 e0 a R4) (qS rfl (sY rfl (lb_ (.bool k.1) O_4 e0 a R3) (sY rfl (Kb I0 e0 e0) (qS rfl (qS rfl (sY rfl (lb_ (.bool i.1) O_4 e0 a R4) (qS rfl QSn))))))))) ?_))
    replace a:=(a.k16).fz
    refine kO (w_e A F0 a) fun h w a=>dU (D1 0 896 10 rfl (Rn (qS rfl (sY rfl (lb_ (.bool i.1) O_4 e0 a R4) (qS rfl QSn))) (kO (w_e j F1 a) fun b w a=>dU (D0 0 0 13 rfl (Rn QSn ?_)))))
    replace a:=a.k1f
    refine LT wn (G3 (vals':=[.bool d.1,h.v]) (us:=[.bool d.1,h.v]) a P0 e0 e0 rfl rfl (H3 rfl) rfl) fun w a=>D0 0 0 14 rfl (Rn QSn ?_)
    replace a:=a.k1f
    exact LT wn (G3 (vals':=[.bool f.1,b.v]) (us:=[.bool f.1,b.v]) a P0 e0 e0 rfl rfl (H3 rfl) rfl) fun w a=>Dw 0 0 (Rn QSn (jr (_,_,_,_) ((a.k3k).facts (S0 F2 (N0 (N0 (N0 (N0 E1))))))))
  ·refine LB wn (rAl a I4) fun n w a=>dU (Dm 0 959 [6,11] (Rn (qS rfl (sY rfl (lb_ (.bool i.1) O_4 e0 a R3) (qS rfl (sY rfl (lb_ (.bool k.1) O_4 e0 a R2) (sY rfl (Kb I0 e0 e0) (qS rfl (qS rfl (sY rfl (lb_ (.bool i.1) O_4 e0 a R3) (qS rfl QSn))))))))) ?_))
   refine La1 rfl ?_ (La1 rfl ?_ LAn)
   ·replace a:=a.k10
    replace a:=a.fz
    refine kO (w_e A F0 a) fun h w a=>dU (Dm 0 896 [10,11] (Rn (qS rfl (sY rfl (lb_ (.bool i.1) O_4 e0 a R3) (qS rfl QSn))) ?_))
    refine La1 rfl ?_ (La1 rfl ?_ LAn)
    ·refine kO (w_e j F1 a) fun b w a=>dU (D1 0 0 11 rfl (Rn QSn (LB wn (rAl a I4) fun m w a=>dU (D0 0 0 13 rfl (Rn QSn (LT wn (G3 (vals':=[.bool d.1,h.v]) (us:=[.bool d.1,h.v]) a P0 e0 e0 rfl rfl (H3 rfl) rfl) fun w a=>D0 0 0 14 rfl (Rn QSn ?_)))))))
     replace a:=a.k1f
     exact LT wn (G3 (vals':=[.bool f.1,b.v]) (us:=[.bool f.1,b.v]) a P0 e0 e0 rfl rfl (H3 rfl) rfl) fun w a=>Dw 0 0 (Rn QSn (jr (_,_,_,_) ((a.k3k).facts (S0 F2 (N0 (N0 (N0 (N0 E1))))))))
    ·refine LB wn (rAl a I4) fun m w a=>dU (D1 0 896 10 rfl (Rn (qS rfl (sY rfl (lb_ (.bool i.1) O_4 e0 a R4) (qS rfl QSn))) (kO (w_e j F1 a) fun b w a=>dU (D0 0 0 13 rfl (Rn QSn ?_)))))
     replace a:=a.k10
     refine LT wn (G3 (vals':=[.bool d.1,h.v]) (us:=[.bool d.1,h.v]) a P0 e0 e0 rfl rfl (H3 rfl) rfl) fun w a=>D0 0 0 14 rfl (Rn QSn ?_)
     replace a:=a.k1f
     exact LT wn (G3 (vals':=[.bool f.1,b.v]) (us:=[.bool f.1,b.v]) a P0 e0 e0 rfl rfl (H3 rfl) rfl) fun w a=>Dw 0 0 (Rn QSn (jr (_,_,_,_) ((a.k3k).facts (S0 F2 (N0 (N0 (N0 (N0 E1))))))))
   ·refine LB wn (rAl a I4) fun m w a=>dU (D1 0 959 6 rfl (Rn (qS rfl (sY rfl (lb_ (.bool i.1) O_4 e0 a R4) (qS rfl (sY rfl (lb_ (.bool k.1) O_4 e0 a R3) (sY rfl (Kb I0 e0 e0) (qS rfl (qS rfl (sY rfl (lb_ (.bool i.1) O_4 e0 a R4) (qS rfl QSn))))))))) ?_))
    replace a:=(a.k16).fz
    refine kO (w_e A F0 a) fun h w a=>dU (D1 0 896 10 rfl (Rn (qS rfl (sY rfl (lb_ (.bool i.1) O_4 e0 a R4) (qS rfl QSn))) (kO (w_e j F1 a) fun b w a=>dU (D0 0 0 13 rfl (Rn QSn ?_)))))
    replace a:=a.k16
    refine LT wn (G3 (vals':=[.bool d.1,h.v]) (us:=[.bool d.1,h.v]) a P0 e0 e0 rfl rfl (H3 rfl) rfl) fun w a=>D0 0 0 14 rfl (Rn QSn ?_)
    replace a:=a.k1f
    exact LT wn (G3 (vals':=[.bool f.1,b.v]) (us:=[.bool f.1,b.v]) a P0 e0 e0 rfl rfl (H3 rfl) rfl) fun w a=>Dw 0 0 (Rn QSn (jr (_,_,_,_) ((a.k3k).facts (S0 F2 (N0 (N0 (N0 (N0 E1))))))))
 rintro ⟨t,l,u,x⟩ g w a
 refine z 2 3 ?_;intro c3 c4 c w a
 refine jC (Bool×LI×Bool×LI×Hdr×Hdr) [4,5,8,9] (fun (r,E,o,F,s,p)=>[]) (fun (r,E,o,F,s,p) w=>St w0 (imm (rI .u32) p.v F::ros) (box N 52 [.bool false,hnil.v]::box O 52 [.bool false,hnil.v]::row 93 (rI .u32) s.v E::box t 52 [.bool r,s.v]::box u 52 [.bool o,p.v]::rs) w∧m_dk r E o F=some out) rfl ?_ ?_
 ·rintro ⟨r,E,o,F,s,p⟩ g w ⟨a,c⟩
  refine q 2 rfl (dS [2,3] 2 C1 ?_)
  replace a:=a.drew
  refine D0 3 0 2 rfl (rQ rfl (J2 [.bool r,s.v] P0 e0 a R3) (rQ rfl (J2 [.bool o,p.v] P0 e0 a R4) (Rn QSn (LT wn (G3 (vals':=[.bool r,s.v]) (us:=[.bool r,s.v]) a P0 e0 e0 rfl rfl (H3 rfl) rfl) fun w a=>D0 0 2 3 rfl (Rn (sY rfl (J2 [.bool o,p.v] P0 e0 a R4) QSn) ?_)))))
  replace a:=a.k10
  exact LT wn (G3 (vals':=[.bool o,p.v]) (us:=[.bool o,p.v]) a P0 e0 e0 rfl rfl (H3 rfl) rfl) fun w a=>Dw 0 0 (Rn QSn (qx 0 rfl vx))
 refine cI c (fun a6 c=>?_) fun a6 c=>?_
 ·refine q 1 rfl (bE c fun c5 a7 c=>bE c fun B a8 c=>dS [2,3,4] 3 C1 ?_)
  replace a:=a.drew
  refine D1 3 0 2 rfl (rQ rfl (J2 [.bool f.1,x.v] P0 e0 a R5) (rQ rfl (J2 [.bool k.1,y.v] P0 e0 a R0) (Rn QSn (kO (w_j a7 F1 a) fun c6 w a=>dU (D1 0 1 3 rfl (Rn (sY rfl (J2 [.bool f.1,x.v] P0 e0 a R6) QSn) ?_))))))
  replace a:=a.fz
  refine kO (w_q a8 F1 F0 a) fun G w a=>dU (D0 0 0 4 rfl (Rn QSn ?_))
  replace a:=a.k2e
  refine LT wn (G3 (vals':=[.bool B.1,G.v]) (us:=[.bool B.1,G.v]) a P0 e0 e0 rfl rfl (H3 rfl) rfl) fun w a=>Dw 0 0 (Rn QSn (qx 0 rfl ?_))
  refine z 1 2 ?_
  refine jC (Bool×LI×Hdr) [4,5,8,9] (fun (H,I,J)=>[]) (fun (H,I,J) w=>St w0 ros (box N 52 [.bool false,hnil.v]::box O 52 [.bool false,hnil.v]::row 93 (rI .u32) J.v I::box t 52 [.bool H,J.v]::row 93 (rI .u32) G.v B.2::box u 52 [.bool B.1,G.v]::rs) w∧m_dl B H I=some out) rfl ?_ ?_
  ·rintro ⟨H,I,J⟩ g w ⟨a,c⟩
   replace a:=(a.k1n).fz
   exact vx
  refine cJ c (fun a9 c=>?_) fun a9 c=>?_
  ·refine bE c fun c7 b0 c=>bE c fun W b1 c=>dS [1,2,3] 3 C1 ?_
   replace a:=a.drew
   refine D1 1 0 1 rfl (rQ rfl (J2 [.bool d.1,l.v] P0 e0 a R6) (Rn QSn (kO (w_f b0 a) fun c8 w a=>dU (D1 0 1 2 rfl (Rn (sY rfl (J2 [.bool d.1,l.v] P0 e0 a R7) QSn) ?_)))))
   replace a:=((a.k2e).fz).fz
   refine kO (w_q b1 F1 F0 a) fun X w a=>dU (D0 0 0 3 rfl (Rn QSn ?_))
   replace a:=a.k2e
   exact LT wn (G3 (vals':=[.bool W.1,X.v]) (us:=[.bool W.1,X.v]) a P0 e0 e0 rfl rfl (H3 rfl) rfl) fun w a=>Dw 0 0 (Rn QSn (qx 0 rfl vx))
  ·refine bE c fun c9 b2 c=>bE c fun Z b3 c=>dS [1,2,3] 3 C1 ?_
   replace a:=a.drew
   refine D1 1 0 1 rfl (rQ rfl (J2 [.bool d.1,l.v] P0 e0 a R6) (Rn QSn (kO (w_f b2 a) fun d0 w a=>dU (D1 0 1 2 rfl (Rn (sY rfl (J2 [.bool d.1,l.v] P0 e0 a R7) QSn) ?_)))))
   replace a:=((a.k2e).fz).fz
   refine kO (w_r b3 F1 F0 a) fun a0 w a=>dU (D0 0 0 3 rfl (Rn QSn ?_))
   replace a:=a.k2e
   exact LT wn (G3 (vals':=[.bool Z.1,a0.v]) (us:=[.bool Z.1,a0.v]) a P0 e0 e0 rfl rfl (H3 rfl) rfl) fun w a=>Dw 0 0 (Rn QSn (qx 0 rfl vx))
 ·exact vx
instance:CL prog 103 (type_of% @Qo):=⟨@Qo⟩
theorem sf {p:Bool} {r:LI} {s:Bool} {t:LI} {u x:Hdr} {out:Bool×LI} (c:m_do p r s t=some out) (E:imm (rI .u32) u.v r∈ros) (F:imm (rI .u32) x.v t∈ros) (a:St w0 ros rs w):
  Calls prog 100 #[.agg #[.bool p,u.v],.agg #[.bool s,x.v]] w (rb w0 ros rs out):=by
 refine en func100 rfl ntmps100 fun Q G=>?_
 refine z 3 3 ?_;intro H w a I w a j w a
 refine bE c fun y J c=>bE c fun A K c=>?_
 refine jN (Nat×Hdr×Nat×Hdr) [4] (fun (b,e,d,f)=>[(5,(pB b)),(6,(pB d))]) (fun (b,e,d,f)=>St w0 ros (box j 52 [.bool false,hnil.v]::row 93 (rI .u32) e.v y.2::box b 52 [.bool y.1,e.v]::row 93 (rI .u32) f.v A.2::box d 52 [.bool A.1,f.v]::rs)) rfl ?_ ?_
 ·refine dS [1,3,4,5,6,7] 6 C1 ?_
  replace a:=a.drew
  exact zx
 rintro ⟨b,e,d,f⟩ g w a
 refine q 3 rfl ?_
 obtain ⟨⟨B,C⟩,D,c⟩:=bs c
 replace a:=(((a.k10).fz).k16).fz
 refine lpN (Hdr×Hdr) Hdr D [4,5,6] (fun (k,l,m,n) (h,i)=>[]) (fun (k,l,m,n) (h,i)=>St w0 (imm (rI .u32) h.v l::imm (rI .u32) i.v n::ros) (box j 52 [.bool false,hnil.v]::box b 52 [.bool k,h.v]::box d 52 [.bool m,i.v]::rs)) (fun | (B,C),o=>(.exit 0,[],St w0 (imm (rI .u32) o.v C::ros) (box j 52 [.bool false,hnil.v]::box b 52 [.bool B,o.v]::rs))) rfl (_,_) (a.facts (S0 F1 (S0 F0 (N0 (N0 E1))))) rfl ?_ ?_
 ·clear a
  rintro o g w a
  exact vx
 rintro ⟨k,l,m,n⟩ ⟨h,i⟩ g w L a c
 exact vx
instance:CL prog 100 (type_of% @sf):=⟨@sf⟩
theorem Wa {b:Bool} {d:LI} {f:Bool} {g:LI} {h i:Hdr} {out:Bool×LI×Bool} (c:m_dp b d f g=some out) (l:imm (rI .u32) h.v d∈ros) (m:imm (rI .u32) i.v g∈ros) (a:St w0 ros rs w):
  Calls prog 101 #[.agg #[.bool b,h.v],.agg #[.bool f,i.v]] w (fun e w=>∃ (j:Hdr),e=.returned (.tuple #[.agg #[.bool out.1,j.v],.bool out.2.2])∧St w0 ros (row 93 (rI .u32) j.v out.2.1::rs) w):=by
 refine en func101 rfl ntmps101 fun Q k=>?_
 refine v 0 ?_
 refine fun _ _ _ _ _ _ _ _ _ _ _ _ _ _ _ _ _ _ _ _ _ _ _ _ _ _ _ _ _ _ a=>⟨vt,fun _ c _ a=>?_⟩
 cases c
 replace a:=a.rowNh 93 (rI .u32)
 exact k _ _ _ (G4 results101 (A4 rfl rfl a R1 P0 rfl) ⟨rfl,rfl⟩ ⟨_,rfl,((a.k3r).fc)⟩)
instance:CL prog 101 (type_of% @Wa):=⟨@Wa⟩
theorem vi {b:Bool} {d:LI} {f:Bool} {g:LI} {h i:Hdr} {out:Bool×LI×Bool×LI} (c:m_dr b d f g=some out) (l:imm (rI .u32) h.v d∈ros) (m:imm (rI .u32) i.v g∈ros) (a:St w0 ros rs w):
  Calls prog 59 #[.agg #[.bool b,h.v],.agg #[.bool f,i.v]] w (fun e w=>∃ (j k:Hdr),e=.returned (.agg #[.bool out.1,j.v,.bool out.2.2.1,k.v])∧St w0 ros (row 93 (rI .u32) j.v out.2.1::row 93 (rI .u32) k.v out.2.2.2::rs) w):=by
 refine en func59 rfl ntmps59 fun Q n=>?_
 refine v 0 ?_
 refine fun _ _ _ _ _ _ _ _ _ _ _ _ _ _ _ _ _ _ _ _ _ _ _ _ a=>⟨fun _ _ _ _ c _ _ _ _ a=>?_,vt⟩
 replace a:=(a.k10).fz
 exact vx
instance:CL prog 59 (type_of% @vi):=⟨@vi⟩
theorem zf {i:Bool} {m:LI} {j:Bool} {n:LI} {o:Bool} {p:LI} {q:Bool} {r:LI} {s:Bool} {t:LI} {u:Bool} {x:LI} {y:Bool} {A:LI} {B:Bool} {C:LI} {k l D E F G H I:Hdr} {out:Bool×LI×Bool×LI} (c:m_ds i m j n o p q r s t u x y A B C=some out) (O:imm (rI .u32) k.v m∈ros) (R:imm (rI .u32) l.v n∈ros) (S:imm (rI .u32) D.v p∈ros) (T:imm (rI .u32) E.v r∈ros) (U:imm (rI .u32) F.v t∈ros) (V:imm (rI .u32) G.v x∈ros) (W:imm (rI .u32) H.v A∈ros) (X:imm (rI .u32) I.v C∈ros) (a:St w0 ros rs w):
  Calls prog 61 #[.agg #[.bool i,k.v,.bool j,l.v],.agg #[.bool o,D.v,.bool q,E.v],.agg #[.bool s,F.v,.bool u,G.v],.agg #[.bool y,H.v,.bool B,I.v]] w (fun e w=>∃ (J K:Hdr),e=.returned (.agg #[.bool out.1,J.v,.bool out.2.2.1,K.v])∧St w0 ros (row 93 (rI .u32) J.v out.2.1::row 93 (rI .u32) K.v out.2.2.2::rs) w):=by
 refine en func61 rfl ntmps61 fun Q Z=>?_
 refine z 5 3 ?_;intro L w a a0 w a a1 w a a2 w a N w a
 refine bE c fun a3 a4 c=>bE c fun a5 a6 c=>bE c fun a7 a8 c=>bE c fun a9 b0 c=>bE c fun b b1 c=>?_
 refine jN (Nat×Hdr×Hdr) [4,8] (fun (d,f,h)=>[(9,(pB d))]) (fun (d,f,h)=>St w0 ros (box L 62 [.bool i,k.v,.bool j,l.v]::box N 62 [.bool false,hnil.v,.bool false,hnil.v]::row 93 (rI .u32) f.v b.2.1::row 93 (rI .u32) h.v b.2.2.2::box d 62 [.bool b.1,f.v,.bool b.2.2.1,h.v]::rs)) rfl ?_ ?_
 ·refine dS [4,7,12,15,16,17,18] 7 C1 ?_
  replace a:=a.drew
  exact zx
 rintro ⟨d,f,h⟩ g w a
 exact vx
instance:CL prog 61 (type_of% @zf):=⟨@zf⟩
theorem yf {d6:List (List (Bool×LI×Bool×LI))} {b2:Int} {d:Hdr} {d7:List Hdr} {out:(List (List (Bool×LI×Bool×LI)))×LI×Bool×LI×Bool×LI} (c:m_dz d6 b2=some out) (a:St w0 ros (row 107 rH d.v d7::fam 62 (rP rB (rP (rS (rI .u32)) (rP rB (rS (rI .u32))))) d7 d6::rs) w):
  Calls prog 20 #[d.v,iV b2] w (fun e w=>∃ (d8:List Hdr) (d9 e1 e2:Hdr),e=.returned (.tuple #[d9.v,.agg #[.bool out.2.2.1,e1.v,.bool out.2.2.2.2.1,e2.v]])∧St w0 ros (row 107 rH d.v d8::fam 62 (rP rB (rP (rS (rI .u32)) (rP rB (rS (rI .u32))))) d8 out.1::row 3 I1 d9.v out.2.1::row 93 (rI .u32) e1.v out.2.2.2.1::row 93 (rI .u32) e2.v out.2.2.2.2.2::rs) w):=by
 refine en func20 rfl ntmps20 fun Q h4=>?_
 refine z 6 14 ?_;intro k w a k5 k6 c k7 w a k8 k9 c l0 w a m w a w a
 obtain ⟨⟨e3,e4,e5,e6,e7,e8⟩,h5,c⟩:=bs c
 replace a:=a.rowNh 3 I1
 refine lpN ((List Hdr)×Hdr×Hdr×Hdr) ((List Hdr)×Hdr×Hdr×Hdr) h5 [0,1,5,6] (fun (F,G,H,p,t,h,x) (r,s,f,i)=>[(7,i.v),(8,iV x)]) (fun (F,G,H,p,t,h,x) (r,s,f,i)=>St w0 ros (row 107 rH d.v r::fam 62 (rP rB (rP (rS (rI .u32)) (rP rB (rS (rI .u32))))) r F::box k 62 [.bool false,hnil.v,.bool false,hnil.v]::row 93 (rI .u32) s.v H::row 93 (rI .u32) f.v t::box m 62 [.bool G,s.v,.bool p,f.v]::row 3 I1 i.v h::rs)) (fun | (e3,e4,e5,e6,e7,e8),(b3,b4,b6,b7)=>(.exit 0,[(7,b7.v)],St w0 ros (row 107 rH d.v b3::fam 62 (rP rB (rP (rS (rI .u32)) (rP rB (rS (rI .u32))))) b3 e3::box k 62 [.bool false,hnil.v,.bool false,hnil.v]::row 93 (rI .u32) b4.v e5::row 93 (rI .u32) b6.v e7::box m 62 [.bool e4,b4.v,.bool e6,b6.v]::row 3 I1 b7.v e8::rs))) rfl (_,_,_,_) (a.k3v) rfl ?_ ?_
 ·clear a
  rintro ⟨b3,b4,b6,b7⟩ g w a
  refine q 3 rfl (dS [2,3] 2 C1 ?_)
  replace a:=a.drew
  refine z 4 2 ?_;intro w a
  cases c
  exact h4 _ _ _ (G4 results20 ⟨rfl,rfl⟩ (A4 rfl rfl a R0 D5 rfl) ⟨_,_,_,_,rfl,(a.k3w)⟩)
 rintro ⟨F,G,H,p,t,h,x⟩ ⟨r,s,f,i⟩ g w e9 a c
 refine q 8 rfl (cI c (fun h6 c=>?_) fun h6 c=>?_)
 ·refine q 3 rfl ?_
  refine jC ((List (List (Bool×LI×Bool×LI)))×Bool×LI×Bool×LI×LI×(List Hdr)×Hdr×Hdr×Hdr) [0,1,5,6,8] (fun (L,N,O,R,S,T,U,V,W,X)=>[(7,X.v)]) (fun (L,N,O,R,S,T,U,V,W,X) w=>St w0 ros (row 107 rH d.v U::fam 62 (rP rB (rP (rS (rI .u32)) (rP rB (rS (rI .u32))))) U L::box k 62 [.bool false,hnil.v,.bool false,hnil.v]::row 93 (rI .u32) V.v O::row 93 (rI .u32) W.v S::box m 62 [.bool N,V.v,.bool R,W.v]::row 3 I1 X.v T::rs) w∧m_dt x L N O R S T=some e9) rfl ?_ ?_
  ·rintro ⟨L,N,O,R,S,T,U,V,W,X⟩ g w ⟨a,c⟩
   refine q 6 rfl ?_
   cases c
   exact ln (_,_,_,_) a
  refine z 1 11 ?_
  refine bE c fun f0 h8 c=>?_
  refine lp h8 [0,1,5,6,7,8,9] (fun b8=>[(10,iV b8)]) (fun b8=>St w0 ros (row 107 rH d.v r::fam 62 (rP rB (rP (rS (rI .u32)) (rP rB (rS (rI .u32))))) r F::box k 62 [.bool false,hnil.v,.bool false,hnil.v]::row 93 (rI .u32) s.v H::row 93 (rI .u32) f.v t::box m 62 [.bool G,s.v,.bool p,f.v]::row 3 I1 i.v h::rs)) (fun | f0=>(.exit 2,[(10,iV f0)],St w0 ros (row 107 rH d.v r::fam 62 (rP rB (rP (rS (rI .u32)) (rP rB (rS (rI .u32))))) r F::box k 62 [.bool false,hnil.v,.bool false,hnil.v]::row 93 (rI .u32) s.v H::row 93 (rI .u32) f.v t::box m 62 [.bool G,s.v,.bool p,f.v]::row 3 I1 i.v h::rs))) rfl a rfl ?_ ?_
  ·clear a
   intro g w a
   refine q 7 rfl (y (J6 E5 e0 a rO0 R1) (q 3 rfl (cI c (fun i0 c=>?_) fun i0 c=>?_)))
   ·exact q 3 rfl (jx (_,_,_,_,_,_,_,_,_,_) ⟨a,c⟩)
   ·refine q 10 rfl ?_
    refine jC ((List (List (Bool×LI×Bool×LI)))×Bool×LI×(List Hdr)×Hdr) [0,1,5,6,7,8,9] (fun (Z,J,a0,j,K)=>[]) (fun (Z,J,a0,j,K) w=>St w0 ros (row 107 rH d.v j::fam 62 (rP rB (rP (rS (rI .u32)) (rP rB (rS (rI .u32))))) j Z::box k 62 [.bool false,hnil.v,.bool false,hnil.v]::row 93 (rI .u32) K.v a0::row 93 (rI .u32) f.v t::box m 62 [.bool J,K.v,.bool p,f.v]::row 3 I1 i.v h::rs) w∧m_dw h x p t b2 Z J a0=some e9) rfl ?_ ?_
    ·rintro ⟨Z,J,a0,j,K⟩ g w ⟨a,c⟩
     refine bE c fun l1 b9 c=>bE c fun c0 f1 c=>bE c fun l2 i1 c=>bE c fun l3 a1 c=>bE c fun I c1 c=>bE c fun l4 i2 c=>bE c fun b l5 c=>q 2 rfl (dS [10,21,22,23] 4 C1 ?_)
     replace a:=a.drew
     refine D1 2096127 0 10 rfl (qR 1 rfl (rQ rfl (J2 [.bool J,K.v] P0 e0 a R5) (qR 2 rfl ?_)))
     obtain ⟨l6,a2⟩:=a.famI R1 b9
     refine rQ rfl (yIa E5 e0 e0 a rO0 a2) (rQ rfl (yF1 D6 e0 a rO0 a2 rfl) (qR 1 rfl (rQ rfl (yIa X3 e0 e0 a (rdF R1 a2 b9) f1) (rQ rfl (yFe Te e0) ?_))))
     obtain ⟨l7,l8,cc5068,a⟩:=a.ld (rdF R1 a2 b9) f1
     replace a:=a.eltP
     obtain ⟨l9,m0,rfl,a⟩:=a
     replace a:=a.eltB
     obtain ⟨rfl,a⟩:=a
     replace a:=a.eltP
     obtain ⟨m1,m2,rfl,a⟩:=a
     replace a:=a.eltS
     obtain ⟨f2,rfl,a⟩:=a
     replace a:=a.swf.eltP
     obtain ⟨m3,m4,rfl,a⟩:=a
     replace a:=a.eltB
     obtain ⟨rfl,a⟩:=a
     replace a:=a.eltS
     obtain ⟨i3,rfl,a⟩:=a
     refine rQ rfl (X5 (cs:=[.bool c0.1,f2.v,.bool c0.2.2.1,i3.v]) (us:=[.bool c0.1,f2.v]) P0 e0 cc5068 rfl rfl) (qR 1 rfl (rQ rfl (J2 [.bool p,f.v] P0 e0 a R5) (qR 2 rfl ?_)))
     obtain ⟨m5,D⟩:=a.famI R1 a1
     refine rQ rfl (yIa E5 e0 e0 a rO0 D) (rQ rfl (yF1 D6 e0 a rO0 D rfl) (qR 1 rfl (rQ rfl (yIa X3 e0 e0 a (rdF R1 D a1) c1) (rQ rfl (yFe H7 e0) ?_))))
     replace a:=(a.k10).pin0
     obtain ⟨m6,a⟩:=St.pinF D a1 a c1
     obtain ⟨m7,m8,rfl,a⟩:=a.eltP
     obtain ⟨rfl,a⟩:=a.eltB
     obtain ⟨m9,n0,rfl,a⟩:=a.eltP
     obtain ⟨f3,rfl,a⟩:=a.eltS
     replace a:=a.swf
     obtain ⟨n1,n2,rfl,a⟩:=a.eltP
     obtain ⟨rfl,a⟩:=a.eltB
     obtain ⟨a3,rfl,a⟩:=a.eltS
     refine rQ rfl (X5 (cs:=[.bool I.1,f3.v,.bool I.2.2.1,a3.v]) (us:=[.bool I.2.2.1,a3.v]) P0 e0 (a.cAtP R0 mhP) rfl rfl) (Rn QSn ?_)
     replace a:=(a.k1f).fz
     refine kO (Aa i1 F0 F4 a) fun n3 w a=>dU (D1 0 2095104 21 rfl (Rn (qS rfl (sY rfl (J2 [.bool p,f.v] P0 e0 a R5) (qS rfl (qS rfl (sY rfl (yIa E5 e0 e0 a rO2 D) (sY rfl (yF1 D6 e0 a rO2 D rfl) (qS rfl (sY rfl (yIa X3 e0 e0 a (er R1 D a1) c1) (sY rfl (yFe H7 e0) (sY rfl (X5 (cs:=[.bool I.1,f3.v,.bool I.2.2.1,a3.v]) (us:=[.bool I.2.2.1,a3.v]) P0 e0 (a.cAtP R1 mhP) rfl rfl) QSn)))))))))) ?_))
     replace a:=(a.k1n).fz
     refine kO (Aa i2 F0 F2 a) fun n4 w a=>dU ?_
     refine z 2 0 ?_;intro A B w a w a
     refine Dw 0 0 (Rn QSn ?_)
     replace a:=(a.k1f).unpin
     refine bE c fun f4 i4 c=>qx 10 rfl ?_
     refine lp i4 [0,1,5,6,7,8,9] (fun (c2,c3)=>[(11,iV c3)]) (fun (c2,c3)=>St w0 ros (row 107 rH d.v j::fam 62 (rP rB (rP (rS (rI .u32)) (rP rB (rS (rI .u32))))) j c2::box k 62 [.bool false,hnil.v,.bool false,hnil.v]::row 93 (rI .u32) A.v b.2.1::row 93 (rI .u32) B.v b.2.2.2::box m 62 [.bool b.1,A.v,.bool b.2.2.1,B.v]::row 3 I1 i.v h::rs)) (fun | f4=>(.exit 4,[],St w0 ros (row 107 rH d.v j::fam 62 (rP rB (rP (rS (rI .u32)) (rP rB (rS (rI .u32))))) j f4::box k 62 [.bool false,hnil.v,.bool false,hnil.v]::row 93 (rI .u32) A.v b.2.1::row 93 (rI .u32) B.v b.2.2.2::box m 62 [.bool b.1,A.v,.bool b.2.2.1,B.v]::row 3 I1 i.v h::rs))) rfl ((a.k3x).fc) rfl ?_ ?_
     ·clear a
      intro g w a
      refine q 5 rfl (yh (rLt (n:=1) (l:=[x]) a W0 [iV x] (bp1 e0) rfl rfl (N1 (cs:=[iV x]) rfl mkI Y1)) fun n5 w a=>?_)
      refine z 1 3 ?_;intro n6 n7 c n8 w a
      exact jx (_,_,_,_,_,_,_,_,_,_) ⟨(a.k3y),c⟩
     rintro ⟨c2,c3⟩ g w n9 a c
     refine q 5 rfl (y (J6 E5 e0 a rO0 R1) (q 3 rfl (cI c (fun i5 c=>?_) fun i5 c=>?_)))
     ·refine q 8 rfl (bE c fun o0 c4 c=>?_)
      obtain ⟨o1,a4⟩:=a.famI R1 c4
      refine y (yIa E5 e0 e0 a rO0 a4) (y (yF1 D6 e0 a rO0 a4 rfl) (bE c fun C f5 c=>q 1 rfl (y (yIa X3 e0 e0 a (rdF R1 a4 c4) f5) ?_)))
      obtain ⟨o2,o3,cc5398,a⟩:=a.ld (rdF R1 a4 c4) f5
      replace a:=a.eltP
      obtain ⟨o4,o5,rfl,a⟩:=a
      replace a:=a.eltB
      obtain ⟨rfl,a⟩:=a
      replace a:=a.eltP
      obtain ⟨o6,o7,rfl,a⟩:=a
      replace a:=a.eltS
      obtain ⟨a5,rfl,a⟩:=a
      replace a:=a.swf.eltP
      obtain ⟨o8,o9,rfl,a⟩:=a
      replace a:=a.eltB
      obtain ⟨rfl,a⟩:=a
      replace a:=a.eltS
      obtain ⟨a6,rfl,a⟩:=a
      refine y (yCn (cs:=[.bool C.1,a5.v,.bool C.2.2.1,a6.v]) D5 rfl e0 cc5398) ?_
      refine z 2 9 ?_;intro i6 w a w a
      refine bE c fun f6 i7 c=>?_
      refine lp i7 [0,1,5,6,7,8,9,11,12] (fun (c5,c6)=>[(13,iV c6)]) (fun (c5,c6)=>St w0 (imm (rI .u32) a5.v C.2.1::imm (rI .u32) a6.v C.2.2.2::ros) (row 107 rH d.v j::fam 62 (rP rB (rP (rS (rI .u32)) (rP rB (rS (rI .u32))))) j c5::box k 62 [.bool false,hnil.v,.bool false,hnil.v]::row 93 (rI .u32) A.v b.2.1::row 93 (rI .u32) B.v b.2.2.2::box m 62 [.bool b.1,A.v,.bool b.2.2.1,B.v]::row 3 I1 i.v h::box i6 62 [.bool C.1,a5.v,.bool C.2.2.1,a6.v]::rs)) (fun | f6=>(.exit 6,[],St w0 ros (row 107 rH d.v j::fam 62 (rP rB (rP (rS (rI .u32)) (rP rB (rS (rI .u32))))) j f6::box k 62 [.bool false,hnil.v,.bool false,hnil.v]::row 93 (rI .u32) A.v b.2.1::row 93 (rI .u32) B.v b.2.2.2::box m 62 [.bool b.1,A.v,.bool b.2.2.1,B.v]::row 3 I1 i.v h::rs))) rfl ((a.k2d).facts (S0 F1 (S0 F0 (N0 (N0 E1))))) rfl ?_ ?_
      ·clear a
       intro g w a
       refine q 8 rfl ?_
       cases c
       exact lo a
      rintro ⟨c5,c6⟩ g w p0 a c
      refine q 8 rfl (cI c (fun i8 c=>?_) fun i8 c=>?_)
      ·refine q 4 rfl (bE c fun p1 c7 c=>bE c fun p2 c8 c=>bE c fun f7 f8 c=>bE c fun p3 c9 c=>bE c fun f9 g0 c=>bE c fun p4 d0 c=>bE c fun g1 g2 c=>bE c fun g3 i9 c=>bE c fun p5 g4 c=>bE c fun p6 j0 c=>dS [27,29] 2 C1 ?_)
       replace a:=a.drew
       refine D1 134217727 0 27 rfl (qR 2 rfl ?_)
       obtain ⟨p7,E⟩:=a.famI R1 c7
       refine rQ rfl (yIa E5 e0 e0 a rO0 E) (rQ rfl (yF1 D6 e0 a rO0 E rfl) (qR 3 rfl ?_))
       obtain ⟨p8,a7⟩:=a.famI R1 c8
       refine rQ rfl (yIa E5 e0 e0 a rO0 a7) (rQ rfl (yF1 D6 e0 a rO0 a7 rfl) (qR 1 rfl (rQ rfl (yIa X3 e0 e0 a (rdF R1 a7 c8) f8) ?_)))
       obtain ⟨p9,q0,cc5522,a⟩:=a.ld (rdF R1 a7 c8) f8
       replace a:=a.eltP
       obtain ⟨q1,q2,rfl,a⟩:=a
       replace a:=a.eltB
       obtain ⟨rfl,a⟩:=a
       replace a:=a.eltP
       obtain ⟨q3,q4,rfl,a⟩:=a
       replace a:=a.eltS
       obtain ⟨j1,rfl,a⟩:=a
       replace a:=a.swf.eltP
       obtain ⟨q5,q6,rfl,a⟩:=a
       replace a:=a.eltB
       obtain ⟨rfl,a⟩:=a
       replace a:=a.eltS
       obtain ⟨j2,rfl,a⟩:=a
       refine rQ rfl (yCn (cs:=[.bool f7.1,j1.v,.bool f7.2.2.1,j2.v]) D5 rfl e0 cc5522) (rQ rfl (J2 [.bool C.1,a5.v,.bool C.2.2.1,a6.v] D5 e0 a R7) (qR 2 rfl ?_))
       obtain ⟨q7,a8⟩:=a.famI R1 c9
       refine rQ rfl (yIa E5 e0 e0 a rO0 a8) (rQ rfl (yF1 D6 e0 a rO0 a8 rfl) (qR 1 rfl (rQ rfl (yIa X3 e0 e0 a (rdF R1 a8 c9) g0) ?_)))
       obtain ⟨q8,q9,cc5529,a⟩:=a.ld (rdF R1 a8 c9) g0
       replace a:=a.eltP
       obtain ⟨r0,r1,rfl,a⟩:=a
       replace a:=a.eltB
       obtain ⟨rfl,a⟩:=a
       replace a:=a.eltP
       obtain ⟨r2,r3,rfl,a⟩:=a
       replace a:=a.eltS
       obtain ⟨j3,rfl,a⟩:=a
       replace a:=a.swf.eltP
       obtain ⟨r4,r5,rfl,a⟩:=a
       replace a:=a.eltB
       obtain ⟨rfl,a⟩:=a
       replace a:=a.eltS
       obtain ⟨j4,rfl,a⟩:=a
       refine rQ rfl (yCn (cs:=[.bool f9.1,j3.v,.bool f9.2.2.1,j4.v]) D5 rfl e0 cc5529) (qR 2 rfl ?_)
       obtain ⟨r7,a9⟩:=a.famI R1 d0
       refine rQ rfl (yIa E5 e0 e0 a rO0 a9) (rQ rfl (yF1 D6 e0 a rO0 a9 rfl) (qR 1 rfl (rQ rfl (yIa X3 e0 e0 a (rdF R1 a9 d0) g2) ?_)))
       obtain ⟨r9,s0,cc5536,a⟩:=a.ld (rdF R1 a9 d0) g2
       replace a:=a.eltP
       obtain ⟨s1,s2,rfl,a⟩:=a
       replace a:=a.eltB
       obtain ⟨rfl,a⟩:=a
       replace a:=a.eltP
       obtain ⟨s3,s4,rfl,a⟩:=a
       replace a:=a.eltS
       obtain ⟨j5,rfl,a⟩:=a
       replace a:=a.swf.eltP
       obtain ⟨s5,s6,rfl,a⟩:=a
       replace a:=a.eltB
       obtain ⟨rfl,a⟩:=a
       replace a:=a.eltS
       obtain ⟨j6,rfl,a⟩:=a
       refine rQ rfl (yCn (cs:=[.bool g1.1,j5.v,.bool g1.2.2.1,j6.v]) D5 rfl e0 cc5536) (Rn QSn (kT_ (zf i9 F5 F4 F6 F7 F3 F2 F1 F0 a) fun j7 j8 w a=>dU (D0 268435456 31 29 rfl (rQ rfl (yIs X3 e0 e0 a (rdF R3 E c7) g4) (Rn (qS rfl (qS rfl (sY rfl (yIa E5 e0 e0 a rO2 E) (sY rfl (yF1 D6 e0 a rO2 E rfl) (qS rfl QSn))))) ?_)))))
       replace a:=(a.fz.fz).k10
       refine LT wn (w8 (cs:=[.bool g3.1,j7.v,.bool g3.2.2.1,j8.v]) (a.foc E c7) D5 e0 e0 rfl (mkP mkB (mkP (mkS F1) (mkP mkB (mkS F0)))) g4) fun w a=>?_
       replace a:=a.unfoc' E j0
       refine z 1 7 ?_
       cases c
       exact lo ((a.k3z).facts (S0 F8 (S0 F9 (N0 (N0 (N0 (N0 (N0 (N0 (N0 (N0 (N0 (N0 E1)))))))))))))
      ·refine q 2 rfl ?_
       cases c
       exact xo ((a.k40).fc)
     ·refine q 2 rfl ?_
      cases c
      exact xo a
    refine cIn c (fun j9 c=>?_) fun j9 c=>?_
    ·exact q 1 rfl (jx (_,_,_,_,_) ⟨a,c⟩)
    ·refine q 1 rfl (bE c fun s7 g5 c=>bE c fun s8 g6 c=>bE c fun s9 d1 c=>bE c fun t0 g7 c=>dS [13,15] 2 C1 ?_)
     replace a:=a.drew
     refine D0 8191 0 13 rfl (qR 6 rfl ?_)
     obtain ⟨g8,d2⟩:=a.famI R1 g5
     refine rQ rfl (yIa E5 e0 e0 a rO0 d2) (rQ rfl (yF1 D6 e0 a rO0 d2 rfl) (qR 2 rfl ?_))
     obtain ⟨g9,d3⟩:=a.famI R1 g6
     refine rQ rfl (yIa E5 e0 e0 a rO0 d3) (rQ rfl (yF1 D6 e0 a rO0 d3 rfl) ?_)
     obtain ⟨t1,b0⟩:=H9 (u:=g8) d1 (a.famL (mtR mhR))
     refine rQ rfl (yIs E5 e0 e0 a rO0 b0) (Rn QSn (LT wn (W3 (cs:=[g8.v]) a D6 rfl e0 e0 rfl (mkF rfl) b0) fun w a=>D0 16384 12 15 rfl ?_))
     obtain ⟨t2,d4⟩:=H9 (u:=g9) g7 (Bf d1 b0 (a.famL (mtR mhR)))
     refine rQ rfl (yIs E5 e0 e0 a rO0 d4) (Rn (qS rfl (qS rfl QSn)) (LT wn (W3 (cs:=[g9.v]) a D6 rfl e0 e0 rfl (mkF rfl) d4) fun w a=>?_))
     replace a:=(a.k10).fswap d2 g5 d3 g6 b0 d1 d4 g7
     refine z 4 1 ?_;intro t3 t4 c t5 w a w a
     exact jx (_,_,_,_,_) ⟨((a.k41).fc),c⟩
  rintro b8 g w t6 a c
  refine q 5 rfl (y (J6 E5 e0 a rO0 R1) (bE c fun k0 o c=>q 2 rfl ?_))
  refine jW 9 [0,1,5,6,7,8,9,10] [(38,.bool k0)] (St w0 ros (row 107 rH d.v r::fam 62 (rP rB (rP (rS (rI .u32)) (rP rB (rS (rI .u32))))) r F::box k 62 [.bool false,hnil.v,.bool false,hnil.v]::row 93 (rI .u32) s.v H::row 93 (rI .u32) f.v t::box m 62 [.bool G,s.v,.bool p,f.v]::row 3 I1 i.v h::rs)) rfl (fun h0=>?_) ?_
  ·refine gI 29 o rfl (fun k1 o=>?_) fun k1 o=>?_
   ·refine q 2 rfl (bE o fun t7 d5 o=>?_)
    obtain ⟨t8,b1⟩:=a.famI R1 d5
    refine y (yIa E5 e0 e0 a rO0 b1) (y (yF1 D6 e0 a rO0 b1 rfl) (bE o fun h1 h3 o=>q 1 rfl (y (yIa X3 e0 e0 a (rdF R1 b1 d5) h3) ?_)))
    obtain ⟨t9,u0,cc5575,a⟩:=a.ld (rdF R1 b1 d5) h3
    replace a:=a.eltP
    obtain ⟨u1,u2,rfl,a⟩:=a
    replace a:=a.eltB
    obtain ⟨rfl,a⟩:=a
    replace a:=a.eltP
    obtain ⟨u3,u4,rfl,a⟩:=a
    replace a:=a.eltS
    obtain ⟨k2,rfl,a⟩:=a
    replace a:=a.swf.eltP
    obtain ⟨u5,u6,rfl,a⟩:=a
    replace a:=a.eltB
    obtain ⟨rfl,a⟩:=a
    replace a:=a.eltS
    obtain ⟨k3,rfl,a⟩:=a
    refine y (yCn (cs:=[.bool h1.1,k2.v,.bool h1.2.2.1,k3.v]) D5 rfl e0 cc5575) (bE o fun u7 u8 o=>?_)
    refine z 1 1 ?_;intro w a
    cases o
    exact h0 _ _ (a.fc) rfl
   ·refine q 9 rfl ?_
    cases o
    exact h0 _ _ a rfl
  intro g w a
  refine q 2 rfl ?_
  refine cJ c (fun k4 c=>?_) fun k4 c=>?_
  ·refine q 9 rfl ?_
   cases c
   exact lo a
  ·refine q 2 rfl ?_
   cases c
   exact xo a
 ·refine q 2 rfl ?_
  cases c
  exact lx (_,_,_,_) a
instance:CL prog 20 (type_of% @yf):=⟨@yf⟩
theorem ui {b:List (List (Bool×LI))} {d:Hdr} {out:Int} (c:m_d0 b=some out) (e:imm (rS (rP rB (rS (rI .u32)))) d.v b∈ros) (a:St w0 ros rs w):
  Calls prog 6 #[d.v] w (rv w0 ros rs (iV out)):=by
 refine en func6 rfl ntmps6 fun Q f=>bE c fun j g c=>q 8 rfl (cT_ (uf g e a) fun k l w a=>bE c fun m h c=>q 1 rfl (cZ (tf h e a) fun w a=>bE c fun n i c=>yC (P9 Xu (a2 e0 e0)) (yf i a) ?_))
 rintro _ w ⟨o,p,r,s,rfl,a⟩
 refine ⟨_,rfl,?_⟩
 refine nf (q 3 rfl (yb (rAl a Ce) fun t w a=>q 1 rfl (sB rfl a D5 fun w a=>q 5 rfl (y (Y2 W0 e0 a rO3) (q 4 rfl ?_)))))
 cases c
 exact za f results6 ⟨rfl,(a.k2u)⟩
instance:CL prog 6 (type_of% @ui):=⟨@ui⟩
theorem Ep {s:List (List (Bool×LI))} {t:LI} {u x:Hdr} {out:(List (List (Bool×LI)))} (c:m_d3 s t=some out) (y:imm (rS (rP rB (rS (rI .u32)))) u.v s∈ros) (A:imm I1 x.v t∈ros) (a:St w0 ros rs w):
  Calls prog 63 #[u.v,x.v] w (fun e w=>∃ (B:Hdr),e=.returned (B.v)∧St w0 ros (row 39 (rS (rP rB (rS (rI .u32)))) B.v out::rs) w):=by
 refine en func63 rfl ntmps63 fun Q G=>bE c fun C H c=>q 17 rfl ?_
 replace a:=a.rowNh 39 (rS (rP rB (rS (rI .u32))))
 refine lpN Hdr Hdr H [0,1] (fun (d,j) b=>[(5,b.v),(6,iV j)]) (fun (d,j) b=>St w0 ros (row 39 (rS (rP rB (rS (rI .u32)))) b.v d::rs)) (fun | C,k=>(.exit 0,[(5,k.v)],St w0 ros (row 39 (rS (rP rB (rS (rI .u32)))) k.v C::rs))) rfl _ a rfl ?_ ?_
 ·clear a
  rintro k g w a
  refine q 9 rfl ?_
  cases c
  exact G _ _ _ (I3 results63 ⟨rfl,rfl⟩ ⟨_,rfl,a⟩)
 rintro ⟨d,j⟩ b g w L a c
 refine z 1 3 ?_
 refine cI c (fun I c=>?_) fun I c=>?_
 ·refine q 16 rfl (bE c fun m J c=>?_)
  replace a:=a.rowNh 52 (rP rB (rS (rI .u32)))
  refine lpN Hdr Hdr J [0,1,5,6] (fun (o,p) i=>[(7,i.v),(8,iV p)]) (fun (o,p) i=>St w0 ros (row 39 (rS (rP rB (rS (rI .u32)))) b.v d::row 52 (rP rB (rS (rI .u32))) i.v o::rs)) (fun | m,f=>(.exit 2,[(7,f.v)],St w0 ros (row 39 (rS (rP rB (rS (rI .u32)))) b.v d::row 52 (rP rB (rS (rI .u32))) f.v m::rs))) rfl _ (a.k10) rfl ?_ ?_
  ·clear a
   rintro f g w a
   refine q 5 rfl ?_
   replace a:=(a.k10).fz
   refine yh (rLt (n:=1) (l:=[m]) a L5 [f.v] (bp1 e0) rfl rfl (N1 (cs:=[f.v]) rfl (mkS F0) Y1)) fun N w a=>?_
   refine z 1 9 ?_;intro O R c S w a
   cases c
   exact ln _ ((a.k11).fc)
  rintro ⟨o,p⟩ i g w T a c
  refine z 1 3 ?_
  refine cI c (fun K c=>?_) fun K c=>?_
  ·refine q 4 rfl (bE c fun U D c=>bE c fun V E c=>bE c fun h F c=>bE c fun W X c=>dS [11,12,13] 3 C1 ?_)
   replace a:=a.drew
   refine D1 2047 0 11 rfl (qR 3 rfl (rQ rfl (yIa L5 e0 e0 a (rdI y) D) ?_))
   obtain ⟨Z,a⟩:=iLs a y D
   refine rQ rfl (yCt W4 e0 a F1 rfl) (qR 2 rfl (rQ rfl (yIa W0 e0 e0 a (rdI (F_2 A)) E) (rQ rfl (yI O_3 e0 a (rdI (F_2 A)) E) (rQ rfl (yIa D3 e0 e0 a (rdI F0) F) ?_))))
   obtain ⟨a0,a1,a⟩:=iLd a F0 F
   obtain ⟨a2,a3,rfl,a⟩:=a.eltP
   obtain ⟨rfl,a⟩:=a.eltB
   obtain ⟨r,rfl,a⟩:=a.eltS
   refine rQ rfl (V6 (cs:=[.bool h.1,r.v]) P0 rfl e0 a F1) (Rn QSn (LH wn (rLt (n:=1) (l:=[(h.1,h.2)]) a D3 [.agg #[.bool h.1,r.v]] (bp1 e0) rfl rfl (N1 (cs:=[.bool h.1,r.v]) rfl (mkP mkB (mkS F0)) Y1)) fun a4 w a=>dU ?_))
   refine z 3 7 ?_;intro a5 w a
   cases c
   exact ln _ ((a.k1m).fc)
  ·refine q 2 rfl ?_
   cases c
   exact lx _ a
 ·refine q 2 rfl ?_
  cases c
  exact lx _ a
instance:CL prog 63 (type_of% @Ep):=⟨@Ep⟩
theorem Dp {b:List (List (Bool×LI))} {d:Int} {e:Hdr} {out:Int} (c:m_d4 b d=some out) (f:imm (rS (rP rB (rS (rI .u32)))) e.v b∈ros) (a:St w0 ros rs w):
  Calls prog 62 #[e.v,iV d] w (rv w0 ros rs (iV out)):=by
 exact en func62 rfl ntmps62 fun Q g=>vx
instance:CL prog 62 (type_of% @Dp):=⟨@Dp⟩
theorem Cp {d8:List (List (Bool×LI))} {d9:Hdr} {out:(List (Bool×LI))} (c:m_eb d8=some out) (e1:imm (rS (rP rB (rS (rI .u32)))) d9.v d8∈ros) (a:St w0 ros rs w):
  Calls prog 64 #[d9.v] w (ro w0 ros rs 52 (rP rB (rS (rI .u32))) out):=by
 refine en func64 rfl ntmps64 fun Q e2=>bE c fun l6 h4 c=>q 8 rfl (cZ (tf h4 e1 a) fun w a=>bE c fun l7 h6 c=>q 6 rfl (cT_ (uf h6 e1 a) fun x l8 w a=>bE c fun p h7 c=>q 7 rfl (yC (P9 Xu (a2 e0 e0)) (yf h7 a) ?_)))
 rintro _ w ⟨b,e3,l9,m0,rfl,a⟩
 refine ⟨_,rfl,?_⟩
 refine nf (q 3 rfl (yb (rAl a Ce) fun m1 w a=>q 1 rfl (sB rfl a D5 fun w a=>q 6 rfl (y (Y2 W0 e0 a rO3) (q 4 rfl (cI c (fun h8 c=>?_) fun h8 c=>?_))))))
 ·refine q 7 rfl ?_
  cases c
  replace a:=a.rowNh 52 (rP rB (rS (rI .u32)))
  exact e2 _ _ _ (I3 results64 ⟨rfl,rfl⟩ ⟨_,rfl,(a.k3r)⟩)
 ·refine q 9 rfl (bE c fun e4 i0 c=>?_)
  refine lp i0 [3,4,5] (fun b7=>[(7,iV b7)]) (fun b7=>St w0 ros (row 107 rH x.v b::fam 62 (rP rB (rP (rS (rI .u32)) (rP rB (rS (rI .u32))))) b p.1::row 3 I1 e3.v p.2.1::rs)) (fun | e4=>(.exit 0,[(7,iV e4)],St w0 ros (row 107 rH x.v b::fam 62 (rP rB (rP (rS (rI .u32)) (rP rB (rS (rI .u32))))) b p.1::rs))) rfl (a.k42) rfl ?_ ?_
  ·clear a
   intro g w a
   refine bE c fun e i1 c=>q 4 rfl (cO (w_f i1 a) fun f w a=>bE c fun h i2 c=>cO (w_f i2 a) fun i w a=>y (ua (us:=[.bool e.1,f.v,.bool h.1,i.v]) [(0,.agg #[.bool e.1,f.v]),(1,.agg #[.bool h.1,i.v])] rk (bp2 e0 e0) rfl) (yb (rAl a Ce) fun N w a=>sB rfl a D5 fun w a=>bE c fun m2 i3 c=>q 5 rfl (yh (rMk a X3 e0 i3) fun o w a=>?_)))
   refine bE c fun e5 i4 c=>q 10 rfl ?_
   refine lp i4 [3,4,7,8,9] (fun (b8,b9)=>[(10,iV b9)]) (fun (b8,b9)=>St w0 ros (row 107 rH x.v b::fam 62 (rP rB (rP (rS (rI .u32)) (rP rB (rS (rI .u32))))) b p.1::row 93 (rI .u32) f.v e.2::row 93 (rI .u32) i.v h.2::box N 62 [.bool e.1,f.v,.bool h.1,i.v]::row 62 (rP rB (rP (rS (rI .u32)) (rP rB (rS (rI .u32))))) o.v b8::rs)) (fun | e5=>(.exit 2,[],St w0 ros (row 107 rH x.v b::fam 62 (rP rB (rP (rS (rI .u32)) (rP rB (rS (rI .u32))))) b p.1::row 93 (rI .u32) f.v e.2::row 93 (rI .u32) i.v h.2::box N 62 [.bool e.1,f.v,.bool h.1,i.v]::row 62 (rP rB (rP (rS (rI .u32)) (rP rB (rS (rI .u32))))) o.v e5::rs))) rfl (a.k43) rfl ?_ ?_
   ·clear a
    intro g w a
    refine q 6 rfl (y (J2 [.bool e.1,f.v,.bool h.1,i.v] D5 e0 a R4) (bE c fun m3 e6 c=>y (yIs X3 e0 e0 a rO5 e6) ?_))
    replace a:=((((a.k16).fz).k16).fz).k1f
    refine yt (w8 (cs:=[.bool e.1,f.v,.bool h.1,i.v]) a D5 e0 e0 rfl (mkP mkB (mkP (mkS F1) (mkP mkB (mkS F0)))) e6) fun w a=>bE c fun B i5 c=>q 11 rfl ?_
    refine lp i5 [3,4,7,8,9] (fun (O,c0)=>[(11,iV c0)]) (fun (O,c0)=>St w0 (imm (rI .u32) f.v e.2::imm (rI .u32) i.v h.2::ros) (row 107 rH x.v b::fam 62 (rP rB (rP (rS (rI .u32)) (rP rB (rS (rI .u32))))) b p.1::box N 62 [.bool e.1,f.v,.bool h.1,i.v]::row 62 (rP rB (rP (rS (rI .u32)) (rP rB (rS (rI .u32))))) o.v O::rs)) (fun | B=>(.exit 4,[],St w0 ros (row 62 (rP rB (rP (rS (rI .u32)) (rP rB (rS (rI .u32))))) o.v B::rs))) rfl ((a.k1l).facts (S0 F1 (S0 F0 (N0 (N0 E1))))) rfl ?_ ?_
    ·clear a
     intro g w a
     refine bE c fun m4 i6 c=>q 4 rfl (cO (w_f i6 a) fun m5 w a=>yb (rAl a I4) fun R w a=>sB rfl a P0 fun w a=>q 9 rfl ?_)
     obtain ⟨⟨G,a0⟩,i7,c⟩:=bs c
     refine lpN Hdr Hdr i7 [3,9,14] (fun (C,a1,c1) t=>[(15,iV c1)]) (fun (C,a1,c1) t=>St w0 ros (row 62 (rP rB (rP (rS (rI .u32)) (rP rB (rS (rI .u32))))) o.v B::row 93 (rI .u32) t.v a1::box R 52 [.bool C,t.v]::rs)) (fun | (G,a0),u=>(.exit 8,[],St w0 ros (row 62 (rP rB (rP (rS (rI .u32)) (rP rB (rS (rI .u32))))) o.v B::row 93 (rI .u32) u.v a0::box R 52 [.bool G,u.v]::rs))) rfl _ (a.k18) rfl ?_ ?_
     ·clear a
      rintro u g w a
      refine bE c fun e7 i8 c=>q 14 rfl ?_
      replace a:=((a.k10).fz).rowNh 52 (rP rB (rS (rI .u32)))
      refine lpN Hdr Hdr i8 [3,9,14] (fun (a3,c2) S=>[(18,S.v),(19,iV c2)]) (fun (a3,c2) S=>St w0 (imm (rI .u32) u.v a0::ros) (row 62 (rP rB (rP (rS (rI .u32)) (rP rB (rS (rI .u32))))) o.v B::box R 52 [.bool G,u.v]::row 52 (rP rB (rS (rI .u32))) S.v a3::rs)) (fun | e7,c3=>(.exit 10,[(18,c3.v)],St w0 ros (row 52 (rP rB (rS (rI .u32))) c3.v e7::rs))) rfl _ (a.k1c) rfl ?_ ?_
      ·clear a
       rintro c3 g w a
       refine q 9 rfl ?_
       cases c
       exact e2 _ _ _ (I3 results64 ⟨rfl,rfl⟩ ⟨_,rfl,a⟩)
      rintro ⟨a3,c2⟩ S g w m6 a c
      refine q 8 rfl (cI c (fun i9 c=>?_) fun i9 c=>?_)
      ·refine q 5 rfl (bE c fun H c4 c=>bE c fun m7 e8 c=>bE c fun j I c=>bE c fun d c5 c=>?_)
       refine jN (Nat×Hdr) [3,9,14,18,19] (fun (a4,D)=>[(20,(pB a4))]) (fun (a4,D)=>St w0 (imm (rI .u32) u.v a0::ros) (row 62 (rP rB (rP (rS (rI .u32)) (rP rB (rS (rI .u32))))) o.v B::box R 52 [.bool G,u.v]::row 52 (rP rB (rS (rI .u32))) S.v a3::row 93 (rI .u32) D.v d.2.1::box a4 52 [.bool d.1,D.v]::rs)) rfl ?_ ?_
       ·refine dS [6,12,16,17,18] 5 C1 ?_
        replace a:=a.drew
        refine Dm 4031 0 [6,16] (qR 2 rfl (rQ rfl (yIa X3 e0 e0 a rO0 c4) (rQ rfl (yFe Te e0) ?_)))
        replace a:=a.pin0
        obtain ⟨m8,a⟩:=a.pinO c4
        obtain ⟨m9,n0,rfl,a⟩:=a.eltP
        obtain ⟨rfl,a⟩:=a.eltB
        obtain ⟨n1,n2,rfl,a⟩:=a.eltP
        obtain ⟨a5,rfl,a⟩:=a.eltS
        replace a:=a.swf
        obtain ⟨n3,n4,rfl,a⟩:=a.eltP
        obtain ⟨rfl,a⟩:=a.eltB
        obtain ⟨e9,rfl,a⟩:=a.eltS
        refine rQ rfl (X5 (cs:=[.bool H.1,a5.v,.bool H.2.2.1,e9.v]) (us:=[.bool H.1,a5.v]) P0 e0 (a.cAtP R0 mhP) rfl rfl) (rQ rfl (J2 [.bool G,u.v] P0 e0 a R1) (qR 2 rfl (rQ rfl (yIa X3 e0 e0 a (P8 R0) I) (rQ rfl (yFe H7 e0) ?_))))
        obtain ⟨n5,a⟩:=a.pinO I
        obtain ⟨n6,n7,rfl,a⟩:=a.eltP
        obtain ⟨rfl,a⟩:=a.eltB
        obtain ⟨n8,n9,rfl,a⟩:=a.eltP
        obtain ⟨T,rfl,a⟩:=a.eltS
        replace a:=a.swf
        obtain ⟨o0,o1,rfl,a⟩:=a.eltP
        obtain ⟨rfl,a⟩:=a.eltB
        obtain ⟨r,rfl,a⟩:=a.eltS
        refine rQ rfl (X5 (cs:=[.bool j.1,T.v,.bool j.2.2.1,r.v]) (us:=[.bool j.2.2.1,r.v]) P0 e0 (a.cAtP R0 mhP) rfl rfl) (Rn QSn ?_)
        refine La1 rfl ?_ (La1 rfl ?_ LAn)
        ·refine kO (Aa e8 F3 F4 a) fun j0 w a=>dU (Dm 0 3968 [12,16] (Rn (qS rfl (qS rfl (sY rfl (yIa X3 e0 e0 a (P8 R1) I) (sY rfl (yFe H7 e0) (sY rfl (X5 (cs:=[.bool j.1,T.v,.bool j.2.2.1,r.v]) (us:=[.bool j.2.2.1,r.v]) P0 e0 (a.cAtP R1 mhP) rfl rfl) QSn))))) ?_))
         refine La1 rfl ?_ (La1 rfl ?_ LAn)
         ·replace a:=a.fz
          refine kO (Wa c5 F0 F1 a) fun z w a=>dU (D1 57344 0 16 rfl (qR 3 rfl (Rn QSn (LB wn (rAl a I4) fun f0 w a=>dU (D0 0 57344 17 rfl (Rn (qS rfl (qS rfl (qS rfl QSn))) (LT wn (G3 (vals':=[.bool d.1,z.v]) (us:=[.bool d.1,z.v]) a P0 e0 e0 rfl rfl (H3 rfl) rfl) fun w a=>D1 0 32768 18 rfl (Rn (qS rfl QSn) ?_))))))))
          refine Ly wn (a_ (.bool d.2.2) e0) (dU (Dw 0 0 (Rn QSn ?_)))
          replace a:=(a.k16).unpin
          exact jr (_,_) ((a.k44).facts (S0 F5 (N0 (N0 (N0 (N0 (N0 (N0 E1))))))))
         ·refine LB wn (rAl a I4) fun f0 w a=>dU (D1 0 3968 12 rfl (Rn (qS rfl (qS rfl (sY rfl (yIa X3 e0 e0 a (P8 R2) I) (sY rfl (yFe H7 e0) (sY rfl (X5 (cs:=[.bool j.1,T.v,.bool j.2.2.1,r.v]) (us:=[.bool j.2.2.1,r.v]) P0 e0 (a.cAtP R2 mhP) rfl rfl) QSn))))) ?_))
          replace a:=(a.k10).fz
          refine kO (Wa c5 F0 F1 a) fun z w a=>dU (D0 57344 0 17 rfl (qR 3 rfl (Rn QSn ?_)))
          replace a:=a.k10
          refine LT wn (G3 (vals':=[.bool d.1,z.v]) (us:=[.bool d.1,z.v]) a P0 e0 e0 rfl rfl (H3 rfl) rfl) fun w a=>D1 0 32768 18 rfl (Rn (qS rfl QSn) (Ly wn (a_ (.bool d.2.2) e0) (dU (Dw 0 0 (Rn QSn ?_)))))
          replace a:=(a.k16).unpin
          exact jr (_,_) ((a.k44).facts (S0 F5 (N0 (N0 (N0 (N0 (N0 (N0 E1))))))))
        ·refine LB wn (rAl a I4) fun f0 w a=>dU (D1 0 4031 6 rfl (Rn (qS rfl (qS rfl (sY rfl (yIa X3 e0 e0 a (P8 R1) c4) (sY rfl (yFe Te e0) (sY rfl (X5 (cs:=[.bool H.1,a5.v,.bool H.2.2.1,e9.v]) (us:=[.bool H.1,a5.v]) P0 e0 (a.cAtP R1 (mtP mhP)) rfl rfl) (sY rfl (J2 [.bool G,u.v] P0 e0 a R2) (qS rfl (qS rfl (sY rfl (yIa X3 e0 e0 a (P8 R1) I) (sY rfl (yFe H7 e0) (sY rfl (X5 (cs:=[.bool j.1,T.v,.bool j.2.2.1,r.v]) (us:=[.bool j.2.2.1,r.v]) P0 e0 (a.cAtP R1 mhP) rfl rfl) QSn))))))))))) (kO (Aa e8 F3 F4 a) fun j0 w a=>dU (D1 0 3968 12 rfl (Rn (qS rfl (qS rfl (sY rfl (yIa X3 e0 e0 a (P8 R2) I) (sY rfl (yFe H7 e0) (sY rfl (X5 (cs:=[.bool j.1,T.v,.bool j.2.2.1,r.v]) (us:=[.bool j.2.2.1,r.v]) P0 e0 (a.cAtP R2 mhP) rfl rfl) QSn))))) ?_)))))
         replace a:=a.fz
         refine kO (Wa c5 F0 F1 a) fun z w a=>dU (D0 57344 0 17 rfl (qR 3 rfl (Rn QSn ?_)))
         replace a:=a.k10
         refine LT wn (G3 (vals':=[.bool d.1,z.v]) (us:=[.bool d.1,z.v]) a P0 e0 e0 rfl rfl (H3 rfl) rfl) fun w a=>D1 0 32768 18 rfl (Rn (qS rfl QSn) (Ly wn (a_ (.bool d.2.2) e0) (dU (Dw 0 0 (Rn QSn ?_)))))
         replace a:=(a.k16).unpin
         exact jr (_,_) ((a.k44).facts (S0 F5 (N0 (N0 (N0 (N0 (N0 (N0 E1))))))))
       rintro ⟨a4,D⟩ g w a
       refine q 3 rfl (y (J2 [.bool d.1,D.v] P0 e0 a R4) ?_)
       replace a:=(a.k1f).fz
       refine yh (rLt (n:=1) (l:=[(d.1,d.2.1)]) a D3 [.agg #[.bool d.1,D.v]] (bp1 e0) rfl rfl (N1 (cs:=[.bool d.1,D.v]) rfl (mkP mkB (mkS F0)) Y1)) fun o2 w a=>bE c fun o3 j1 c=>?_
       replace a:=a.k1f
       refine yh (rAp a D3 e0 e0 rO1 j1) fun o4 w a=>q 9 rfl ?_
       cases c
       exact ln _ ((a.k1i).facts (S0 F1 (N0 (N0 E1))))
      ·refine q 2 rfl ?_
       cases c
       exact lx _ ((a.k2m).fc)
     rintro ⟨C,a1,c1⟩ t g w o5 a c
     refine q 8 rfl (cI c (fun j2 c=>?_) fun j2 c=>?_)
     ·refine q 5 rfl (bE c fun k J c=>bE c fun K c6 c=>bE c fun o6 f1 c=>bE c fun m c7 c=>?_)
      refine jN (Nat×Hdr) [3,9,14,15] (fun (a6,U)=>[(16,(pB a6))]) (fun (a6,U)=>St w0 (imm (rI .u32) t.v a1::ros) (row 62 (rP rB (rP (rS (rI .u32)) (rP rB (rS (rI .u32))))) o.v B::box R 52 [.bool C,t.v]::row 93 (rI .u32) U.v m.2.1::box a6 52 [.bool m.1,U.v]::rs)) rfl ?_ ?_
      ·refine dS [11,12,16,17,18] 5 C1 ?_
       replace a:=a.drew
       refine Dm 2047 0 [11,16] (qR 2 rfl (rQ rfl (yIa X3 e0 e0 a rO0 J) (rQ rfl (yFe H7 e0) ?_)))
       replace a:=a.pin0
       obtain ⟨o7,a⟩:=a.pinO J
       obtain ⟨o8,o9,rfl,a⟩:=a.eltP
       obtain ⟨rfl,a⟩:=a.eltB
       obtain ⟨p0,p1,rfl,a⟩:=a.eltP
       obtain ⟨V,rfl,a⟩:=a.eltS
       replace a:=a.swf
       obtain ⟨p2,p3,rfl,a⟩:=a.eltP
       obtain ⟨rfl,a⟩:=a.eltB
       obtain ⟨s,rfl,a⟩:=a.eltS
       refine rQ rfl (X5 (cs:=[.bool k.1,V.v,.bool k.2.2.1,s.v]) (us:=[.bool k.2.2.1,s.v]) P0 e0 (a.cAtP R0 mhP) rfl rfl) (rQ rfl (J2 [.bool C,t.v] P0 e0 a R2) (qR 2 rfl (rQ rfl (yIa X3 e0 e0 a (P8 R0) c6) (rQ rfl (yFe H7 e0) ?_))))
       obtain ⟨p4,a⟩:=a.pinO c6
       obtain ⟨p5,p6,rfl,a⟩:=a.eltP
       obtain ⟨rfl,a⟩:=a.eltB
       obtain ⟨p7,p8,rfl,a⟩:=a.eltP
       obtain ⟨f2,rfl,a⟩:=a.eltS
       replace a:=a.swf
       obtain ⟨p9,q0,rfl,a⟩:=a.eltP
       obtain ⟨rfl,a⟩:=a.eltB
       obtain ⟨a7,rfl,a⟩:=a.eltS
       refine rQ rfl (X5 (cs:=[.bool K.1,f2.v,.bool K.2.2.1,a7.v]) (us:=[.bool K.2.2.1,a7.v]) P0 e0 (a.cAtP R0 mhP) rfl rfl) (Rn QSn ?_)
       refine La1 rfl ?_ (La1 rfl ?_ LAn)
       ·replace a:=a.k10
        replace a:=a.fz
        refine kO (sf f1 F0 F1 a) fun j3 w a=>dU (Dm 0 31 [12,16] (Rn (qS rfl (qS rfl (sY rfl (yIa X3 e0 e0 a (P8 R0) J) (sY rfl (yFe H7 e0) (sY rfl (X5 (cs:=[.bool k.1,V.v,.bool k.2.2.1,s.v]) (us:=[.bool k.2.2.1,s.v]) P0 e0 (a.cAtP R0 (mtP mhP)) rfl rfl) QSn))))) ?_))
        refine La1 rfl ?_ (La1 rfl ?_ LAn)
        ·refine kO (Wa c7 F4 F0 a) fun A w a=>dU (D1 57344 0 16 rfl (qR 3 rfl (Rn QSn (LB wn (rAl a I4) fun f3 w a=>dU (D0 0 57344 17 rfl (Rn (qS rfl (qS rfl (qS rfl QSn))) (LT wn (G3 (vals':=[.bool m.1,A.v]) (us:=[.bool m.1,A.v]) a P0 e0 e0 rfl rfl (H3 rfl) rfl) fun w a=>D1 0 32768 18 rfl (Rn (qS rfl QSn) ?_))))))))
         refine Ly wn (a_ (.bool m.2.2) e0) (dU (Dw 0 0 (Rn QSn ?_)))
         replace a:=(a.k16).unpin
         exact jr (_,_) ((a.k45).facts (S0 F1 (N0 (N0 (N0 (N0 (N0 (N0 E1))))))))
        ·refine LB wn (rAl a I4) fun f3 w a=>dU (D1 0 31 12 rfl (Rn (qS rfl (qS rfl (sY rfl (yIa X3 e0 e0 a (P8 R1) J) (sY rfl (yFe H7 e0) (sY rfl (X5 (cs:=[.bool k.1,V.v,.bool k.2.2.1,s.v]) (us:=[.bool k.2.2.1,s.v]) P0 e0 (a.cAtP R1 (mtP mhP)) rfl rfl) QSn))))) (kO (Wa c7 F4 F0 a) fun A w a=>dU (D0 57344 0 17 rfl (qR 3 rfl (Rn QSn ?_))))))
         replace a:=a.k10
         refine LT wn (G3 (vals':=[.bool m.1,A.v]) (us:=[.bool m.1,A.v]) a P0 e0 e0 rfl rfl (H3 rfl) rfl) fun w a=>D1 0 32768 18 rfl (Rn (qS rfl QSn) (Ly wn (a_ (.bool m.2.2) e0) (dU (Dw 0 0 (Rn QSn ?_)))))
         replace a:=(a.k16).unpin
         exact jr (_,_) ((a.k45).facts (S0 F1 (N0 (N0 (N0 (N0 (N0 (N0 E1))))))))
       ·refine LB wn (rAl a I4) fun f3 w a=>dU (D1 0 2047 11 rfl (Rn (qS rfl (qS rfl (sY rfl (yIa X3 e0 e0 a (P8 R1) J) (sY rfl (yFe H7 e0) (sY rfl (X5 (cs:=[.bool k.1,V.v,.bool k.2.2.1,s.v]) (us:=[.bool k.2.2.1,s.v]) P0 e0 (a.cAtP R1 (mtP mhP)) rfl rfl) (sY rfl (J2 [.bool C,t.v] P0 e0 a R3) (qS rfl (qS rfl (sY rfl (yIa X3 e0 e0 a (P8 R1) c6) (sY rfl (yFe H7 e0) (sY rfl (X5 (cs:=[.bool K.1,f2.v,.bool K.2.2.1,a7.v]) (us:=[.bool K.2.2.1,a7.v]) P0 e0 (a.cAtP R1 mhP) rfl rfl) QSn))))))))))) ?_))
        replace a:=(a.k16).fz
        refine kO (sf f1 F0 F1 a) fun j3 w a=>dU (D1 0 31 12 rfl (Rn (qS rfl (qS rfl (sY rfl (yIa X3 e0 e0 a (P8 R1) J) (sY rfl (yFe H7 e0) (sY rfl (X5 (cs:=[.bool k.1,V.v,.bool k.2.2.1,s.v]) (us:=[.bool k.2.2.1,s.v]) P0 e0 (a.cAtP R1 (mtP mhP)) rfl rfl) QSn))))) (kO (Wa c7 F4 F0 a) fun A w a=>dU (D0 57344 0 17 rfl (qR 3 rfl (Rn QSn ?_))))))
        replace a:=a.k10
        refine LT wn (G3 (vals':=[.bool m.1,A.v]) (us:=[.bool m.1,A.v]) a P0 e0 e0 rfl rfl (H3 rfl) rfl) fun w a=>D1 0 32768 18 rfl (Rn (qS rfl QSn) (Ly wn (a_ (.bool m.2.2) e0) (dU (Dw 0 0 (Rn QSn ?_)))))
        replace a:=(a.k16).unpin
        exact jr (_,_) ((a.k45).facts (S0 F1 (N0 (N0 (N0 (N0 (N0 (N0 E1))))))))
      rintro ⟨a6,U⟩ g w a
      refine q 2 rfl (y (J2 [.bool C,t.v] P0 e0 a R1) (y (J2 [.bool m.1,U.v] P0 e0 a R3) (bE c fun q2 j4 c=>?_)))
      replace a:=(a.k16).fz
      refine cO (Aa j4 F1 F0 a) fun q3 w a=>?_
      replace a:=a.k16
      refine sB rfl a P0 fun w a=>q 8 rfl ?_
      cases c
      exact ln _ ((a.k46).fc)
     ·refine q 2 rfl ?_
      cases c
      exact lx _ a
    rintro ⟨O,c0⟩ g w q4 a c
    refine q 7 rfl (cI c (fun j5 c=>?_) fun j5 c=>?_)
    ·refine q 8 rfl (bE c fun f4 f5 c=>y (yIa X3 e0 e0 a rO3 f5) ?_)
     obtain ⟨q5,q6,cc555,a⟩:=a.ld rO3 f5
     replace a:=a.eltP
     obtain ⟨q7,q8,rfl,a⟩:=a
     replace a:=a.eltB
     obtain ⟨rfl,a⟩:=a
     replace a:=a.eltP
     obtain ⟨q9,r0,rfl,a⟩:=a
     replace a:=a.eltS
     obtain ⟨j6,rfl,a⟩:=a
     replace a:=a.swf.eltP
     obtain ⟨r1,r2,rfl,a⟩:=a
     replace a:=a.eltB
     obtain ⟨rfl,a⟩:=a
     replace a:=a.eltS
     obtain ⟨j7,rfl,a⟩:=a
     refine y (yCn (cs:=[.bool f4.1,j6.v,.bool f4.2.2.1,j7.v]) D5 rfl e0 cc555) (yb (rAl a Ce) fun f6 w a=>sB rfl a D5 fun w a=>q 11 rfl ?_)
     obtain ⟨⟨c8,f7,a8,f8⟩,j8,c⟩:=bs c
     refine lpN (Hdr×Hdr) (Hdr×Hdr) j8 [3,4,7,8,9,11,12] (fun (a9,c9,b0,d0,d1) (W,X)=>[(13,iV d1)]) (fun (a9,c9,b0,d0,d1) (W,X)=>St w0 (imm (rI .u32) f.v e.2::imm (rI .u32) i.v h.2::imm (rI .u32) W.v c9::imm (rI .u32) X.v d0::ros) (row 107 rH x.v b::fam 62 (rP rB (rP (rS (rI .u32)) (rP rB (rS (rI .u32))))) b p.1::box N 62 [.bool e.1,f.v,.bool h.1,i.v]::row 62 (rP rB (rP (rS (rI .u32)) (rP rB (rS (rI .u32))))) o.v O::box f6 62 [.bool a9,W.v,.bool b0,X.v]::rs)) (fun | (c8,f7,a8,f8),(b1,Z)=>(.exit 6,[],St w0 (imm (rI .u32) f.v e.2::imm (rI .u32) i.v h.2::imm (rI .u32) b1.v f7::imm (rI .u32) Z.v f8::ros) (row 107 rH x.v b::fam 62 (rP rB (rP (rS (rI .u32)) (rP rB (rS (rI .u32))))) b p.1::box N 62 [.bool e.1,f.v,.bool h.1,i.v]::row 62 (rP rB (rP (rS (rI .u32)) (rP rB (rS (rI .u32))))) o.v O::box f6 62 [.bool c8,b1.v,.bool a8,Z.v]::rs))) rfl (_,_) ((a.k1t).facts (S0 F2 (S0 F3 (S0 F1 (S0 F0 (N0 (N0 (N0 (N0 E1))))))))) rfl ?_ ?_
     ·clear a
      rintro ⟨b1,Z⟩ g w a
      refine bE c fun r5 d2 c=>bE c fun d3 f9 c=>bE c fun r6 j9 c=>bE c fun r8 b2 c=>bE c fun L d4 c=>bE c fun r9 k0 c=>bE c fun g0 k1 c=>bE c fun s0 g1 c=>q 2 rfl (dS [12,23,24,26] 4 C1 ?_)
      replace a:=a.drew
      refine D1 8384511 0 12 rfl (qR 3 rfl (rQ rfl (J2 [.bool c8,b1.v] P0 e0 a R4) (qR 2 rfl ?_)))
      obtain ⟨s1,b3⟩:=a.famI R1 d2
      refine rQ rfl (yIa E5 e0 e0 a rO0 b3) (rQ rfl (yF1 D6 e0 a rO0 b3 rfl) (qR 1 rfl (rQ rfl (yIa X3 e0 e0 a (rdF R1 b3 d2) f9) (rQ rfl (yFe H7 e0) ?_))))
      obtain ⟨s2,s3,cc653,a⟩:=a.ld (rdF R1 b3 d2) f9
      replace a:=a.eltP
      obtain ⟨s4,s5,rfl,a⟩:=a
      replace a:=a.eltB
      obtain ⟨rfl,a⟩:=a
      replace a:=a.eltP
      obtain ⟨s6,s7,rfl,a⟩:=a
      replace a:=a.eltS
      obtain ⟨k2,rfl,a⟩:=a
      replace a:=a.swf.eltP
      obtain ⟨s8,s9,rfl,a⟩:=a
      replace a:=a.eltB
      obtain ⟨rfl,a⟩:=a
      replace a:=a.eltS
      obtain ⟨g2,rfl,a⟩:=a
      refine rQ rfl (X5 (cs:=[.bool d3.1,k2.v,.bool d3.2.2.1,g2.v]) (us:=[.bool d3.2.2.1,g2.v]) P0 e0 cc653 rfl rfl) (qR 1 rfl (rQ rfl (J2 [.bool a8,Z.v] P0 e0 a R4) (qR 2 rfl ?_)))
      obtain ⟨t0,E⟩:=a.famI R1 b2
      refine rQ rfl (yIa E5 e0 e0 a rO0 E) (rQ rfl (yF1 D6 e0 a rO0 E rfl) (qR 1 rfl (rQ rfl (yIa X3 e0 e0 a (rdF R1 E b2) d4) (rQ rfl (yFe Te e0) ?_))))
      replace a:=(a.k10).pin0
      obtain ⟨t1,a⟩:=St.pinF E b2 a d4
      obtain ⟨t2,t3,rfl,a⟩:=a.eltP
      obtain ⟨rfl,a⟩:=a.eltB
      obtain ⟨t4,t5,rfl,a⟩:=a.eltP
      obtain ⟨b4,rfl,a⟩:=a.eltS
      replace a:=a.swf
      obtain ⟨t6,t7,rfl,a⟩:=a.eltP
      obtain ⟨rfl,a⟩:=a.eltB
      obtain ⟨g3,rfl,a⟩:=a.eltS
      refine rQ rfl (X5 (cs:=[.bool L.1,b4.v,.bool L.2.2.1,g3.v]) (us:=[.bool L.1,b4.v]) P0 e0 (a.cAtP R0 mhP) rfl rfl) (Rn QSn (kO (Aa j9 F6 F2 a) fun t8 w a=>dU (D1 0 8380419 23 rfl (Rn (qS rfl (qS rfl (qS rfl (sY rfl (J2 [.bool a8,Z.v] P0 e0 a R5) (qS rfl (qS rfl (sY rfl (yIa E5 e0 e0 a rO2 E) (sY rfl (yF1 D6 e0 a rO2 E rfl) (qS rfl (sY rfl (yIa X3 e0 e0 a (er R1 E b2) d4) (sY rfl (yFe Te e0) (sY rfl (X5 (cs:=[.bool L.1,b4.v,.bool L.2.2.1,g3.v]) (us:=[.bool L.1,b4.v]) P0 e0 (a.cAtP R1 mhP) rfl rfl) QSn)))))))))))) (kO (Aa k0 F7 F1 a) fun t9 w a=>dU (D1 0 3 24 rfl (Rn (qS rfl (qS rfl QSn)) ?_)))))))
      replace a:=((a.k10).fz).fz
      refine kT_ (vi k1 F1 F0 a) fun k3 k4 w a=>dU (D0 33554432 3 26 rfl (rQ rfl (yIs X3 e0 e0 a rO5 g1) (Rn (qS rfl (qS rfl QSn)) ?_)))
      replace a:=(a.fz.fz).k1f
      refine LT wn (w8 (cs:=[.bool g0.1,k3.v,.bool g0.2.2.1,k4.v]) a D5 e0 e0 rfl (mkP mkB (mkP (mkS F1) (mkP mkB (mkS F0)))) g1) fun w a=>Dw 0 0 (Rn QSn ?_)
      replace a:=(a.k10).unpin
      refine qx 7 rfl ?_
      cases c
      exact lo ((a.k47).facts (S0 F8 (S0 F9 (N0 (N0 (N0 (N0 (N0 (N0 (N0 (N0 (N0 (N0 (N0 (N0 E1)))))))))))))))
     rintro ⟨a9,c9,b0,d0,d1⟩ ⟨W,X⟩ g w u0 a c
     refine q 8 rfl (cI c (fun k5 c=>?_) fun k5 c=>?_)
     ·refine q 4 rfl (bE c fun u1 d5 c=>bE c fun g4 g5 c=>bE c fun g6 g7 c=>bE c fun b5 k6 c=>dS [13,14] 2 C1 ?_)
      replace a:=a.drew
      refine D1 8191 0 13 rfl (rQ rfl (J2 [.bool a9,W.v,.bool b0,X.v] D5 e0 a R4) (qR 2 rfl ?_))
      obtain ⟨u2,b6⟩:=a.famI R1 d5
      refine rQ rfl (yIa E5 e0 e0 a rO0 b6) (rQ rfl (yF1 D6 e0 a rO0 b6 rfl) (qR 1 rfl (rQ rfl (yIa X3 e0 e0 a (rdF R1 b6 d5) g5) ?_)))
      obtain ⟨u3,u4,cc679,a⟩:=a.ld (rdF R1 b6 d5) g5
      replace a:=a.eltP
      obtain ⟨u5,u6,rfl,a⟩:=a
      replace a:=a.eltB
      obtain ⟨rfl,a⟩:=a
      replace a:=a.eltP
      obtain ⟨u7,u8,rfl,a⟩:=a
      replace a:=a.eltS
      obtain ⟨k7,rfl,a⟩:=a
      replace a:=a.swf.eltP
      obtain ⟨u9,v0,rfl,a⟩:=a
      replace a:=a.eltB
      obtain ⟨rfl,a⟩:=a
      replace a:=a.eltS
      obtain ⟨k8,rfl,a⟩:=a
      refine rQ rfl (yCn (cs:=[.bool g4.1,k7.v,.bool g4.2.2.1,k8.v]) D5 rfl e0 cc679) (qR 2 rfl (rQ rfl (yIa X3 e0 e0 a rO3 g7) ?_))
      obtain ⟨v1,v2,cc686,a⟩:=a.ld rO3 g7
      replace a:=a.eltP
      obtain ⟨v3,v4,rfl,a⟩:=a
      replace a:=a.eltB
      obtain ⟨rfl,a⟩:=a
      replace a:=a.eltP
      obtain ⟨v5,v6,rfl,a⟩:=a
      replace a:=a.eltS
      obtain ⟨k9,rfl,a⟩:=a
      replace a:=a.swf.eltP
      obtain ⟨v7,v8,rfl,a⟩:=a
      replace a:=a.eltB
      obtain ⟨rfl,a⟩:=a
      replace a:=a.eltS
      obtain ⟨l0,rfl,a⟩:=a
      refine rQ rfl (yCn (cs:=[.bool g6.1,k9.v,.bool g6.2.2.1,l0.v]) D5 rfl e0 cc686) (rQ rfl (J2 [.bool e.1,f.v,.bool h.1,i.v] D5 e0 a R2) (Rn QSn (kT_ (zf k6 F6 F7 F3 F2 F1 F0 F4 F5 a) fun g8 g9 w a=>dU (D0 0 0 14 rfl (Rn QSn ?_)))))
      replace a:=a.k2e
      refine LT wn (G3 (vals':=[.bool b5.1,g8.v,.bool b5.2.2.1,g9.v]) (us:=[.bool b5.1,g8.v,.bool b5.2.2.1,g9.v]) a D5 e0 e0 rfl rfl (H3 rfl) rfl) fun w a=>Dw 0 0 (Rn QSn (qx 7 rfl ?_))
      replace a:=(((a.k10).fz).k10).fz
      cases c
      exact ln (_,_) ((a.k1t).facts (S0 F6 (S0 F7 (S0 F1 (S0 F0 (N0 (N0 (N0 (N0 (N0 (N0 (N0 (N0 (N0 (N0 E1)))))))))))))))
     ·refine q 2 rfl ?_
      cases c
      exact lx (_,_) a
    ·refine q 2 rfl ?_
     cases c
     exact xo ((a.k3j).fc)
   rintro ⟨b8,b9⟩ g w v9 a c
   refine q 8 rfl (cI c (fun l1 c=>?_) fun l1 c=>?_)
   ·refine q 7 rfl (y (ua (us:=[.bool false,hnil.v]) [] nu bp0 rfl) (bE c fun d6 l2 c=>cO (w_f l2 a) fun d7 w a=>y (ua (us:=[.bool false,hnil.v,.bool d6.1,d7.v]) [(0,.agg #[.bool false,hnil.v]),(1,.agg #[.bool d6.1,d7.v])] rk (bp2 e0 e0) rfl) (bE c fun w1 h0 c=>y (yIs X3 e0 e0 a rO6 h0) ?_)))
    replace a:=a.fz.k2y
    refine yt (w8 (cs:=[.bool false,hnil.v,.bool d6.1,d7.v]) a D5 e0 e0 rfl (mkP mkB (mkP Xr (mkP mkB (mkS F0)))) h0) fun w a=>q 8 rfl ?_
    cases c
    exact lo ((a.k48).fc)
   ·refine q 2 rfl ?_
    cases c
    exact xo a
  rintro b7 g w w2 a c
  refine q 5 rfl (y (Y2 W0 e0 a rO2) (bE c fun l3 F c=>q 2 rfl ?_))
  refine jW 7 [3,4,5,7] [(47,.bool l3)] (St w0 ros (row 107 rH x.v b::fam 62 (rP rB (rP (rS (rI .u32)) (rP rB (rS (rI .u32))))) b p.1::row 3 I1 e3.v p.2.1::rs)) rfl (fun h1=>?_) ?_
  ·refine gI 40 F rfl (fun l4 F=>?_) fun l4 F=>?_
   ·refine q 2 rfl (bE F fun w3 h3 F=>y (yIa W0 e0 e0 a rO2 h3) (y (yI O_3 e0 a rO2 h3) (q 3 rfl ?_)))
    cases F
    exact h1 _ _ a rfl
   ·refine q 7 rfl ?_
    cases F
    exact h1 _ _ a rfl
  intro g w a
  refine q 2 rfl ?_
  refine cJ c (fun l5 c=>?_) fun l5 c=>?_
  ·refine q 9 rfl ?_
   cases c
   exact lo a
  ·refine q 2 rfl ?_
   cases c
   exact xo (a.k3e)
instance:CL prog 64 (type_of% @Cp):=⟨@Cp⟩
end Go.Proofs.YthekfonboblioacGreatDoor
