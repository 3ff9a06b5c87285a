/- Walks: each function computes its model, printed. -/
import Derived.Test.YthekfonboblioacGreatDoorW2
namespace Go.Proofs.YthekfonboblioacGreatDoor
open Go Sx M Go.Proofs.Tryz
set_option maxRecDepth 100000
set_option maxHeartbeats 40000000
set_option linter.unusedVariables false
attribute [local irreducible] wpList Code.wp Calls DR QR QS LA LS St row box fam imm rowS loop
variable {w0:World} {ros:List Fact} {rs:List Res} {w:World}
theorem fp {b:Int} {out:Bool} (c:m_cf b=some out) (a:St w0 ros rs w):
  Calls prog 40 #[.int .u64 b] w (rv w0 ros rs (.bool out)):=by
 exact en func40 rfl ntmps40 fun Q d=>vx
instance:CL prog 40 (type_of% @fp):=⟨@fp⟩
theorem dp {b:Int} {out:Bool} (c:m_cg b=some out) (a:St w0 ros rs w):
  Calls prog 48 #[.int .u64 b] w (rv w0 ros rs (.bool out)):=by
 exact en func48 rfl ntmps48 fun Q d=>vx
instance:CL prog 48 (type_of% @dp):=⟨@dp⟩
theorem cp {e:Int} {out:Bool×Bool×LI×Int} (c:m_ci e=some out) (i:globF∈ros) (a:St w0 ros rs w):
  Calls prog 16 #[.int .u64 e] w (rd w0 ros rs out):=by
 refine en func16 rfl ntmps16 fun Q f=>?_
 refine v 18 ?_
 refine fun h _ _ _ _ _ w a=>⟨fun _ c=>?_,fun _ _ _ _ c _ _ _ a=>?_⟩
 ·refine jC (Int×Int) [0,2] (fun (b,d)=>[(4,.int .u64 b),(5,iV d)]) (fun (b,d) w=>St w0 ros (box h 54 [.bool false,.bool false,hnil.v,iV 0]::rs) w∧m_ch e b d=some out) rfl ?_ ?_
  ·rintro ⟨b,d⟩ g w ⟨a,c⟩
   refine z 1 5 ?_;intro j k c w a
   exact yh (rLt (n:=2) (l:=[wc .u32 b,wc .u32 (wsrc .u64 b 32)]) a Z1 [.int .u32 (wc .u32 b),.int .u32 (wc .u32 (wsrc .u64 b 32))] (bp2 e0 e0) rfl rfl (N1 (cs:=[.int .u32 (wc .u32 b)]) rfl mkI (N1 (cs:=[.int .u32 (wc .u32 (wsrc .u64 b 32))]) rfl mkI Y1))) fun m w a=>vx
  exact vx
 ·cases c
  replace a:=a.immNh (rI .u32)
  exact f _ _ _ (I3 results16 (A4 rfl rfl a R0 W8 rfl) ⟨_,rfl,(a.k14)⟩)
instance:CL prog 16 (type_of% @cp):=⟨@cp⟩
theorem Zo {i j:Bool} {k:LI} {l e:Int} {m:Hdr} {out:Bool×Bool×LI×Int} (c:m_cj i j k l e=some out) (x:imm (rI .u32) m.v k∈ros) (y:globF∈ros) (a:St w0 ros rs w):
  Calls prog 43 #[.agg #[.bool i,.bool j,m.v,iV l],iV e] w (rd w0 ros rs out):=by
 refine en func43 rfl ntmps43 fun Q s=>?_
 refine z 6 1 ?_;intro n w a o w a b A c f w a w a
 refine bE c fun t d c=>?_
 refine jW 5 [1,2,4] [(14,.bool t)] (St w0 (imm (rI .u32) f.v b.2.2.1::ros) (box n 54 [.bool b.1,.bool b.2.1,f.v,iV b.2.2.2]::box o 54 [.bool false,.bool false,hnil.v,iV 0]::rs)) rfl (fun p=>?_) ?_
 ·refine gJ 9 d rfl (fun u d=>?_) fun u d=>?_
  ·refine q 5 rfl ?_
   cases d
   exact p _ _ a rfl
  ·refine z 1 0 ?_
   refine bE d fun B C d=>?_
   refine z 1 2 ?_;intro w a
   cases d
   exact p _ _ a rfl
 intro g w a
 refine v 19 ?_
 refine ⟨vt,fun _ c=>?_⟩
 refine jW 3 [1,2,4] [(21,.bool ((decide ((262144:Int) < e)) || (decide (e < (-262144)))))] (St w0 (imm (rI .u32) f.v b.2.2.1::ros) (box n 54 [.bool b.1,.bool b.2.1,f.v,iV b.2.2.2]::box o 54 [.bool false,.bool false,hnil.v,iV 0]::rs)) rfl (fun r=>?_) ?_
 ·refine gB 18 rfl (fun h=>?_) fun h=>?_
  ·exact q 3 rfl (r _ _ a (J1 (Z0 Value.bool (orT h)) rfl))
  ·exact q 3 rfl (r _ _ a (J1 (Z0 Value.bool (orF h)) rfl))
 intro g w a
 refine v 0 ?_
 refine ⟨fun _ _ _ _ c _ _ _ a=>?_,vt⟩
 cases c
 replace a:=a.immNh (rI .u32)
 exact s _ _ _ (I3 results43 (A4 rfl rfl a R0 W8 rfl) ⟨_,rfl,((a.k19).facts (S0 F0 (N0 (N0 E1))))⟩)
instance:CL prog 43 (type_of% @Zo):=⟨@Zo⟩
theorem Yo {b d e out:Int} (c:m_ck b d e=some out) (f:globF∈ros) (a:St w0 ros rs w):
  Calls prog 13 #[.int .u64 b,iV d,iV e] w (rv w0 ros rs (.int .u64 out)):=by
 exact en func13 rfl ntmps13 fun Q g=>vx
instance:CL prog 13 (type_of% @Yo):=⟨@Yo⟩
theorem qi {E:LI} {O R S:Int} {T:Bool} {U:Hdr} {out:Int×Int×LI×LI×LI} (c:m_co E O R S T=some out) (b4:imm (rI .u64) U.v E∈ros) (b5:globF∈ros) (a:St w0 ros rs w):
  Calls prog 4 #[U.v,iV O,iV R,iV S,.bool T] w (fun e w=>∃ (V W X:Hdr),e=.returned (.agg #[iV out.1,iV out.2.1,V.v,W.v,X.v])∧St w0 ros (row 3 I1 V.v out.2.2.1::row 3 I1 W.v out.2.2.2.1::row 46 (rI .u64) X.v out.2.2.2.2::rs) w):=by
 refine en func4 rfl ntmps4 fun Q Z=>?_
 refine z 7 9 ?_;intro p w a b6 b8 c w a b9 c0 c w a c1 c2 c w a b c3 c f h i w a y w a w a
 refine cJn c (fun a5 c=>?_) fun a5 c=>?_
 ·refine z 2 0 ?_
  refine yh (rLt (n:=1) (l:=[0]) a W0 [iV 0] (bp1 rfl) rfl rfl (N1 (cs:=[iV 0]) rfl mkI Y1)) fun c4 w a=>?_
  refine z 3 9 ?_;intro r w a w a
  obtain ⟨⟨a0,a1,a2⟩,a6,c⟩:=bs c
  replace a:=(((((((a.k1f).fz).k1f).fz).k1f).fz).rowNh 3 I1).rowNh 46 (rI .u64)
  refine lpN (Hdr×Hdr×Hdr) (Hdr×Hdr×Hdr) a6 [0,10,11,12] (fun (j,s,t,C) (d,k,m)=>[(13,iV C)]) (fun (j,s,t,C) (d,k,m)=>St w0 (imm I1 f.v b.2.2.1::imm I1 h.v b.2.2.2.1::imm (rI .u64) i.v b.2.2.2.2::ros) (box p 27 [iV 0,iV 0,hnil.v,hnil.v,hnil.v]::box y 27 [iV b.1,iV b.2.1,f.v,h.v,i.v]::row 3 I1 d.v j::row 3 I1 k.v s::row 46 (rI .u64) m.v t::box r 27 [iV b.1,iV b.2.1,d.v,k.v,m.v]::rs)) (fun | (a0,a1,a2),(F,G,H)=>(.exit 0,[],St w0 ros (box p 27 [iV 0,iV 0,hnil.v,hnil.v,hnil.v]::row 3 I1 F.v a0::row 3 I1 G.v a1::row 46 (rI .u64) H.v a2::box r 27 [iV b.1,iV b.2.1,F.v,G.v,H.v]::rs))) rfl (_,_,_) ((a.k38).facts (S0 F2 (S0 F1 (S0 F0 (N0 (N0 (N0 E1))))))) rfl ?_ ?_
  ·clear a
   rintro ⟨F,G,H⟩ g w a
   refine z 2 3 ?_;intro w a
   cases c
   exact Z _ _ _ (I3 results4 (A4 rfl rfl a R0 L9 rfl) ⟨_,_,_,rfl,(a.k1y)⟩)
  rintro ⟨j,s,t,C⟩ ⟨d,k,m⟩ g w a7 a c
  refine z 1 3 ?_
  refine cI c (fun a8 c=>?_) fun a8 c=>?_
  ·refine q 16 rfl (bE c fun a9 o c=>?_)
   refine jW 7 [0,10,11,12,13,14] [(51,.bool a9)] (St w0 (imm I1 f.v b.2.2.1::imm I1 h.v b.2.2.2.1::imm (rI .u64) i.v b.2.2.2.2::ros) (box p 27 [iV 0,iV 0,hnil.v,hnil.v,hnil.v]::box y 27 [iV b.1,iV b.2.1,f.v,h.v,i.v]::row 3 I1 d.v j::row 3 I1 k.v s::row 46 (rI .u64) m.v t::box r 27 [iV b.1,iV b.2.1,d.v,k.v,m.v]::rs)) rfl (fun a3=>?_) ?_
   ·refine gI 44 o rfl (fun b0 o=>?_) fun b0 o=>?_
    ·refine q 3 rfl (bE o fun c5 c6 o=>?_)
     refine z 1 3 ?_;intro w a
     cases o
     exact a3 _ _ a rfl
    ·refine q 7 rfl ?_
     cases o
     exact a3 _ _ a rfl
   intro g w a
   refine q 2 rfl ?_
   refine jC Int [0,10,11,12,13] (fun D=>[(14,iV D)]) (fun D w=>St w0 (imm I1 f.v b.2.2.1::imm I1 h.v b.2.2.2.1::imm (rI .u64) i.v b.2.2.2.2::ros) (box p 27 [iV 0,iV 0,hnil.v,hnil.v,hnil.v]::box y 27 [iV b.1,iV b.2.1,f.v,h.v,i.v]::row 3 I1 d.v j::row 3 I1 k.v s::row 46 (rI .u64) m.v t::box r 27 [iV b.1,iV b.2.1,d.v,k.v,m.v]::rs) w∧m_cm E C b s t j D=some a7) rfl ?_ ?_
   ·rintro D g w ⟨a,c⟩
    refine z 1 13 ?_;intro c7 c8 c w a
    obtain ⟨⟨A,a4⟩,b1,c⟩:=bs c
    refine lpN (Hdr×Hdr) (Hdr×Hdr) b1 [0,10,11,12,13,14,15] (fun (I,J,u) (B,x)=>[(16,iV u)]) (fun (I,J,u) (B,x)=>St w0 (imm I1 f.v b.2.2.1::imm I1 h.v b.2.2.2.1::imm (rI .u64) i.v b.2.2.2.2::ros) (box p 27 [iV 0,iV 0,hnil.v,hnil.v,hnil.v]::box y 27 [iV b.1,iV b.2.1,f.v,h.v,i.v]::row 3 I1 d.v j::row 3 I1 B.v I::row 46 (rI .u64) x.v J::box r 27 [iV b.1,iV b.2.1,d.v,B.v,x.v]::rs)) (fun | (A,a4),(K,L)=>(.exit 2,[],St w0 (imm I1 f.v b.2.2.1::imm I1 h.v b.2.2.2.1::imm (rI .u64) i.v b.2.2.2.2::ros) (box p 27 [iV 0,iV 0,hnil.v,hnil.v,hnil.v]::box y 27 [iV b.1,iV b.2.1,f.v,h.v,i.v]::row 3 I1 d.v j::row 3 I1 K.v A::row 46 (rI .u64) L.v a4::box r 27 [iV b.1,iV b.2.1,d.v,K.v,L.v]::rs))) rfl (_,_) a rfl ?_ ?_
    ·clear a
     rintro ⟨K,L⟩ g w a
     refine z 3 0 ?_
     refine yh (rLt (n:=1) (l:=[(A.length:Int)]) a W0 [iV (A.length:Int)] (bp1 e0) rfl rfl (N1 (cs:=[iV (A.length:Int)]) rfl mkI Y1)) fun c9 w a=>?_
     refine z 2 8 ?_;intro d0 d1 c d2 w a w a
     cases c
     exact ln (_,_,_) (a.k39)
    rintro ⟨I,J,u⟩ ⟨B,x⟩ g w d3 a c
    refine z 1 3 ?_
    refine cI c (fun b2 c=>?_) fun b2 c=>?_
    ·refine q 4 rfl (bE c fun d4 d5 c=>bE c fun d6 d7 c=>bE c fun N d8 c=>bE c fun d9 e1 c=>dS [3,4,10,12,13,14,16,18] 8 C1 ?_)
     replace a:=a.drew
     refine D1 3047 0 3 rfl (qR 1 rfl (rQ rfl (lb_ B.v M1 e0 a R5) (qR 2 rfl (rQ rfl (lb_ x.v Oa e0 a R5) (rQ rfl (J2 [iV b.1,iV b.2.1,f.v,h.v,i.v] L9 e0 a R1) (qR 3 rfl (Rn QSn (LH wn (rLt (n:=1) (l:=[u]) a W0 [iV u] (bp1 e0) rfl rfl (N1 (cs:=[iV u]) rfl mkI Y1)) fun e2 w a=>dU ?_))))))))
     refine z 3 0 ?_;intro e3 w a w a w a
     refine dU (D1 0 32864 13 rfl (Rn (qS rfl (sY rfl (lb_ x.v Oa e0 a R6) (qS rfl QSn))) (LH wn (rLt (n:=1) (l:=[N]) a ka [.int .u64 N] (bp1 e0) rfl rfl (N1 (cs:=[.int .u64 N]) rfl mkI Y1)) fun e4 w a=>dU ?_)))
     refine z 4 7 ?_;intro e5 w a w a w a
     cases c
     exact ln (_,_) (a.k3b)
    ·refine q 2 rfl ?_
     cases c
     exact lx (_,_) a
   refine cJ c (fun b3 c=>?_) fun b3 c=>?_
   ·refine z 2 3 ?_;intro e6 e7 c w a e8 e9 c
    exact jx _ ⟨a,c⟩
   ·exact q 1 rfl (jx _ ⟨a,c⟩)
  ·refine q 2 rfl ?_
   cases c
   exact lx (_,_,_) ((a.k1r).fc)
 ·refine z 2 4 ?_;intro w a
  cases c
  exact Z _ _ _ (I3 results4 (A4 rfl rfl a R0 L9 rfl) ⟨_,_,_,rfl,(a.k3c)⟩)
instance:CL prog 4 (type_of% @qi):=⟨@qi⟩
theorem Xo {b d:Bool} {e:LI} {f:Int} {g:Hdr} {out:Int} (c:m_cp b d e f=some out) (h:imm (rI .u32) g.v e∈ros) (i:globF∈ros) (a:St w0 ros rs w):
  Calls prog 17 #[.agg #[.bool b,.bool d,g.v,iV f]] w (rv w0 ros rs (iV out)):=by
 exact en func17 rfl ntmps17 fun Q j=>vx
instance:CL prog 17 (type_of% @Xo):=⟨@Xo⟩
theorem Wo {f h:Int} {y A B:LI} {i d e:Hdr} {out:(List (Int×Int×Int))} (c:m_cs f h y A B=some out) (R:imm I1 i.v y∈ros) (C:imm I1 d.v A∈ros) (D:imm (rI .u64) e.v B∈ros) (a:St w0 ros rs w):
  Calls prog 51 #[.agg #[iV f,iV h,i.v,d.v,e.v]] w (ro w0 ros rs 99 rTi64i64u64 out):=by
 refine en func51 rfl ntmps51 fun Q E=>?_
 refine z 3 3 ?_;intro p w a S T c w a
 refine cIn c (fun J c=>?_) fun J c=>?_
 ·refine q 14 rfl (bE c fun F K c=>?_)
  replace a:=a.rowNh 99 rTi64i64u64
  refine lpN Hdr Hdr K [1] (fun (r,b) m=>[(3,m.v),(4,iV b)]) (fun (r,b) m=>St w0 ros (box p 27 [iV f,iV h,i.v,d.v,e.v]::row 99 rTi64i64u64 m.v r::rs)) (fun | F,s=>(.exit 0,[(3,s.v)],St w0 ros (row 99 rTi64i64u64 s.v F::rs))) rfl _ (a.k10) rfl ?_ ?_
  ·clear a
   rintro s g w a
   refine q 9 rfl ?_
   cases c
   exact E _ _ _ (I3 results51 ⟨rfl,rfl⟩ ⟨_,rfl,a⟩)
  rintro ⟨r,b⟩ m g w U a c
  refine z 1 3 ?_
  refine cI c (fun L c=>?_) fun L c=>?_
  ·refine z 3 4 ?_;intro V W c
   refine bE c fun G N c=>?_
   refine lpN Hdr Hdr N [1,4] (fun (t,u) o=>[(3,o.v),(5,iV u)]) (fun (t,u) o=>St w0 ros (box p 27 [iV f,iV h,i.v,d.v,e.v]::row 99 rTi64i64u64 o.v t::rs)) (fun | G,x=>(.exit 2,[(3,x.v)],St w0 ros (box p 27 [iV f,iV h,i.v,d.v,e.v]::row 99 rTi64i64u64 x.v G::rs))) rfl _ a rfl ?_ ?_
   ·clear a
    rintro x g w a
    refine q 8 rfl ?_
    cases c
    exact ln _ a
   rintro ⟨t,u⟩ o g w X a c
   refine z 3 3 ?_;intro Z a0 c
   refine cI c (fun O c=>?_) fun O c=>?_
   ·refine q 4 rfl (bE c fun j H c=>bE c fun k I c=>bE c fun a1 a2 c=>dS [13,14,15] 3 C1 ?_)
    replace a:=a.drew
    refine D1 8191 0 13 rfl (qR 2 rfl (rQ rfl (lb_ d.v M1 e0 a R0) (qR 1 rfl (rQ rfl (yIa W0 e0 e0 a (rdI C) H) (rQ rfl (yI O_3 e0 a (rdI C) H) (qR 2 rfl (rQ rfl (lb_ e.v Oa e0 a R0) (qR 1 rfl (rQ rfl (yIa ka e0 e0 a (rdI D) I) (rQ rfl (yI ud e0 a (rdI D) I) (rQ rfl (ua (us:=[iV j,iV b,.int .u64 k]) [(0,iV j),(1,iV b),(2,.int .u64 k)] qk (bp3 e0 e0 e0) rfl) (Rn QSn (LH wn (rLt (n:=1) (l:=[(j,b,k)]) a od [.agg #[iV j,iV b,.int .u64 k]] (bp1 e0) rfl rfl (N1 (cs:=[iV j,iV b,.int .u64 k]) rfl (mkF rfl) Y1)) ?_)))))))))))))
    refine fun a3 w a=>dU ?_
    refine z 3 7 ?_;intro a4 w a
    cases c
    exact ln _ (a.k1m)
   ·refine q 2 rfl ?_
    cases c
    exact lx _ a
  ·refine q 2 rfl ?_
   cases c
   exact lx _ (a.k12)
 ·refine q 7 rfl ?_
  cases c
  replace a:=a.rowNh 99 rTi64i64u64
  exact E _ _ _ (I3 results51 ⟨rfl,rfl⟩ ⟨_,rfl,(a.k11)⟩)
instance:CL prog 51 (type_of% @Wo):=⟨@Wo⟩
theorem Vo {h i:Int} {B C D:LI} {j k m:Hdr} {out:L2×Int} (c:m_cv h i B C D=some out) (a7:imm I1 j.v B∈ros) (a8:imm I1 k.v C∈ros) (a9:imm (rI .u64) m.v D∈ros) (a:St w0 ros rs w):
  Calls prog 18 #[.agg #[iV h,iV i,j.v,k.v,m.v]] w (fun e w=>∃ (E:Hdr) (F:List Hdr),e=.returned (.tuple #[E.v,iV out.2])∧St w0 ros (row 25 rH E.v F::fam 46 (rI .u64) F out.1::rs) w):=by
 refine en func18 rfl ntmps18 fun Q G=>?_
 refine z 3 9 ?_;intro H w a b0 b1 c w a
 refine cIn c (fun T c=>?_) fun T c=>?_
 ·refine q 14 rfl (bE c fun I U c=>?_)
  replace a:=((a.rowNh 25 rH).fNew 46 (rI .u64)).k10
  refine lpN (Hdr×(List Hdr)) (Hdr×(List Hdr)) U [1] (fun (r,s) (o,p)=>[(5,o.v),(6,iV s)]) (fun (r,s) (o,p)=>St w0 ros (box H 27 [iV h,iV i,j.v,k.v,m.v]::row 25 rH o.v p::fam 46 (rI .u64) p r::rs)) (fun | I,(d,b)=>(.exit 0,[(5,d.v)],St w0 ros (box H 27 [iV h,iV i,j.v,k.v,m.v]::row 25 rH d.v b::fam 46 (rI .u64) b I::rs))) rfl (_,_) (a.k16) rfl ?_ ?_
  ·clear a
   rintro ⟨d,b⟩ g w a
   refine z 2 10 ?_;intro V b2 c W w a
   refine bE c fun J X c=>?_
   refine lp X [5,7] (fun (t,x)=>[(8,iV x)]) (fun (t,x)=>St w0 ros (row 25 rH d.v b::fam 46 (rI .u64) b t::row 99 rTi64i64u64 W.v V::rs)) (fun | J=>(.exit 2,[],St w0 ros (row 25 rH d.v b::fam 46 (rI .u64) b J::rs))) rfl (a.k1g) rfl ?_ ?_
   ·clear a
    intro g w a
    refine q 10 rfl ?_
    cases c
    exact G _ _ _ (G4 results18 ⟨rfl,rfl⟩ ⟨rfl,rfl⟩ ⟨_,_,rfl,a⟩)
   rintro ⟨t,x⟩ g w b3 a c
   refine z 1 3 ?_
   refine cI c (fun Z c=>?_) fun Z c=>?_
   ·refine q 4 rfl (bE c fun a0 K c=>bE c fun b4 y c=>bE c fun a1 L c=>bE c fun N O c=>bE c fun b5 R c=>bE c fun b6 a2 c=>dS [19] 1 C1 ?_)
    replace a:=a.drew
    refine D0 524287 0 19 rfl (qR 3 rfl (rQ rfl (yIa od e0 e0 a rO2 K) (rQ rfl (yFe oE e0) (rQ rfl (yFf (u:=iV a0.1) O_3 e0 a rO2 K rfl) ?_))))
    obtain ⟨b7,f⟩:=a.famI R1 y
    refine rQ rfl (yIa Sg e0 e0 a rO0 f) (rQ rfl (yF1 Oa e0 a rO0 f rfl) (qR 2 rfl (rQ rfl (yIa od e0 e0 a rO2 L) (rQ rfl (yFe nE e0) (rQ rfl (yFf (u:=iV a1.2.1) O_3 e0 a rO2 L rfl) (qR 2 rfl (rQ rfl (yIa od e0 e0 a rO2 O) (rQ rfl (yFe mE e0) (rQ rfl (yFf (u:=.int .u64 N.2.2) ud e0 a rO2 O rfl) (rQ rfl (yIs ka e0 e0 a (rdF R1 f y) R) (Rn QSn ?_)))))))))))
    replace a:=a.k10
    refine LT wn (W3 (cs:=[.int .u64 N.2.2]) (a.foc f y) ud rfl e0 e0 rfl mkI R) fun w a=>?_
    replace a:=a.unfoc' f a2
    refine z 1 7 ?_
    cases c
    exact lo (a.k3d)
   ·refine q 2 rfl ?_
    cases c
    exact xo (a.k3e)
  rintro ⟨r,s⟩ ⟨o,p⟩ g w b8 a c
  refine z 1 3 ?_
  refine cI c (fun a3 c=>?_) fun a3 c=>?_
  ·refine z 1 0 ?_
   refine bE c fun a4 a5 c=>yh (rMk a ka e0 a5) fun A w a=>yh (rLt (n:=1) (l:=[A]) a Sg [A.v] (bp1 e0) rfl rfl (N1 rfl (mkF rfl) Y1)) fun c0 w a=>bE c fun c1 S c=>?_
   replace a:=a.k1f
   obtain ⟨c2,ey80,a6⟩:=mc S (a.famL R4) (show [A].length=[a4].length from rfl)
   refine yh (rAp a Sg e0 e0 rO1 a6) fun c3 w a=>?_
   replace a:=(a.k3f).fPush
   rw [← ey80,← (ga S).1] at a
   refine q 9 rfl ?_
   cases c
   exact ln (_,_) (a.k17)
  ·refine q 2 rfl ?_
   cases c
   exact lx (_,_) a
 ·refine q 9 rfl ?_
  cases c
  replace a:=((a.rowNh 25 rH).fNew 46 (rI .u64)).k10
  exact G _ _ _ (G4 results18 ⟨rfl,rfl⟩ ⟨rfl,rfl⟩ ⟨_,_,rfl,(a.k3e)⟩)
instance:CL prog 18 (type_of% @Vo):=⟨@Vo⟩
theorem xf {b d:Int} {W X Z:LI} {f h i:Hdr} {out:(List (List (Bool×LI)))×Int×Int} (c:m_c1 b d W X Z=some out) (c3:imm I1 f.v W∈ros) (c4:imm I1 h.v X∈ros) (c5:imm (rI .u64) i.v Z∈ros) (c6:globF∈ros) (a:St w0 ros rs w):
  Calls prog 5 #[.agg #[iV b,iV d,f.v,h.v,i.v]] w (fun e w=>∃ (a0:Hdr),e=.returned (.tuple #[a0.v,iV out.2.1,iV out.2.2])∧St w0 ros (row 39 (rS (rP rB (rS (rI .u32)))) a0.v out.1::rs) w):=by
 refine en func5 rfl ntmps5 fun Q K=>?_
 refine z 3 9 ?_;intro j w a c7 c8 c w a
 refine cIn c (fun a9 c=>?_) fun a9 c=>?_
 ·refine z 1 2 ?_
  refine jW 4 [1] [(29,.bool ((decide ((16:Int) < b)) || (decide ((16:Int) < d))))] (St w0 ros (box j 27 [iV b,iV d,f.v,h.v,i.v]::rs)) rfl (fun a1=>?_) ?_
  ·refine gB 25 rfl (fun L=>?_) fun L=>?_
   ·exact q 4 rfl (a1 _ _ a (J1 (Z0 Value.bool (orT L)) rfl))
   ·refine z 1 2 ?_
    exact a1 _ _ a (J1 (Z0 Value.bool (orF L)) rfl)
  intro g w a
  refine q 2 rfl ?_
  refine cJ c (fun b0 c=>?_) fun b0 c=>?_
  ·refine q 9 rfl ?_
   cases c
   replace a:=a.rowNh 39 (rS (rP rB (rS (rI .u32))))
   exact K _ _ _ (J9 results5 ⟨rfl,rfl⟩ ⟨rfl,rfl⟩ ⟨rfl,rfl⟩ ⟨_,rfl,(a.k11)⟩)
  ·refine q 15 rfl (bE c fun a2 b1 c=>?_)
   refine lp b1 [1] (fun (r,s,u)=>[(6,iV r),(7,.bool s),(8,iV u)]) (fun (r,s,u)=>St w0 ros (box j 27 [iV b,iV d,f.v,h.v,i.v]::rs)) (fun | a2=>(.exit 0,[(6,iV a2)],St w0 ros (box j 27 [iV b,iV d,f.v,h.v,i.v]::rs))) rfl a rfl ?_ ?_
   ·clear a
    intro g w a
    refine z 2 19 ?_;intro x c9 c A m w a
    refine bE c fun a3 b2 c=>?_
    replace a:=a.rowNh 39 (rS (rP rB (rS (rI .u32))))
    refine lpN Hdr Hdr b2 [1,6,10] (fun (p,N) o=>[(12,o.v),(13,iV N)]) (fun (p,N) o=>St w0 ros (box j 27 [iV b,iV d,f.v,h.v,i.v]::row 25 rH A.v m::fam 46 (rI .u64) m x.1::row 39 (rS (rP rB (rS (rI .u32)))) o.v p::rs)) (fun | a3,O=>(.exit 2,[(12,O.v)],St w0 ros (row 39 (rS (rP rB (rS (rI .u32)))) O.v a3::rs))) rfl _ (a.k3g) rfl ?_ ?_
    ·clear a
     rintro O g w a
     refine q 12 rfl ?_
     cases c
     exact K _ _ _ (J9 results5 ⟨rfl,rfl⟩ ⟨rfl,rfl⟩ ⟨rfl,rfl⟩ ⟨_,rfl,a⟩)
    rintro ⟨p,N⟩ o g w d0 a c
    refine z 1 3 ?_
    refine cI c (fun b3 c=>?_) fun b3 c=>?_
    ·refine q 16 rfl (bE c fun R b4 c=>?_)
     replace a:=a.rowNh 52 (rP rB (rS (rI .u32)))
     refine lpN Hdr Hdr b4 [1,6,10,12,13] (fun (S,B) C=>[(14,C.v),(15,iV B)]) (fun (S,B) C=>St w0 ros (box j 27 [iV b,iV d,f.v,h.v,i.v]::row 25 rH A.v m::fam 46 (rI .u64) m x.1::row 39 (rS (rP rB (rS (rI .u32)))) o.v p::row 52 (rP rB (rS (rI .u32))) C.v S::rs)) (fun | R,t=>(.exit 4,[(14,t.v)],St w0 ros (box j 27 [iV b,iV d,f.v,h.v,i.v]::row 25 rH A.v m::fam 46 (rI .u64) m x.1::row 39 (rS (rP rB (rS (rI .u32)))) o.v p::row 52 (rP rB (rS (rI .u32))) t.v R::rs))) rfl _ (a.k1t) rfl ?_ ?_
     ·clear a
      rintro t g w a
      refine q 5 rfl ?_
      replace a:=(a.k1n).fz
      refine yh (rLt (n:=1) (l:=[R]) a L5 [t.v] (bp1 e0) rfl rfl (N1 (cs:=[t.v]) rfl (mkS F0) Y1)) fun d1 w a=>?_
      refine z 1 9 ?_;intro d2 d3 c d4 w a
      cases c
      exact ln _ ((a.k3h).fc)
     rintro ⟨S,B⟩ C g w b5 a c
     refine z 1 3 ?_
     refine cI c (fun b6 c=>?_) fun b6 c=>?_
     ·refine q 8 rfl (bE c fun d5 T c=>?_)
      obtain ⟨d6,D⟩:=a.famI R2 T
      refine y (yIa Sg e0 e0 a rO1 D) (y (yF1 Oa e0 a rO1 D rfl) (bE c fun d7 a4 c=>q 1 rfl (y (yIa ka e0 e0 a (rdF R2 D T) a4) (y (yI ud e0 a (rdF R2 D T) a4) ?_))))
      refine z 5 3 ?_;intro d8 d9 c e1 w a e2 w a w a e3 e4 c w a
      refine jC ((List (Bool×LI))×Hdr) [1,6,10,12,13,15] (fun (E,F)=>[(14,F.v)]) (fun (E,F) w=>St w0 ros (box j 27 [iV b,iV d,f.v,h.v,i.v]::row 25 rH A.v m::fam 46 (rI .u64) m x.1::row 39 (rS (rP rB (rS (rI .u32)))) o.v p::row 52 (rP rB (rS (rI .u32))) F.v E::rs) w∧m_cw B E=some b5) rfl ?_ ?_
      ·rintro ⟨E,F⟩ g w ⟨a,c⟩
       refine q 7 rfl ?_
       cases c
       exact ln _ a
      refine cI c (fun b7 c=>?_) fun b7 c=>?_
      ·refine z 1 0 ?_
       refine yh (rLt (n:=1) (l:=[(false,[])]) a D3 [.agg #[.bool false,hnil.v]] (bp1 e0) rfl rfl (N1 (cs:=[.bool false,hnil.v]) rfl (mkP mkB Xr) Y1)) fun e5 w a=>?_
       refine z 1 2 ?_;intro e6 e7 c e8 w a
       exact jx (_,_) ⟨((a.k3i).fc),c⟩
      ·refine z 3 0 ?_;intro G e9 c a5 w a
       replace a:=a.fz
       refine yh (rLt (n:=1) (l:=[(G.1,G.2)]) a D3 [.agg #[.bool G.1,a5.v]] (bp1 e0) rfl rfl (N1 (cs:=[.bool G.1,a5.v]) rfl (mkP mkB (mkS F0)) Y1)) fun f0 w a=>?_
       refine z 1 2 ?_;intro f1 f2 c f3 w a
       exact jx (_,_) ⟨((a.k3i).fc),c⟩
     ·refine q 2 rfl ?_
      cases c
      exact lx _ a
    ·refine q 2 rfl ?_
     cases c
     exact lx _ (a.k3j)
   rintro ⟨r,s,u⟩ g w b8 a c
   refine z 2 3 ?_
   refine cI c (fun c0 c=>?_) fun c0 c=>?_
   ·refine z 8 2 ?_;intro f4 f5 c k f6 c H w a a6 w a w a c1 f7 c w a
    refine jW 9 [1,6,7,8,9] [(55,.bool ((!(decide (c1=0))) && ((!s) || (decide (k.2.2.2 < r)))))] (St w0 (imm (rI .u32) H.v k.2.2.1::ros) (box j 27 [iV b,iV d,f.v,h.v,i.v]::box a6 54 [.bool k.1,.bool k.2.1,H.v,iV k.2.2.2]::rs)) rfl (fun a7=>?_) ?_
    ·refine gB 46 rfl (fun U=>?_) fun U=>?_
     ·refine q 3 rfl ?_
      refine jW 5 [1,6,7,8,9,46] [(54,.bool ((!s) || (decide (k.2.2.2 < r))))] (St w0 (imm (rI .u32) H.v k.2.2.1::ros) (box j 27 [iV b,iV d,f.v,h.v,i.v]::box a6 54 [.bool k.1,.bool k.2.1,H.v,iV k.2.2.2]::rs)) rfl (fun a8=>?_) ?_
      ·refine gB 49 rfl (fun V=>?_) fun V=>?_
       ·exact q 5 rfl (a8 _ _ (a.k10) (J1 (Z0 Value.bool (orT V)) rfl))
       ·refine z 1 3 ?_
        exact a8 _ _ (a.k10) (J1 (Z0 Value.bool (orF V)) rfl)
      intro g w a
      exact q 1 rfl (a7 _ _ a (J1 (Z0 Value.bool (J5 U)) rfl))
     ·exact q 9 rfl (a7 _ _ (a.k10) (J1 (Z0 Value.bool (K5 U)) rfl))
    intro g w a
    refine q 2 rfl ?_
    refine jC (Int×Bool) [1,8] (fun (I,J)=>[(6,iV I),(7,.bool J)]) (fun (I,J) w=>St w0 ros (box j 27 [iV b,iV d,f.v,h.v,i.v]::rs) w∧m_cz u I J=some b8) rfl ?_ ?_
    ·rintro ⟨I,J⟩ g w ⟨a,c⟩
     refine q 7 rfl ?_
     cases c
     exact lo a
    refine cJ c (fun c2 c=>?_) fun c2 c=>?_
    ·refine z 1 3 ?_
     exact jx (_,_) ⟨((a.k11).fc),c⟩
    ·exact q 1 rfl (jx (_,_) ⟨((a.k11).fc),c⟩)
   ·refine q 2 rfl ?_
    cases c
    exact xo a
 ·refine q 10 rfl ?_
  cases c
  replace a:=a.rowNh 39 (rS (rP rB (rS (rI .u32))))
  exact K _ _ _ (J9 results5 ⟨rfl,rfl⟩ ⟨rfl,rfl⟩ ⟨rfl,rfl⟩ ⟨_,rfl,(a.k11)⟩)
instance:CL prog 5 (type_of% @xf):=⟨@xf⟩
theorem uf {u:List (List (Bool×LI))} {x:Hdr} {out:(List (List (Bool×LI×Bool×LI)))} (c:m_c4 u=some out) (A:imm (rS (rP rB (rS (rI .u32)))) x.v u∈ros) (a:St w0 ros rs w):
  Calls prog 21 #[x.v] w (fun e w=>∃ (B:Hdr) (C:List Hdr),e=.returned (B.v)∧St w0 ros (row 107 rH B.v C::fam 62 (rP rB (rP (rS (rI .u32)) (rP rB (rS (rI .u32))))) C out::rs) w):=by
 refine en func21 rfl ntmps21 fun Q H=>bE c fun D I c=>q 17 rfl ?_
 replace a:=((a.rowNh 107 rH).fNew 62 (rP rB (rP (rS (rI .u32)) (rP rB (rS (rI .u32)))))).k10
 refine lpN (Hdr×(List Hdr)) (Hdr×(List Hdr)) I [0] (fun (h,m) (d,b)=>[(3,d.v),(4,iV m)]) (fun (h,m) (d,b)=>St w0 ros (row 107 rH d.v b::fam 62 (rP rB (rP (rS (rI .u32)) (rP rB (rS (rI .u32))))) b h::rs)) (fun | D,(o,p)=>(.exit 0,[(3,o.v)],St w0 ros (row 107 rH o.v p::fam 62 (rP rB (rP (rS (rI .u32)) (rP rB (rS (rI .u32))))) p D::rs))) rfl (_,_) a rfl ?_ ?_
 ·clear a
  rintro ⟨o,p⟩ g w a
  refine q 9 rfl ?_
  cases c
  exact H _ _ _ (I3 results21 ⟨rfl,rfl⟩ ⟨_,_,rfl,a⟩)
 rintro ⟨h,m⟩ ⟨d,b⟩ g w V a c
 refine z 1 3 ?_
 refine cI c (fun J c=>?_) fun J c=>?_
 ·refine q 16 rfl (bE c fun r K c=>?_)
  replace a:=a.rowNh 62 (rP rB (rP (rS (rI .u32)) (rP rB (rS (rI .u32)))))
  refine lpN Hdr Hdr K [0,3,4] (fun (s,t) i=>[(5,i.v),(6,iV t)]) (fun (s,t) i=>St w0 ros (row 107 rH d.v b::fam 62 (rP rB (rP (rS (rI .u32)) (rP rB (rS (rI .u32))))) b h::row 62 (rP rB (rP (rS (rI .u32)) (rP rB (rS (rI .u32))))) i.v s::rs)) (fun | r,f=>(.exit 2,[(5,f.v)],St w0 ros (row 107 rH d.v b::fam 62 (rP rB (rP (rS (rI .u32)) (rP rB (rS (rI .u32))))) b h::row 62 (rP rB (rP (rS (rI .u32)) (rP rB (rS (rI .u32))))) f.v r::rs))) rfl _ (a.k1c) rfl ?_ ?_
  ·clear a
   rintro f g w a
   refine q 5 rfl (yh (rLt (n:=1) (l:=[f]) a E5 [f.v] (bp1 e0) rfl rfl (N1 rfl (mkF rfl) Y1)) fun W w a=>bE c fun X E c=>?_)
   replace a:=a.k10
   obtain ⟨Z,ey191,L⟩:=mc E (a.famL R2) (show [f].length=[r].length from rfl)
   refine yh (rAp a E5 e0 e0 rO1 L) fun a0 w a=>?_
   replace a:=(a.k1d).fPush
   rw [← ey191,← (ga E).1] at a
   refine q 9 rfl ?_
   cases c
   exact ln (_,_) (a.k1e)
  rintro ⟨s,t⟩ i g w a1 a c
  refine z 1 0 ?_;intro a2 N c
  obtain ⟨a3,a⟩:=iLs a A N
  refine y (yCt W4 e0 a F1 rfl) ?_
  refine z 1 3 ?_
  refine cI c (fun O c=>?_) fun O c=>?_
  ·refine z 1 0 ?_;intro a4 R c
   obtain ⟨a5,a⟩:=iLs a (F_2 A) R
   refine y (yCt W4 e0 a F1 rfl) ?_
   refine z 1 0 ?_;intro S T c
   obtain ⟨a6,a7,a⟩:=iLd a F0 T
   obtain ⟨a8,a9,rfl,a⟩:=a.eltP
   obtain ⟨rfl,a⟩:=a.eltB
   obtain ⟨U,rfl,a⟩:=a.eltS
   refine y (V6 (cs:=[.bool S.1,U.v]) P0 rfl e0 a F1) ?_
   refine z 3 0 ?_;intro j b0 c F w a k b1 c G w a
   replace a:=((a.k10).fz).fz
   refine yh (rLt (n:=1) (l:=[(j.1,j.2,k.1,k.2)]) a X3 [.agg #[.bool j.1,F.v,.bool k.1,G.v]] (bp1 e0) rfl rfl (N1 (cs:=[.bool j.1,F.v,.bool k.1,G.v]) rfl (mkP mkB (mkP (mkS F1) (mkP mkB (mkS F0)))) Y1)) fun b2 w a=>?_
   refine z 1 9 ?_;intro b3 b4 c b5 w a
   cases c
   exact ln _ ((a.k1g).fc)
  ·refine q 2 rfl ?_
   cases c
   exact lx _ (a.fc)
 ·refine q 2 rfl ?_
  cases c
  exact lx (_,_) a
instance:CL prog 21 (type_of% @uf):=⟨@uf⟩
theorem tf {b:List (List (Bool×LI))} {d:Hdr} {out:Int} (c:m_c5 b=some out) (e:imm (rS (rP rB (rS (rI .u32)))) d.v b∈ros) (a:St w0 ros rs w):
  Calls prog 22 #[d.v] w (rv w0 ros rs (iV out)):=by
 refine en func22 rfl ntmps22 fun Q g=>?_
 refine v 0 ?_
 refine ⟨vt,fun _ _ _ f c=>?_⟩
 obtain ⟨h,a⟩:=iLs a e f
 exact vx
instance:CL prog 22 (type_of% @tf):=⟨@tf⟩
theorem Uo {b:Bool} {d:LI} {e:Bool} {f:LI} {g h:Hdr} {out:Bool} (c:m_c6 b d e f=some out) (i:imm (rI .u32) g.v d∈ros) (j:imm (rI .u32) h.v f∈ros) (a:St w0 ros rs w):
  Calls prog 57 #[.agg #[.bool b,g.v,.bool e,h.v]] w (rv w0 ros rs (.bool out)):=by
 exact en func57 rfl ntmps57 fun Q k=>vx
instance:CL prog 57 (type_of% @Uo):=⟨@Uo⟩
theorem So {k l:LI} {m n:Hdr} {out:LI} (c:m_c9 k l=some out) (G:imm (rI .u32) m.v k∈ros) (H:imm (rI .u32) n.v l∈ros) (a:St w0 ros rs w):
  Calls prog 102 #[m.v,n.v] w (ro w0 ros rs 93 (rI .u32) out):=by
 refine en func102 rfl ntmps102 fun Q t=>?_
 refine z 2 1 ?_
 refine bE c fun I u c=>yh (rMk a Z1 e0 u) fun b w a=>bE c fun o x c=>q 10 rfl ?_
 refine lp x [0,1,5] (fun (e,f)=>[(6,iV f)]) (fun (e,f)=>St w0 ros (row 93 (rI .u32) b.v e::rs)) (fun | o=>(.exit 0,[],St w0 ros (row 93 (rI .u32) b.v o::rs))) rfl a rfl ?_ ?_
 ·clear a
  intro g w a
  refine q 9 rfl ?_
  cases c
  exact t _ _ _ (I3 results102 ⟨rfl,rfl⟩ ⟨_,rfl,a⟩)
 rintro ⟨e,f⟩ g w J a c
 refine z 1 3 ?_
 refine cI c (fun A c=>?_) fun A c=>?_
 ·refine q 16 rfl ?_
  obtain ⟨⟨p,h⟩,B,c⟩:=bs c
  refine lp B [0,1,5,6] (fun (i,d,j)=>[(7,.int .u64 d),(8,iV j)]) (fun (i,d,j)=>St w0 ros (row 93 (rI .u32) b.v i::rs)) (fun | (p,h)=>(.exit 2,[(7,.int .u64 h)],St w0 ros (row 93 (rI .u32) b.v p::rs))) rfl a rfl ?_ ?_
  ·clear a
   intro g w a
   refine z 1 3 ?_
   refine bE c fun K r c=>y (yIs Z1 e0 e0 a rO0 r) (yt (W3 (cs:=[.int .u32 (wc .u32 h)]) a Y3 rfl e0 e0 rfl mkI r) fun w a=>q 8 rfl ?_)
   cases c
   exact lo a
  rintro ⟨i,d,j⟩ g w L a c
  refine z 1 3 ?_
  refine cI c (fun C c=>?_) fun C c=>?_
  ·refine q 5 rfl (bE c fun D N c=>bE c fun E O c=>bE c fun F R c=>dS [21] 1 C1 ?_)
   replace a:=a.drew
   refine z 8 9 ?_
   refine bE c fun S s c=>y (yIs Z1 e0 e0 a rO0 s) (yt (W3 (cs:=[.int .u32 (wc .u32 (wa .u64 (wa .u64 d (wm .u64 (wc .u64 D) (wc .u64 E))) (wc .u64 F)))]) a Y3 rfl e0 e0 rfl mkI s) fun w a=>q 14 rfl ?_)
   cases c
   exact lo a
  ·refine q 2 rfl ?_
   cases c
   exact xo a
 ·refine q 2 rfl ?_
  cases c
  exact xo a
instance:CL prog 102 (type_of% @So):=⟨@So⟩
end Go.Proofs.YthekfonboblioacGreatDoor
