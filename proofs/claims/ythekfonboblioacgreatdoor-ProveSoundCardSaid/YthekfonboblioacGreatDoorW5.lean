/- Walks: each function computes its model, printed. -/
import Derived.Test.YthekfonboblioacGreatDoorW4
namespace Go.Proofs.YthekfonboblioacGreatDoor
open Go Sx M Go.Proofs.Tryz
set_option maxRecDepth 100000
set_option maxHeartbeats 40000000
set_option linter.unusedVariables false
attribute [local irreducible] wpList Code.wp Calls DR QR QS LA LS St row box fam imm rowS loop
variable {w0:World} {ros:List Fact} {rs:List Res} {w:World}
theorem si {s:List (List (Bool×LI))} {t:Int} {u:Hdr} {out:(List (List (Bool×LI)))} (c:m_eg s t=some out) (X:imm (rS (rP rB (rS (rI .u32)))) u.v s∈ros) (a:St w0 ros rs w):
  Calls prog 23 #[u.v,iV t] w (fun e w=>∃ (x:Hdr),e=.returned (x.v)∧St w0 ros (row 39 (rS (rP rB (rS (rI .u32)))) x.v out::rs) w):=by
 refine en func23 rfl ntmps23 fun Q Z=>bE c fun y J c=>q 22 rfl ?_
 replace a:=(a.rowNh 39 (rS (rP rB (rS (rI .u32))))).immNh I1
 refine lpN (Hdr×Hdr) Hdr J [0,1] (fun (d,f,j) (h,i)=>[(5,h.v),(6,i.v),(7,iV j)]) (fun (d,f,j) (h,i)=>St w0 (imm I1 i.v f::ros) (row 39 (rS (rP rB (rS (rI .u32)))) h.v d::rs)) (fun | y,o=>(.exit 0,[(5,o.v)],St w0 ros (row 39 (rS (rP rB (rS (rI .u32)))) o.v y::rs))) rfl (_,_) a rfl ?_ ?_
 ·clear a
  rintro o g w a
  exact vx
 rintro ⟨d,f,j⟩ ⟨h,i⟩ g w K a c
 refine v 0 ?_
 refine ⟨fun _ c=>?_,vt⟩
 refine yh (rLt (n:=0) (l:=[]) a W0 [] bp0 rfl rfl Y1) fun a0 w a=>?_
 refine z 1 1 ?_;intro a1 a2 c a3 w a
 refine yh (rLt (n:=1) (l:=[j]) a W0 [iV j] (bp1 e0) rfl rfl (N1 (cs:=[iV j]) rfl mkI Y1)) fun a4 w a=>?_
 refine z 2 2 ?_;intro A a5 c B w a
 refine bE c fun L b c=>?_
 refine jW 10 [0,1,5,6,7,8] [(36,.bool L)] (St w0 (imm I1 i.v f::imm I1 B.v A::ros) (row 39 (rS (rP rB (rS (rI .u32)))) h.v d::rs)) rfl (fun C=>?_) ?_
 ·refine gI 26 b rfl (fun N b=>?_) fun N b=>?_
  ·refine q 2 rfl (bE b fun a6 a7 b=>?_)
   refine z 2 0 ?_;intro a8 w a
   refine bE b fun a9 b0 b=>?_
   refine z 2 2 ?_;intro w a
   cases b
   exact C _ _ ((a.k12).facts (S0 F2 (S0 F1 (N0 (N0 (N0 E1)))))) rfl
  ·refine q 10 rfl ?_
   cases b
   replace a:=a.fz
   exact C _ _ ((a.k12).facts (S0 F1 (S0 F0 (N0 (N0 E1))))) rfl
 intro g w a
 refine v 0 ?_
 refine ⟨vt,fun _ _ _ _ _ k _ _ O _ _ R w a _ S c=>?_⟩
 replace a:=a.fz
 refine yt (w8 (cs:=[.bool O.1,R.v]) a P0 e0 e0 rfl (mkP mkB (mkS F0)) S) fun w a=>?_
 refine z 1 3 ?_
 refine jC (List (Bool×LI)) [0,1,5,6,7,9] (fun m=>[]) (fun m w=>St w0 (imm I1 i.v f::ros) (row 39 (rS (rP rB (rS (rI .u32)))) h.v d::row 52 (rP rB (rS (rI .u32))) k.v m::rs) w∧m_ed d j f m=some K) rfl ?_ ?_
 ·rintro m g w ⟨a,c⟩
  refine q 4 rfl ?_
  replace a:=(a.k10).fz
  exact yh (rLt (n:=1) (l:=[m]) a L5 [k.v] (bp1 e0) rfl rfl (N1 (cs:=[k.v]) rfl (mkS F0) Y1)) fun b1 w a=>vx
 refine v 0 ?_
 refine ⟨fun _ _ _ _ _ _ _ _ T _ c U w a=>?_,vt⟩
 refine bE c fun D V c=>?_
 refine lp V [0,1,5,6,7,8,9,10] (fun (p,r)=>[(11,iV r)]) (fun (p,r)=>St w0 (imm I1 i.v f::imm I1 B.v A::ros) (row 39 (rS (rP rB (rS (rI .u32)))) h.v d::row 52 (rP rB (rS (rI .u32))) k.v p::row 52 (rP rB (rS (rI .u32))) U.v T::rs)) (fun | D=>(.exit 2,[],St w0 (imm I1 i.v f::ros) (row 39 (rS (rP rB (rS (rI .u32)))) h.v d::row 52 (rP rB (rS (rI .u32))) k.v D::rs))) rfl ((a.k18).facts (S0 F2 (S0 F3 (N0 (N0 (N0 (N0 E1))))))) rfl ?_ ?_
 ·clear a
  intro g w a
  exact vx
 rintro ⟨p,r⟩ g w b2 a c
 refine z 1 3 ?_
 refine cI c (fun W c=>?_) fun W c=>?_
 ·refine q 4 rfl (bE c fun b3 E c=>bE c fun F G c=>bE c fun b4 H c=>dS [10] 1 C1 ?_)
  replace a:=a.drew
  refine D0 1023 0 10 rfl (qR 3 rfl (rQ rfl (yIa W0 e0 e0 a (rdI F1) E) (rQ rfl (yI O_3 e0 a (rdI F1) E) (qR 2 rfl (rQ rfl (yIa D3 e0 e0 a rO2 G) ?_)))))
  obtain ⟨b5,b6,cc865,a⟩:=a.ld rO2 G
  replace a:=a.eltP
  obtain ⟨b7,b8,rfl,a⟩:=a
  replace a:=a.eltB
  obtain ⟨rfl,a⟩:=a
  replace a:=a.eltS
  obtain ⟨I,rfl,a⟩:=a
  refine rQ rfl (yCn (cs:=[.bool F.1,I.v]) P0 rfl e0 cc865) (rQ rfl (yIs D3 e0 e0 a rO1 H) (Rn QSn ?_))
  replace a:=a.k10
  exact LT wn (w8 (cs:=[.bool F.1,I.v]) a P0 e0 e0 rfl (mkP mkB (mkS F0)) H) fun w a=>vx
 ·exact vx
instance:CL prog 23 (type_of% @si):=⟨@si⟩
theorem Bp {b:Int} {out:Bool} (c:m_ei b=some out) (a:St w0 ros rs w):
  Calls prog 65 #[iV b] w (rv w0 ros rs (.bool out)):=by
 refine en func65 rfl ntmps65 fun Q j=>q 11 rfl ?_
 refine jW 3 [0] [(9,.bool ((decide (b < 2)) || (decide ((2147483647:Int) < b))))] (St w0 ros rs) rfl (fun f=>?_) ?_
 ·refine gB 6 rfl (fun d=>?_) fun d=>?_
  ·exact q 3 rfl (f _ _ a (J1 (Z0 Value.bool (orT d)) rfl))
  ·exact q 3 rfl (f _ _ a (J1 (Z0 Value.bool (orF d)) rfl))
 intro g w a
 refine v 0 ?_
 refine ⟨vt,fun _ c=>?_⟩
 refine bE c fun h i c=>?_
 refine lp i [0] (fun e=>[(3,iV e)]) (fun e=>St w0 ros rs) (fun | .inl ()=>(.exit 0,[],St w0 ros rs) | .inr ()=>(.ret,[(2,.bool false)],St w0 ros rs)) rfl a rfl ?_ ?_
 ·clear a
  intro g w a
  rcases h with ⟨⟩ | ⟨⟩
  ·exact vx
  ·exact vx
 rintro e g w k a c
 exact vx
instance:CL prog 65 (type_of% @Bp):=⟨@Bp⟩
theorem ki {l i:Int} {out:LI} (c:m_el l i=some out) (a:St w0 ros rs w):
  Calls prog 24 #[iV l,iV i] w (ro w0 ros rs 3 I1 out):=by
 refine en func24 rfl ntmps24 fun Q o=>?_
 refine v 0 ?_
 refine ⟨fun _ c=>?_,fun _ c=>?_⟩
 ·cases c
  replace a:=a.rowNh 3 I1
  exact o _ _ _ (I3 results24 ⟨rfl,rfl⟩ ⟨_,rfl,a⟩)
 ·refine bE c fun m p c=>?_
  replace a:=a.rowNh 3 I1
  refine lpN Hdr Hdr p [1] (fun (b,d) e=>[(5,e.v),(6,iV d)]) (fun (b,d) e=>St w0 ros (row 3 I1 e.v b::rs)) (fun | m,j=>(.exit 0,[(5,j.v)],St w0 ros (row 3 I1 j.v m::rs))) rfl _ a rfl ?_ ?_
  ·clear a
   rintro j g w a
   exact vx
  rintro ⟨b,d⟩ e g w r a c
  refine q 6 rfl ?_
  refine jW 6 [1,5,6] [(21,.bool ((decide ((1:Int) < d)) && (decide ((b.length:Int) < (imin i 100)))))] (St w0 ros (row 3 I1 e.v b::rs)) rfl (fun n=>?_) ?_
  ·refine gB 15 rfl (fun k=>?_) fun k=>?_
   ·refine z 1 4 ?_
    exact n _ _ a (J1 (Z0 Value.bool (J5 k)) rfl)
   ·exact q 6 rfl (n _ _ a (J1 (Z0 Value.bool (K5 k)) rfl))
  intro g w a
  refine v 26 ?_
  refine ⟨fun _ _ _ _ c w a=>?_,vt⟩
  refine jC (LI×Hdr) [1,6] (fun (f,h)=>[(5,h.v)]) (fun (f,h) w=>St w0 ros (row 3 I1 h.v f::rs) w∧m_ej d f=some r) rfl ?_ ?_
  ·rintro ⟨f,h⟩ g w ⟨a,c⟩
   exact vx
  exact vx
instance:CL prog 24 (type_of% @ki):=⟨@ki⟩
theorem Do {e:Bool} {f:LI} {h:Int} {i:Hdr} {out:Int} (c:m_em e f h=some out) (k:imm (rI .u32) i.v f∈ros) (a:St w0 ros rs w):
  Calls prog 66 #[.agg #[.bool e,i.v],iV h] w (rv w0 ros rs (iV out)):=by
 refine en func66 rfl ntmps66 fun Q l=>?_
 refine z 1 4 ?_;intro m w a
 refine bE c fun n o c=>bE c fun j p c=>?_
 refine jN (Nat×Hdr) [] (fun (b,d)=>[(6,(pB b))]) (fun (b,d)=>St w0 (imm (rI .u32) d.v j.2.2.2::ros) (box b 52 [.bool j.2.2.1,d.v]::rs)) rfl ?_ ?_
 ·refine dS [2,3,7,8,9,10] 6 C1 ?_
  replace a:=a.drew
  exact zx
 rintro ⟨b,d⟩ g w a
 exact vx
instance:CL prog 66 (type_of% @Do):=⟨@Do⟩
theorem ji {p:List (List (Bool×LI))} {r:Int} {s:Hdr} {out:L2} (c:m_ep p r=some out) (t:imm (rS (rP rB (rS (rI .u32)))) s.v p∈ros) (a:St w0 ros rs w):
  Calls prog 25 #[s.v,iV r] w (ro w0 ros rs 24 S1 out):=by
 refine en func25 rfl ntmps25 fun Q x=>bE c fun u A c=>q 17 rfl ?_
 replace a:=a.rowNh 24 S1
 refine lpN Hdr Hdr A [0,1] (fun (d,h) b=>[(5,b.v),(6,iV h)]) (fun (d,h) b=>St w0 ros (row 24 S1 b.v d::rs)) (fun | u,i=>(.exit 0,[(5,i.v)],St w0 ros (row 24 S1 i.v u::rs))) rfl _ a rfl ?_ ?_
 ·clear a
  rintro i g w a
  refine q 9 rfl ?_
  cases c
  exact x _ _ _ (I3 results25 ⟨rfl,rfl⟩ ⟨_,rfl,a⟩)
 rintro ⟨d,h⟩ b g w J a c
 refine z 1 3 ?_
 refine cI c (fun B c=>?_) fun B c=>?_
 ·refine q 16 rfl (bE c fun j C c=>?_)
  replace a:=a.rowNh 3 I1
  refine lpN Hdr Hdr C [0,1,5,6] (fun (k,m) f=>[(7,f.v),(8,iV m)]) (fun (k,m) f=>St w0 ros (row 24 S1 b.v d::row 3 I1 f.v k::rs)) (fun | j,e=>(.exit 2,[(7,e.v)],St w0 ros (row 24 S1 b.v d::row 3 I1 e.v j::rs))) rfl _ (a.k10) rfl ?_ ?_
  ·clear a
   rintro e g w a
   refine q 5 rfl ?_
   replace a:=(a.k10).fz
   refine yh (rLt (n:=1) (l:=[j]) a ja [e.v] (bp1 e0) rfl rfl (N1 (cs:=[e.v]) rfl (mkS F0) Y1)) fun K w a=>?_
   refine z 1 9 ?_;intro L N c O w a
   cases c
   exact ln _ ((a.k11).fc)
  rintro ⟨k,m⟩ f g w R a c
  refine z 1 0 ?_;intro S D c
  obtain ⟨T,a⟩:=iLs a t D
  refine y (yCt W4 e0 a F1 rfl) ?_
  refine z 1 3 ?_
  refine cI c (fun E c=>?_) fun E c=>?_
  ·refine z 1 0 ?_;intro U F c
   obtain ⟨V,a⟩:=iLs a (F_2 t) F
   refine y (yCt W4 e0 a F1 rfl) ?_
   refine z 1 0 ?_;intro G H c
   obtain ⟨W,X,a⟩:=iLd a F0 H
   obtain ⟨Z,a0,rfl,a⟩:=a.eltP
   obtain ⟨rfl,a⟩:=a.eltB
   obtain ⟨I,rfl,a⟩:=a.eltS
   refine y (V6 (cs:=[.bool G.1,I.v]) P0 rfl e0 a F1) ?_
   refine z 1 0 ?_;intro o a1 c w a
   refine yh (rLt (n:=1) (l:=[o]) a W0 [iV o] (bp1 e0) rfl rfl (N1 (cs:=[iV o]) rfl mkI Y1)) fun a2 w a=>?_
   refine z 1 9 ?_;intro a3 a4 c a5 w a
   cases c
   exact ln _ ((a.k1m).fc)
  ·refine q 2 rfl ?_
   cases c
   exact lx _ (a.fc)
 ·refine q 2 rfl ?_
  cases c
  exact lx _ a
instance:CL prog 25 (type_of% @ji):=⟨@ji⟩
theorem Co {h:Int} {out:LI} (c:m_er h=some out) (a:St w0 ros rs w):
  Calls prog 69 #[iV h] w (ro w0 ros rs 3 I1 out):=by
 refine en func69 rfl ntmps69 fun Q k=>bE c fun i j c=>q 17 rfl ?_
 replace a:=a.rowNh 3 I1
 refine lpN Hdr Hdr j [0] (fun (d,e) b=>[(3,b.v),(4,iV e)]) (fun (d,e) b=>St w0 ros (row 3 I1 b.v d::rs)) (fun | i,f=>(.exit 0,[(3,f.v)],St w0 ros (row 3 I1 f.v i::rs))) rfl _ a rfl ?_ ?_
 ·clear a
  rintro f g w a
  exact vx
 rintro ⟨d,e⟩ b g w l a c
 exact vx
instance:CL prog 69 (type_of% @Co):=⟨@Co⟩
theorem Bo {p:L2} {r s:LI} {t u x:Hdr} {out:L2} (c:m_eu p r s=some out) (y:imm S1 t.v p∈ros) (A:imm I1 u.v r∈ros) (B:imm I1 x.v s∈ros) (a:St w0 ros rs w):
  Calls prog 68 #[t.v,u.v,x.v] w (ro w0 ros rs 24 S1 out):=by
 refine en func68 rfl ntmps68 fun Q H=>bE c fun C I c=>q 17 rfl ?_
 replace a:=a.rowNh 24 S1
 refine lpN Hdr Hdr I [0,1,2] (fun (d,h) b=>[(7,b.v),(8,iV h)]) (fun (d,h) b=>St w0 ros (row 24 S1 b.v d::rs)) (fun | C,i=>(.exit 0,[(7,i.v)],St w0 ros (row 24 S1 i.v C::rs))) rfl _ a rfl ?_ ?_
 ·clear a
  rintro i g w a
  refine q 9 rfl ?_
  cases c
  exact H _ _ _ (I3 results68 ⟨rfl,rfl⟩ ⟨_,rfl,a⟩)
 rintro ⟨d,h⟩ b g w N a c
 refine z 1 3 ?_
 refine cI c (fun J c=>?_) fun J c=>?_
 ·refine q 16 rfl (bE c fun j K c=>?_)
  replace a:=a.rowNh 3 I1
  refine lpN Hdr Hdr K [0,1,2,7,8] (fun (k,m) f=>[(9,f.v),(10,iV m)]) (fun (k,m) f=>St w0 ros (row 24 S1 b.v d::row 3 I1 f.v k::rs)) (fun | j,e=>(.exit 2,[(9,e.v)],St w0 ros (row 24 S1 b.v d::row 3 I1 e.v j::rs))) rfl _ (a.k10) rfl ?_ ?_
  ·clear a
   rintro e g w a
   refine q 5 rfl ?_
   replace a:=(a.k10).fz
   refine yh (rLt (n:=1) (l:=[j]) a ja [e.v] (bp1 e0) rfl rfl (N1 (cs:=[e.v]) rfl (mkS F0) Y1)) fun O w a=>?_
   refine z 1 9 ?_;intro R S c T w a
   cases c
   exact ln _ ((a.k11).fc)
  rintro ⟨k,m⟩ f g w U a c
  refine z 1 3 ?_
  refine cI c (fun L c=>?_) fun L c=>?_
  ·refine q 4 rfl (bE c fun V D c=>bE c fun W E c=>bE c fun X F c=>bE c fun o G c=>bE c fun Z a0 c=>dS [14,15,16] 3 C1 ?_)
   replace a:=a.drew
   refine D1 16383 0 14 rfl (qR 4 rfl (rQ rfl (yIa W0 e0 e0 a (rdI A) D) (rQ rfl (yI O_3 e0 a (rdI A) D) (rQ rfl (yIa ja e0 e0 a (rdI y) E) ?_))))
   obtain ⟨a1,a⟩:=iLs a y E
   refine rQ rfl (yCt M1 e0 a F1 rfl) (qR 2 rfl (rQ rfl (yIa W0 e0 e0 a (rdI (F_2 B)) F) (rQ rfl (yI O_3 e0 a (rdI (F_2 B)) F) (rQ rfl (yIa W0 e0 e0 a (rdI F0) G) (rQ rfl (yI O_3 e0 a (rdI F0) G) (Rn QSn (LH wn (rLt (n:=1) (l:=[o]) a W0 [iV o] (bp1 e0) rfl rfl (N1 (cs:=[iV o]) rfl mkI Y1)) fun a2 w a=>dU ?_)))))))
   refine z 3 7 ?_;intro a3 w a
   cases c
   exact ln _ ((a.k1m).fc)
  ·refine q 2 rfl ?_
   cases c
   exact lx _ a
 ·refine q 2 rfl ?_
  cases c
  exact lx _ a
instance:CL prog 68 (type_of% @Bo):=⟨@Bo⟩
theorem di {b d out:Int} (c:m_ew b d=some out) (a:St w0 ros rs w):
  Calls prog 146 #[iV b,iV d] w (rv w0 ros rs (iV out)):=by
 exact en func146 rfl ntmps146 fun Q e=>vx
instance:CL prog 146 (type_of% @di):=⟨@di⟩
theorem Ao {b:L2} {d:Hdr} {out:Int} (c:m_ex b=some out) (e:imm S1 d.v b∈ros) (a:St w0 ros rs w):
  Calls prog 147 #[d.v] w (rv w0 ros rs (iV out)):=by
 refine en func147 rfl ntmps147 fun Q g=>?_
 refine v 0 ?_
 refine ⟨vt,fun _ _ _ f c=>?_⟩
 obtain ⟨h,a⟩:=iLs a e f
 exact vx
instance:CL prog 147 (type_of% @Ao):=⟨@Ao⟩
theorem zo {f h i out:Int} (c:m_e0 f h i=some out) (a:St w0 ros rs w):
  Calls prog 180 #[iV f,iV h,iV i] w (rv w0 ros rs (iV out)):=by
 refine en func180 rfl ntmps180 fun Q l=>?_
 refine z 1 10 ?_;intro m n c w a
 refine bE c fun j k c=>?_
 refine lp k [2] (fun (b,d,e)=>[(0,iV b),(1,iV d),(7,iV e)]) (fun (b,d,e)=>St w0 ros rs) (fun | j=>(.exit 0,[(7,iV j)],St w0 ros rs)) rfl a rfl ?_ ?_
 ·clear a
  intro g w a
  exact vx
 rintro ⟨b,d,e⟩ g w o a c
 exact vx
instance:CL prog 180 (type_of% @zo):=⟨@zo⟩
theorem yo {b d out:Int} (c:m_e1 b d=some out) (a:St w0 ros rs w):
  Calls prog 148 #[iV b,iV d] w (rv w0 ros rs (iV out)):=by
 exact en func148 rfl ntmps148 fun Q e=>vx
instance:CL prog 148 (type_of% @yo):=⟨@yo⟩
theorem ai {c7:L2} {W:Int} {c8:Hdr} {out:L2×LI×Int} (c:m_fb c7 W=some out) (c9:imm S1 c8.v c7∈ros) (a:St w0 ros rs w):
  Calls prog 105 #[c8.v,iV W] w (fun e w=>∃ (d0:Hdr) (d1:List Hdr) (d2:Hdr),e=.returned (.tuple #[d0.v,d2.v,iV out.2.2])∧St w0 ros (row 24 rH d0.v d1::fam 3 I1 d1 out.1::row 3 I1 d2.v out.2.1::rs) w):=by
 refine en func105 rfl ntmps105 fun Q g2=>bE c fun d3 g3 c=>q 19 rfl ?_
 replace a:=((a.rowNh 24 rH).fNew 3 I1).k10
 refine lpN (Hdr×(List Hdr)) (Hdr×(List Hdr)) g3 [0,1] (fun (t,X) (p,k)=>[(7,p.v),(8,iV X)]) (fun (t,X) (p,k)=>St w0 ros (row 24 rH p.v k::fam 3 I1 k t::rs)) (fun | d3,(d,Z)=>(.exit 0,[(7,d.v)],St w0 ros (row 24 rH d.v Z::fam 3 I1 Z d3::rs))) rfl (_,_) a rfl ?_ ?_
 ·clear a
  rintro ⟨d,Z⟩ g w a
  refine z 1 15 ?_;intro j3 j4 c
  obtain ⟨⟨d4,d5,d6⟩,g4,c⟩:=bs c
  replace a:=a.rowNh 3 I1
  refine lpN ((List Hdr)×Hdr) ((List Hdr)×Hdr) g4 [0,1,7] (fun (r,a0,f,m) (i,h)=>[(11,iV a0),(12,h.v),(13,iV m)]) (fun (r,a0,f,m) (i,h)=>St w0 ros (row 24 rH d.v i::fam 3 I1 i r::row 3 I1 h.v f::rs)) (fun | (d4,d5,d6),(a1,a2)=>(.exit 4,[(11,iV d5),(12,a2.v)],St w0 ros (row 24 rH d.v a1::fam 3 I1 a1 d4::row 3 I1 a2.v d6::rs))) rfl (_,_) (a.k1c) rfl ?_ ?_
  ·clear a
   rintro ⟨a1,a2⟩ g w a
   refine q 13 rfl ?_
   cases c
   exact g2 _ _ _ (J9 results105 ⟨rfl,rfl⟩ ⟨rfl,rfl⟩ ⟨rfl,rfl⟩ ⟨_,_,_,rfl,a⟩)
  rintro ⟨r,a0,f,m⟩ ⟨i,h⟩ g w d7 a c
  refine z 1 3 ?_;intro j5 j6 c w a
  refine cI c (fun g5 c=>?_) fun g5 c=>?_
  ·refine q 3 rfl ?_
   refine jC (L2×Int×LI×(List Hdr)×Hdr) [0,1,7,13] (fun (A,B,C,D,E)=>[(11,iV B),(12,E.v)]) (fun (A,B,C,D,E) w=>St w0 ros (row 24 rH d.v D::fam 3 I1 D A::row 3 I1 E.v C::rs) w∧m_e2 m A B C=some d7) rfl ?_ ?_
   ·rintro ⟨A,B,C,D,E⟩ g w ⟨a,c⟩
    refine q 6 rfl ?_
    cases c
    exact ln (_,_) a
   refine z 1 11 ?_
   refine bE c fun d8 g6 c=>?_
   refine lp g6 [0,1,7,11,12,13,14] (fun a3=>[(15,iV a3)]) (fun a3=>St w0 ros (row 24 rH d.v i::fam 3 I1 i r::row 3 I1 h.v f::rs)) (fun | d8=>(.exit 6,[(15,iV d8)],St w0 ros (row 24 rH d.v i::fam 3 I1 i r::row 3 I1 h.v f::rs))) rfl a rfl ?_ ?_
   ·clear a
    intro g w a
    refine q 7 rfl (y (J6 Z2 e0 a rO0 R1) (q 3 rfl (cI c (fun g7 c=>?_) fun g7 c=>?_)))
    ·exact q 8 rfl (jx (_,_,_,_,_) ⟨a,c⟩)
    ·refine q 10 rfl ?_
     refine jC (L2×Int×(List Hdr)) [0,1,7,12,13,14] (fun (F,G,b)=>[(11,iV G)]) (fun (F,G,b) w=>St w0 ros (row 24 rH d.v b::fam 3 I1 b F::row 3 I1 h.v f::rs) w∧m_e6 f m W F G=some d7) rfl ?_ ?_
     ·rintro ⟨F,G,b⟩ g w ⟨a,c⟩
      refine bE c fun j7 a4 c=>q 6 rfl ?_
      obtain ⟨j8,H⟩:=a.famI R1 a4
      refine y (yIa Z2 e0 e0 a rO0 H) (y (yF1 M1 e0 a rO0 H rfl) (bE c fun j9 d9 c=>q 1 rfl (y (yIa W0 e0 e0 a (rdF R1 H a4) d9) (y (yI O_3 e0 a (rdF R1 H a4) d9) ?_))))
      refine z 1 7 ?_;intro k0 k1 c
      refine bE c fun k2 a5 c=>?_
      obtain ⟨k3,I⟩:=a.famI R1 a5
      refine y (yIa Z2 e0 e0 a rO0 I) (y (yF1 M1 e0 a rO0 I rfl) (bE c fun k4 e1 c=>q 1 rfl (y (yIa W0 e0 e0 a (rdF R1 I a5) e1) (y (yI O_3 e0 a (rdF R1 I a5) e1) ?_))))
      refine z 1 10 ?_;intro k5 k6 c w a
      refine bE c fun e2 g8 c=>?_
      refine lp g8 [0,1,7,11,12,13,14,16] (fun (a6,a7)=>[(17,iV a7)]) (fun (a6,a7)=>St w0 ros (row 24 rH d.v b::fam 3 I1 b a6::row 3 I1 h.v f::rs)) (fun | e2=>(.exit 8,[],St w0 ros (row 24 rH d.v b::fam 3 I1 b e2::row 3 I1 h.v f::rs))) rfl a rfl ?_ ?_
      ·clear a
       intro g w a
       refine bE c fun e3 g9 c=>q 9 rfl ?_
       refine lp g9 [0,1,7,11,12,13,14] (fun (a8,J)=>[(18,iV J)]) (fun (a8,J)=>St w0 ros (row 24 rH d.v b::fam 3 I1 b a8::row 3 I1 h.v f::rs)) (fun | e3=>(.exit 10,[],St w0 ros (row 24 rH d.v b::fam 3 I1 b e3::row 3 I1 h.v f::rs))) rfl a rfl ?_ ?_
       ·clear a
        intro g w a
        refine q 5 rfl (yh (rLt (n:=1) (l:=[m]) a W0 [iV m] (bp1 e0) rfl rfl (N1 (cs:=[iV m]) rfl mkI Y1)) fun k7 w a=>?_)
        refine z 1 3 ?_;intro k8 k9 c l0 w a
        exact jx (_,_,_,_,_) ⟨(a.k1g),c⟩
       rintro ⟨a8,J⟩ g w l1 a c
       refine q 5 rfl (y (J6 Z2 e0 a rO0 R1) (q 3 rfl (cI c (fun h0 c=>?_) fun h0 c=>?_)))
       ·refine q 8 rfl (bE c fun l2 a9 c=>?_)
        obtain ⟨l3,K⟩:=a.famI R1 a9
        refine y (yIa Z2 e0 e0 a rO0 K) (y (yF1 M1 e0 a rO0 K rfl) (bE c fun l4 e4 c=>q 1 rfl (y (yIa W0 e0 e0 a (rdF R1 K a9) e4) (y (yI O_3 e0 a (rdF R1 K a9) e4) (bE c fun e5 h1 c=>q 9 rfl ?_)))))
        refine lp h1 [0,1,7,11,12,13,14,18,19] (fun (L,N)=>[(20,iV N)]) (fun (L,N)=>St w0 ros (row 24 rH d.v b::fam 3 I1 b L::row 3 I1 h.v f::rs)) (fun | e5=>(.exit 12,[],St w0 ros (row 24 rH d.v b::fam 3 I1 b e5::row 3 I1 h.v f::rs))) rfl a rfl ?_ ?_
        ·clear a
         intro g w a
         refine q 8 rfl ?_
         cases c
         exact lo a
        rintro ⟨L,N⟩ g w l5 a c
        refine bE c fun h3 e6 c=>q 6 rfl ?_
        obtain ⟨l6,b0⟩:=a.famI R1 e6
        refine y (yIa Z2 e0 e0 a rO0 b0) (y (yF1 M1 e0 a rO0 b0 rfl) (y (Y2 W0 e0 a (rdF R1 b0 e6)) (q 2 rfl ?_)))
        refine jW 4 [0,1,7,11,12,13,14,18,19,20] [(174,.bool ((decide (N < (h3.length:Int))) && (!(decide (J=(f.length:Int))))))] (St w0 ros (row 24 rH d.v b::fam 3 I1 b L::row 3 I1 h.v f::rs)) rfl (fun e7=>?_) ?_
        ·refine gB 170 rfl (fun b1=>?_) fun b1=>?_
         ·exact q 4 rfl (e7 _ _ a (J1 (Z0 Value.bool (J5 b1)) rfl))
         ·exact q 4 rfl (e7 _ _ a (J1 (Z0 Value.bool (K5 b1)) rfl))
        intro g w a
        refine q 2 rfl ?_
        refine cJ c (fun h4 c=>?_) fun h4 c=>?_
        ·refine q 4 rfl (bE c fun l7 b2 c=>bE c fun l8 b3 c=>bE c fun l9 e8 c=>bE c fun m0 b4 c=>bE c fun m1 e9 c=>bE c fun m2 h5 c=>bE c fun h6 h7 c=>bE c fun m3 f0 c=>bE c fun m4 h8 c=>dS [25,27] 2 C1 ?_)
         replace a:=a.drew
         refine D1 33554431 0 25 rfl (qR 2 rfl ?_)
         obtain ⟨m5,o⟩:=a.famI R1 b2
         refine rQ rfl (yIa Z2 e0 e0 a rO0 o) (rQ rfl (yF1 M1 e0 a rO0 o rfl) (qR 3 rfl ?_))
         obtain ⟨m6,O⟩:=a.famI R1 b3
         refine rQ rfl (yIa Z2 e0 e0 a rO0 O) (rQ rfl (yF1 M1 e0 a rO0 O rfl) (qR 1 rfl (rQ rfl (yIa W0 e0 e0 a (rdF R1 O b3) e8) (rQ rfl (yI O_3 e0 a (rdF R1 O b3) e8) (qR 3 rfl ?_)))))
         obtain ⟨m7,R⟩:=a.famI R1 b4
         refine rQ rfl (yIa Z2 e0 e0 a rO0 R) (rQ rfl (yF1 M1 e0 a rO0 R rfl) (qR 1 rfl (rQ rfl (yIa W0 e0 e0 a (rdF R1 R b4) e9) (rQ rfl (yI O_3 e0 a (rdF R1 R b4) e9) (qR 2 rfl (rQ rfl (ra e0 e0 h5) (qR 2 rfl (Rn QSn (kZ (di h7 a) fun w a=>dU (D0 67108864 31 27 rfl (rQ rfl (yIs W0 e0 e0 a (rdF R1 o b2) f0) (Rn (qS rfl (qS rfl (sY rfl (yIa Z2 e0 e0 a rO0 o) (sY rfl (yF1 M1 e0 a rO0 o rfl) (qS rfl QSn))))) ?_))))))))))))
         replace a:=a.k10
         refine LT wn (W3 (cs:=[iV h6]) (a.foc o b2) O_3 rfl e0 e0 rfl mkI f0) fun w a=>?_
         replace a:=a.unfoc' o h8
         refine z 1 7 ?_
         cases c
         exact lo (a.k3d)
        ·refine q 2 rfl ?_
         cases c
         exact xo a
       ·refine q 2 rfl ?_
        cases c
        exact xo a
      rintro ⟨a6,a7⟩ g w m8 a c
      refine bE c fun m9 f1 c=>q 6 rfl ?_
      obtain ⟨n0,b5⟩:=a.famI R1 f1
      refine y (yIa Z2 e0 e0 a rO0 b5) (y (yF1 M1 e0 a rO0 b5 rfl) (y (Y2 W0 e0 a (rdF R1 b5 f1)) (q 3 rfl (cI c (fun h9 c=>?_) fun h9 c=>?_))))
      ·refine q 4 rfl (bE c fun n1 b6 c=>bE c fun n2 b7 c=>bE c fun n3 f2 c=>bE c fun i0 i1 c=>bE c fun n4 f3 c=>bE c fun n5 i2 c=>dS [17] 1 C1 ?_)
       replace a:=a.drew
       refine D0 131071 0 17 rfl (qR 2 rfl ?_)
       obtain ⟨n6,x⟩:=a.famI R1 b6
       refine rQ rfl (yIa Z2 e0 e0 a rO0 x) (rQ rfl (yF1 M1 e0 a rO0 x rfl) (qR 3 rfl ?_))
       obtain ⟨n7,S⟩:=a.famI R1 b7
       refine rQ rfl (yIa Z2 e0 e0 a rO0 S) (rQ rfl (yF1 M1 e0 a rO0 S rfl) (qR 1 rfl (rQ rfl (yIa W0 e0 e0 a (rdF R1 S b7) f2) (rQ rfl (yI O_3 e0 a (rdF R1 S b7) f2) (qR 3 rfl (rQ rfl (ra e0 e0 i1) (rQ rfl (yIs W0 e0 e0 a (rdF R1 x b6) f3) (Rn QSn ?_))))))))
       replace a:=a.k10
       refine LT wn (W3 (cs:=[iV i0]) (a.foc x b6) O_3 rfl e0 e0 rfl mkI f3) fun w a=>?_
       replace a:=a.unfoc' x i2
       refine z 1 7 ?_
       cases c
       exact lo (a.k3d)
      ·refine q 2 rfl ?_
       cases c
       exact xo a
     refine cIn c (fun i3 c=>?_) fun i3 c=>?_
     ·exact q 1 rfl (jx (_,_,_) ⟨a,c⟩)
     ·refine q 1 rfl (bE c fun n8 f4 c=>bE c fun n9 f5 c=>bE c fun o0 b8 c=>bE c fun o1 f6 c=>dS [13,15] 2 C1 ?_)
      replace a:=a.drew
      refine D0 8191 0 13 rfl (qR 6 rfl ?_)
      obtain ⟨f7,b9⟩:=a.famI R1 f4
      refine rQ rfl (yIa Z2 e0 e0 a rO0 b9) (rQ rfl (yF1 M1 e0 a rO0 b9 rfl) (qR 2 rfl ?_))
      obtain ⟨f8,c0⟩:=a.famI R1 f5
      refine rQ rfl (yIa Z2 e0 e0 a rO0 c0) (rQ rfl (yF1 M1 e0 a rO0 c0 rfl) ?_)
      obtain ⟨o2,T⟩:=H9 (u:=f7) b8 (a.famL (mtR mhR))
      refine rQ rfl (yIs Z2 e0 e0 a rO0 T) (Rn QSn (LT wn (W3 (cs:=[f7.v]) a M1 rfl e0 e0 rfl (mkF rfl) T) fun w a=>D0 16384 12 15 rfl ?_))
      obtain ⟨o3,c1⟩:=H9 (u:=f8) f6 (Bf b8 T (a.famL (mtR mhR)))
      refine rQ rfl (yIs Z2 e0 e0 a rO0 c1) (Rn (qS rfl (qS rfl QSn)) (LT wn (W3 (cs:=[f8.v]) a M1 rfl e0 e0 rfl (mkF rfl) c1) fun w a=>?_))
      replace a:=(a.k10).fswap b9 f4 c0 f5 T b8 c1 f6
      refine z 2 2 ?_;intro o4 o5 c w a
      exact jx (_,_,_) ⟨(a.k3d),c⟩
   rintro a3 g w o6 a c
   refine q 5 rfl (y (J6 Z2 e0 a rO0 R1) (bE c fun i4 j c=>q 2 rfl ?_))
   refine jW 9 [0,1,7,11,12,13,14,15] [(76,.bool i4)] (St w0 ros (row 24 rH d.v i::fam 3 I1 i r::row 3 I1 h.v f::rs)) rfl (fun f9=>?_) ?_
   ·refine gI 67 j rfl (fun i5 j=>?_) fun i5 j=>?_
    ·refine q 2 rfl (bE j fun o7 c2 j=>?_)
     obtain ⟨o8,U⟩:=a.famI R1 c2
     refine y (yIa Z2 e0 e0 a rO0 U) (y (yF1 M1 e0 a rO0 U rfl) (bE j fun o9 g0 j=>q 1 rfl (y (yIa W0 e0 e0 a (rdF R1 U c2) g0) (y (yI O_3 e0 a (rdF R1 U c2) g0) (q 2 rfl ?_)))))
     cases j
     exact f9 _ _ a rfl
    ·refine q 9 rfl ?_
     cases j
     exact f9 _ _ a rfl
   intro g w a
   refine q 2 rfl ?_
   refine cJ c (fun i6 c=>?_) fun i6 c=>?_
   ·refine q 9 rfl ?_
    cases c
    exact lo a
   ·refine q 2 rfl ?_
    cases c
    exact xo a
  ·refine q 2 rfl ?_
   cases c
   exact lx (_,_) a
 rintro ⟨t,X⟩ ⟨p,k⟩ g w p0 a c
 refine z 1 3 ?_
 refine cI c (fun i7 c=>?_) fun i7 c=>?_
 ·refine q 16 rfl (bE c fun c3 i8 c=>?_)
  replace a:=a.rowNh 3 I1
  refine lpN Hdr Hdr i8 [0,1,7,8] (fun (c4,c5) V=>[(9,V.v),(10,iV c5)]) (fun (c4,c5) V=>St w0 ros (row 24 rH p.v k::fam 3 I1 k t::row 3 I1 V.v c4::rs)) (fun | c3,s=>(.exit 2,[(9,s.v)],St w0 ros (row 24 rH p.v k::fam 3 I1 k t::row 3 I1 s.v c3::rs))) rfl _ (a.k1c) rfl ?_ ?_
  ·clear a
   rintro s g w a
   refine q 5 rfl (yh (rLt (n:=1) (l:=[s]) a Z2 [s.v] (bp1 e0) rfl rfl (N1 rfl (mkF rfl) Y1)) fun p1 w a=>bE c fun p2 g1 c=>?_)
   replace a:=a.k10
   obtain ⟨p3,ey2785,i9⟩:=mc g1 (a.famL R2) (show [s].length=[c3].length from rfl)
   refine yh (rAp a Z2 e0 e0 rO1 i9) fun p4 w a=>?_
   replace a:=(a.k1d).fPush
   rw [← ey2785,← (ga g1).1] at a
   refine q 9 rfl ?_
   cases c
   exact ln (_,_) (a.k1e)
  rintro ⟨c4,c5⟩ V g w p5 a c
  refine z 1 0 ?_;intro p6 j0 c
  obtain ⟨p7,a⟩:=iLs a c9 j0
  refine y (yCt M1 e0 a F1 rfl) ?_
  refine z 1 3 ?_
  refine cI c (fun j1 c=>?_) fun j1 c=>?_
  ·refine z 1 0 ?_;intro p8 j2 c
   obtain ⟨p9,a⟩:=iLs a (F_2 c9) j2
   refine y (yCt M1 e0 a F1 rfl) ?_
   refine z 3 0 ?_;intro q0 q2 c c6 q3 c w a
   refine yh (rLt (n:=1) (l:=[c6]) a W0 [iV c6] (bp1 e0) rfl rfl (N1 (cs:=[iV c6]) rfl mkI Y1)) fun q4 w a=>?_
   refine z 1 9 ?_;intro q5 q6 c q7 w a
   cases c
   exact ln _ ((a.k1g).fc)
  ·refine q 2 rfl ?_
   cases c
   exact lx _ (a.fc)
 ·refine q 2 rfl ?_
  cases c
  exact lx (_,_) a
instance:CL prog 105 (type_of% @ai):=⟨@ai⟩
theorem wo {b:L2} {d:Int} {e:Hdr} {out:Int} (c:m_fc b d=some out) (f:imm S1 e.v b∈ros) (a:St w0 ros rs w):
  Calls prog 67 #[e.v,iV d] w (rv w0 ros rs (iV out)):=by
 refine en func67 rfl ntmps67 fun Q g=>bE c fun i h c=>q 9 rfl (cR_ (ai h f a) fun j k l w a=>q 12 rfl (y (Y2 W0 e0 a rO2) (q 4 rfl ?_)))
 cases c
 exact za g results67 ⟨rfl,(a.k1b)⟩
instance:CL prog 67 (type_of% @wo):=⟨@wo⟩
theorem qf {h:L2} {i j:Int} {k:Hdr} {out:LI} (c:m_ff h i j=some out) (p:imm S1 k.v h∈ros) (a:St w0 ros rs w):
  Calls prog 26 #[k.v,iV i,iV j] w (ro w0 ros rs 3 I1 out):=by
 refine en func26 rfl ntmps26 fun Q r=>bE c fun m o c=>q 17 rfl ?_
 replace a:=a.rowNh 3 I1
 refine lpN Hdr Hdr o [0,1,2] (fun (d,e) b=>[(7,b.v),(8,iV e)]) (fun (d,e) b=>St w0 ros (row 3 I1 b.v d::rs)) (fun | m,f=>(.exit 0,[(7,f.v)],St w0 ros (row 3 I1 f.v m::rs))) rfl _ a rfl ?_ ?_
 ·clear a
  rintro f g w a
  exact vx
 rintro ⟨d,e⟩ b g w s a c
 refine v 0 ?_
 refine ⟨fun _ _ _ _ c _ w a=>?_,vt⟩
 exact yh (rLt (n:=0) (l:=[]) a W0 [] bp0 rfl rfl Y1) fun t w a=>vx
instance:CL prog 26 (type_of% @qf):=⟨@qf⟩
end Go.Proofs.YthekfonboblioacGreatDoor
