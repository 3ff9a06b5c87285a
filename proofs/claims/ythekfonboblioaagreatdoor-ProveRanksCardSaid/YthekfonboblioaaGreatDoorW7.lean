/- Walks: each function computes its model, printed. -/
import Derived.Test.YthekfonboblioaaGreatDoorW6
namespace Go.Proofs.YthekfonboblioaaGreatDoor
open Go Sx M Go.Proofs.Tryz
set_option maxRecDepth 100000
set_option maxHeartbeats 40000000
set_option linter.unusedVariables false
attribute [local irreducible] wpList Code.wp Calls DR QR QS LA LS St row box fam imm rowS loop
variable {w0:World} {ros:List Fact} {rs:List Res} {w:World}
theorem En {i j:LI} {k l:Hdr} {out:LI} (c:m_e2 i j=some out) (x:imm (rI .u32) k.v i∈ros) (A:imm (rI .u32) l.v j∈ros) (a:St w0 ros rs w):
  Calls prog 172 #[k.v,l.v] w (ri w0 ros rs (rI .u32) out):=by
 refine en func172 rfl ntmps172 fun Q o=>?_
 refine z 1 0 ?_
 refine bE c fun B p c=>yh (rMk a Q1 e0 p) fun f w a=>?_
 refine z 1 4 ?_
 refine bE c fun m r c=>?_
 refine lp r [1,5,13,14] (fun (b,h,e)=>[(6,.int .u64 h),(15,iV e)]) (fun (b,h,e)=>St w0 ros (row 107 (rI .u32) f.v b::rs)) (fun | m=>(.exit 0,[],St w0 ros (row 107 (rI .u32) f.v m::rs))) rfl a rfl ?_ ?_
 ·clear a
  intro g w a
  refine z 1 4 ?_;intro C D c E w a
  cases c
  exact o _ _ _ (V2 results172 ⟨rfl,rfl⟩ ⟨_,rfl,(a.facts (Q0 F0 (N0 (N0 A1))))⟩)
 rintro ⟨b,h,e⟩ g w s a c
 refine q 6 rfl (cI c (fun t c=>?_) fun t c=>?_)
 ·refine z 3 3 ?_;intro F G c
  refine jC Int [1,5,7,13,14,15] (fun d=>[(9,.int .u64 d)]) (fun d w=>St w0 ros (row 107 (rI .u32) f.v b::rs) w∧m_e0 b e d=some s) rfl ?_ ?_
  ·rintro d g w ⟨a,c⟩
   refine bE c fun H n c=>q 8 rfl (y (yIs Q1 e0 e0 a rO0 n) (yt (Q3 (cs:=[.int .u32 (wc .u32 (wand .u64 d 4294967295))]) a V3 rfl e0 e0 rfl mkI n) fun w a=>q 14 rfl ?_))
   cases c
   exact lo a
  refine cI c (fun u c=>?_) fun u c=>?_
  ·refine z 2 4 ?_;intro I J c
   exact jx _ ⟨a,c⟩
  ·exact q 1 rfl (jx _ ⟨a,c⟩)
 ·refine q 2 rfl ?_
  cases c
  exact xo a
instance:CL prog 172 (type_of% @En):=⟨@En⟩
theorem Dn {b:Bool} {d:LI} {e:Bool} {f:LI} {g h:Hdr} {out:Bool×LI} (c:m_e3 b d e f=some out) (i:imm (rI .u32) g.v d∈ros) (j:imm (rI .u32) h.v f∈ros) (a:St w0 ros rs w):
  Calls prog 130 #[.agg #[.bool b,g.v],.agg #[.bool e,h.v]] w (rb w0 ros rs out):=by
 refine en func130 rfl ntmps130 fun Q k=>?_
 refine z 3 3 ?_;intro l w a m w a n w a
 refine bE c fun o p c=>bE c fun q r c=>dS [2,5,6,7] 4 E1 ?_
 replace a:=a.drew
 refine z 9 0 ?_;intro s w a t w a
 exact y (Je I0 e0 e0) vx
instance:CL prog 130 (type_of% @Dn):=⟨@Dn⟩
theorem Cn {b:Bool} {d:LI} {e:Bool} {f:LI} {g h:Hdr} {out:Bool×LI} (c:m_e4 b d e f=some out) (i:imm (rI .u32) g.v d∈ros) (j:imm (rI .u32) h.v f∈ros) (a:St w0 ros rs w):
  Calls prog 195 #[.agg #[.bool b,g.v],.agg #[.bool e,h.v]] w (rb w0 ros rs out):=by
 exact en func195 rfl ntmps195 fun Q k=>vx
instance:CL prog 195 (type_of% @Cn):=⟨@Cn⟩
theorem Bn {h:LI} {i:Int} {j:Hdr} {out:LI×Int} (c:m_e6 h i=some out) (x:imm (rI .u32) j.v h∈ros) (a:St w0 ros rs w):
  Calls prog 183 #[j.v,.int .u32 i] w (fun e w=>∃ (k:Hdr),e=.returned (.tuple #[k.v,.int .u32 out.2])∧St w0 (imm (rI .u32) k.v out.1::ros) rs w):=by
 refine en func183 rfl ntmps183 fun Q p=>?_
 refine z 1 0 ?_
 refine bE c fun A r c=>yh (rMk a Q1 e0 r) fun l w a=>?_
 refine z 1 5 ?_
 obtain ⟨⟨m,n⟩,s,c⟩:=bs c
 refine lp s [0,1,6] (fun (b,d,f)=>[(7,.int .u64 d),(8,iV f)]) (fun (b,d,f)=>St w0 ros (row 107 (rI .u32) l.v b::rs)) (fun | (m,n)=>(.exit 0,[(7,.int .u64 n)],St w0 ros (row 107 (rI .u32) l.v m::rs))) rfl a rfl ?_ ?_
 ·clear a
  intro g w a
  refine z 1 7 ?_;intro B C c D w a
  cases c
  exact p _ _ _ (X3 results183 ⟨rfl,rfl⟩ ⟨rfl,rfl⟩ ⟨_,rfl,(a.facts (Q0 F0 (N0 (N0 A1))))⟩)
 rintro ⟨b,d,f⟩ g w E a c
 refine q 7 rfl (cI c (fun t c=>?_) fun t c=>?_)
 ·refine z 3 1 ?_;intro F G c u H c
  refine bE c fun I o c=>y (yIs Q1 e0 e0 a rO0 o) (yt (Q3 (cs:=[.int .u32 (wc .u32 u)]) a V3 rfl e0 e0 rfl mkI o) fun w a=>?_)
  refine z 1 9 ?_;intro J K c
  cases c
  exact lo a
 ·refine q 2 rfl ?_
  cases c
  exact xo a
instance:CL prog 183 (type_of% @Bn):=⟨@Bn⟩
theorem Xh {b out:Int} (c:m_e7 b=some out) (a:St w0 ros rs w):
  Calls prog 184 #[.int .u32 b] w (rv w0 ros rs (iV out)):=by
 exact en func184 rfl ntmps184 fun Q d=>vx
instance:CL prog 184 (type_of% @Xh):=⟨@Xh⟩
theorem vn {h:LI} {D E:Int} {F:LI} {b G:Hdr} {out:LI×Int} (c:m_fb h D E F=some out) (f:imm (rI .u32) G.v F∈ros) (a:St w0 ros (row 107 (rI .u32) b.v h::rs) w):
  Calls prog 185 #[(subH b 1 D E).v,G.v] w (fun e w=>e=.returned (.int .u32 out.2)∧St w0 ros (row 107 (rI .u32) b.v out.1::rs) w):=by
 refine en func185 rfl ntmps185 fun Q b7=>?_
 refine z 1 4 ?_
 refine bE c fun a1 H c=>bE c fun a2 I c=>dS [13] 1 E1 ?_
 replace a:=a.drew
 refine D1 8191 0 13 rfl (qR 2 rfl (rQ rfl (Eb Q1 e0 e0 a rO0 H) (rQ rfl (yI V3 e0 a rO0 (Rb H)) (qR 5 rfl (rQ rfl (Eb Q1 e0 e0 a rO0 I) (rQ rfl (yI V3 e0 a rO0 (Rb I)) (qR 2 rfl (Rn QSn (Ly wn (a_ (.int .u64 (wor .u64 (wslc .u64 (wc .u64 a1) 32) (wc .u64 a2))) e0) (dU ?_))))))))))
 refine z 1 2 ?_
 refine bE c fun b8 J c=>bE c fun a3 a4 c=>bE c fun b9 i c=>bE c fun a5 K c=>dS [16,17] 2 E1 ?_
 replace a:=a.drew
 refine D1 65535 0 16 rfl (qR 4 rfl (rQ rfl (yIa Q1 e0 e0 a (rdI f) J) (rQ rfl (yI V3 e0 a (rdI f) J) (qR 1 rfl (rQ rfl (Ie e0 e0 a4) (qR 4 rfl (rQ rfl (yIa Q1 e0 e0 a (rdI f) i) (rQ rfl (yI V3 e0 a (rdI f) i) (qR 1 rfl (rQ rfl (aa e0 e0 K) (Rn QSn (Ly wn (a_ (.int .u64 a3) e0) (dU ?_)))))))))))))
 refine D1 0 65280 17 rfl (Rn (qS rfl (qS rfl (qS rfl (qS rfl (sY rfl (yIa Q1 e0 e0 a (rdI f) i) (sY rfl (yI V3 e0 a (rdI f) i) (qS rfl (sY rfl (aa e0 e0 K) QSn)))))))) (Ly wn (a_ (.int .u64 a5) e0) (dU ?_)))
 refine z 1 3 ?_
 refine bE c fun m a6 c=>?_
 refine lp a6 [0,1,5] (fun (n,o)=>[(7,.int .u64 n),(8,.int .u64 o)]) (fun (n,o)=>St w0 ros (row 107 (rI .u32) b.v h::rs)) (fun | m=>(.exit 0,[(7,.int .u64 m)],St w0 ros (row 107 (rI .u32) b.v h::rs))) rfl a rfl ?_ ?_
 ·clear a
  intro g w a
  refine z 1 4 ?_
  obtain ⟨⟨L,p,r⟩,a7,c⟩:=bs c
  refine lp a7 [0,1,5,7,84,85] (fun (s,j,k,t)=>[(9,.int .u64 j),(10,.int .u64 k),(86,iV t)]) (fun (s,j,k,t)=>St w0 ros (row 107 (rI .u32) b.v s::rs)) (fun | (L,p,r)=>(.exit 2,[(9,.int .u64 p),(10,.int .u64 r)],St w0 ros (row 107 (rI .u32) b.v L::rs))) rfl a rfl ?_ ?_
  ·clear a
   intro g w a
   refine bE c fun a8 N c=>q 6 rfl (y (Eb Q1 e0 e0 a rO0 N) (y (yI V3 e0 a rO0 (Rb N)) (bE c fun c0 O c=>q 15 rfl (y (Ke Q1 e0 e0 a rO0 O) (yt (Q3 (cs:=[.int .u32 (wc .u32 (wand .u64 (ws .u64 (ws .u64 (wc .u64 a8) p) r) 4294967295))]) a V3 rfl e0 e0 rfl mkI (uf O)) fun w a=>?_)))))
   refine v 0 ?_
   refine ⟨vt,fun _ c=>?_⟩
   obtain ⟨⟨R,u⟩,a9,c⟩:=bs c
   refine lp a9 [0,5,7,140,141] (fun (x,l,A)=>[(9,.int .u64 l),(142,iV A)]) (fun (x,l,A)=>St w0 ros (row 107 (rI .u32) b.v x::rs)) (fun | (R,u)=>(.exit 4,[(9,.int .u64 u)],St w0 ros (row 107 (rI .u32) b.v R::rs))) rfl a rfl ?_ ?_
   ·clear a
    intro g w a
    exact bE c fun b0 S c=>q 6 rfl (y (Eb Q1 e0 e0 a rO0 S) (y (yI V3 e0 a rO0 (Rb S)) (bE c fun c1 T c=>q 3 rfl (y (Ke Q1 e0 e0 a rO0 T) (yt (Q3 (cs:=[.int .u32 (wa .u32 b0 (wc .u32 u))]) a V3 rfl e0 e0 rfl mkI (uf T)) fun w a=>vx)))))
   rintro ⟨x,l,A⟩ g w c2 a c
   refine v 0 ?_
   refine ⟨fun _ _ b1 _ c=>?_,vt⟩
   exact bE c fun b2 U c=>y (Eb Q1 e0 e0 a rO0 U) (y (yI V3 e0 a rO0 (Rb U)) (bE c fun c3 V c=>q 16 rfl (y (Ke Q1 e0 e0 a rO0 V) (yt (Q3 (cs:=[.int .u32 (wc .u32 (wand .u64 (wa .u64 (wa .u64 (wc .u64 b2) (wc .u64 b1)) l) 4294967295))]) a V3 rfl e0 e0 rfl mkI (uf V)) fun w a=>vx))))
  rintro ⟨s,j,k,t⟩ g w c4 a c
  refine v 0 ?_
  refine ⟨fun _ _ b3 _ c=>?_,vt⟩
  exact bE c fun b4 W c=>y (Eb Q1 e0 e0 a rO0 W) (y (yI V3 e0 a rO0 (Rb W)) (bE c fun c5 X c=>q 16 rfl (y (Ke Q1 e0 e0 a rO0 X) (yt (Q3 (cs:=[.int .u32 (wc .u32 (wand .u64 (ws .u64 (ws .u64 (wc .u64 b4) (wand .u64 (wa .u64 (wm .u64 m (wc .u64 b3)) j) 4294967295)) k) 4294967295))]) a V3 rfl e0 e0 rfl mkI (uf X)) fun w a=>vx))))
 rintro ⟨n,o⟩ g w c6 a c
 refine bE c fun B d c=>q 2 rfl ?_
 refine jN Unit [0,1,5,7,8] (fun _=>[(71,.bool B)]) (fun _=>St w0 ros (row 107 (rI .u32) b.v h::rs)) rfl ?_ ?_
 ·rcases V5 d with ⟨C,d⟩ | ⟨C,d⟩
  ·have b5:=P1 d
   refine dS [] 0 E1 ?_
   replace a:=a.drew
   exact Dw 4194303 0 (qR 3 rfl (rK 52 rfl (dT C) (qR 18 rfl (rQ rfl (pt_ (.bool B) e0 rfl (eqv b5 rfl)) (Rn QSn (jr () a))))))
  ·refine bE d fun c7 Z d=>bE d fun c8 a0 d=>?_
   have b6:=P1 d
   refine dS [] 0 E1 ?_
   replace a:=a.drew
   exact Dw 4194303 0 (qR 3 rfl (rK 52 rfl (dF C) (qR 4 rfl (rQ rfl (yIa Q1 e0 e0 a (rdI f) Z) (rQ rfl (yI V3 e0 a (rdI f) Z) (qR 7 rfl (rQ rfl (Eb Q1 e0 e0 a rO0 a0) (rQ rfl (yI V3 e0 a rO0 (Rb a0)) (qR 3 rfl (rQ rfl (pf_ (.bool B) e0 rfl (eqv b6 e0)) (Rn QSn (jr () a))))))))))))
 rintro _ g w a
 exact vx
instance:CL prog 185 (type_of% @vn):=⟨@vn⟩
theorem gn {j k:LI} {m o:Hdr} {out:LI×LI} (c:m_fd j k=some out) (O:imm (rI .u32) m.v j∈ros) (R:imm (rI .u32) o.v k∈ros) (a:St w0 ros rs w):
  Calls prog 151 #[m.v,o.v] w (fun e w=>∃ (p r:Hdr),e=.returned (.tuple #[p.v,r.v])∧St w0 (imm (rI .u32) p.v out.1::imm (rI .u32) r.v out.2::ros) rs w):=by
 refine en func151 rfl ntmps151 fun Q b=>?_
 refine z 1 3 ?_;intro S T c w a
 refine cI c (fun C c=>?_) fun C c=>?_
 ·refine z 1 6 ?_;intro U V c W w a
  cases c
  replace a:=(a.immNh (rI .u32)).fz
  exact b _ _ _ (X3 results151 ⟨rfl,rfl⟩ ⟨rfl,rfl⟩ ⟨_,_,rfl,(a.facts (Q0 F1 (Q0 F0 (N0 (N0 A1)))))⟩)
 ·refine z 1 3 ?_
  refine cI c (fun D c=>?_) fun D c=>?_
  ·refine z 3 11 ?_;intro X Z c d a0 c a1 w a
   refine yh (rLt (n:=1) (l:=[d.2]) a Q1 [.int .u32 d.2] (bp1 e0) rfl rfl (N1 (cs:=[.int .u32 d.2]) rfl mkI X1)) fun a2 w a=>?_
   refine z 1 6 ?_;intro a3 a4 c a5 w a
   cases c
   exact b _ _ _ (X3 results151 ⟨rfl,rfl⟩ ⟨rfl,rfl⟩ ⟨_,_,rfl,(a.facts (Q0 F2 (Q0 F0 (N0 (N0 (N0 A1))))))⟩)
  ·refine z 6 1 ?_;intro a6 a7 c a8 a9 c w a E b0 c F w a
   refine bE c fun b1 G c=>yh (rMk a Q1 e0 G) fun s w a=>?_
   refine z 1 0 ?_;intro b2 b3 c b4 w a
   refine bE c fun b5 H c=>YV wn rfl (rCp a Q1 rfl e0 (.inr ⟨rfl,rfl,rfl⟩) e0 (rdI F0) H) fun w a=>nf ?_
   refine z 2 2 ?_
   refine bE c fun b6 I c=>yh (rMk a Q1 e0 I) fun t w a=>?_
   refine z 1 5 ?_
   obtain ⟨⟨u,x⟩,J,c⟩:=bs c
   refine lp J [4,8,9,10,11] (fun (f,h,i)=>[(12,iV i)]) (fun (f,h,i)=>St w0 (imm (rI .u32) F.v E::ros) (row 107 (rI .u32) t.v f::row 107 (rI .u32) s.v h::rs)) (fun | (u,x)=>(.exit 0,[],St w0 ros (row 107 (rI .u32) t.v u::row 107 (rI .u32) s.v x::rs))) rfl (a.facts (Q0 F1 (N0 (N0 A1)))) rfl ?_ ?_
   ·clear a
    intro g w a
    refine bE c fun b7 A c=>q 6 rfl ?_
    replace a:=(a.k10).fz
    refine y (ySl (k1:=.i64) Q1 e0 a (rdI F0) (.inr ⟨rfl,rfl⟩) (.inl (Z0 some e0)) A) ?_
    replace a:=a.sub F0 A
    refine z 3 6 ?_;intro b8 b9 c c0 w a c1 c2 c c3 w a c4 c5 c c7 w a
    cases c
    exact b _ _ _ (X3 results151 ⟨rfl,rfl⟩ ⟨rfl,rfl⟩ ⟨_,_,rfl,(a.facts (Q0 F0 (Q0 F2 (N0 (N0 (N0 (N0 (N0 (N0 A1)))))))))⟩)
   rintro ⟨f,h,i⟩ g w c8 a c
   refine q 7 rfl (cI c (fun K c=>?_) fun K c=>?_)
   ·refine q 13 rfl (bE c fun d0 L c=>y (ySl Q1 e0 a rO1 (.inl (Z0 some e0)) (.inl (Z0 some e0)) L) ?_)
    refine z 1 0 ?_;intro N d1 c w a
    refine bE c fun d2 B c=>y (yIs Q1 e0 e0 a rO1 B) ?_
    replace a:=a.k10
    refine yt (Q3 (cs:=[.int .u32 N.2]) a V3 rfl e0 e0 rfl mkI B) fun w a=>q 8 rfl ?_
    cases c
    exact lo a
   ·refine q 2 rfl ?_
    cases c
    exact xo (a.fc)
instance:CL prog 151 (type_of% @gn):=⟨@gn⟩
theorem cn {b:Bool} {r:LI} {d:Bool} {s:LI} {f h:Hdr} {out:Bool×LI×Bool×LI×Int} (c:m_ff b r d s=some out) (L:imm (rI .u32) f.v r∈ros) (N:imm (rI .u32) h.v s∈ros) (a:St w0 ros rs w):
  Calls prog 152 #[.agg #[.bool b,f.v],.agg #[.bool d,h.v]] w (fun e w=>∃ (t u:Hdr),e=.returned (.tuple #[.agg #[.bool out.1,t.v],.agg #[.bool out.2.2.1,u.v],iV out.2.2.2.2])∧St w0 (imm (rI .u32) t.v out.2.1::imm (rI .u32) u.v out.2.2.2.1::ros) rs w):=by
 refine en func152 rfl ntmps152 fun Q x=>?_
 refine z 7 3 ?_;intro A w a B w a C w a D w a F O c G w a
 refine cI c (fun H c=>?_) fun H c=>?_
 ·refine z 4 5 ?_;intro w a w a
  cases c
  replace a:=a.immNh (rI .u32)
  exact x _ _ _ (J8 results152 (I3 rfl rfl a R1 P0 rfl) (I3 rfl rfl a R0 P0 rfl) ⟨rfl,rfl⟩ ⟨_,_,rfl,((a.k1a).facts (Q0 F0 (Q0 F0 (N0 (N0 A1)))))⟩)
 ·refine z 4 1 ?_;intro R S c T w a o U c I J w a
  refine jW 4 [2,3,4,5,7,8,9] [(32,.bool (b && (decide ((0:Int) < (o.2.length:Int)))))] (St w0 (imm (rI .u32) G.v F::imm (rI .u32) I.v o.1::imm (rI .u32) J.v o.2::ros) (box A 62 [.bool b,f.v]::box B 62 [.bool d,h.v]::box C 62 [.bool false,hnil.v]::box D 62 [.bool false,hnil.v]::rs)) rfl (fun E=>?_) ?_
  ·refine gB 28 rfl (fun p=>?_) fun p=>?_
   ·refine z 1 2 ?_
    exact E _ _ ((a.k29).facts (Q0 F3 (Q0 F0 (Q0 F1 (N0 (N0 (N0 (N0 A1)))))))) (J1 (Z0 Value.bool (W5 p)) rfl)
   ·exact q 4 rfl (E _ _ ((a.k29).facts (Q0 F3 (Q0 F0 (Q0 F1 (N0 (N0 (N0 (N0 A1)))))))) (J1 (Z0 Value.bool (X5 p)) rfl))
  intro g w a
  refine q 2 rfl ?_
  refine jC (LI×LI×Hdr×Hdr) [2,3,4,5] (fun (i,j,k,m)=>[(8,k.v),(9,m.v)]) (fun (i,j,k,m) w=>St w0 (imm (rI .u32) k.v i::imm (rI .u32) m.v j::ros) (box A 62 [.bool b,f.v]::box B 62 [.bool d,h.v]::box C 62 [.bool false,hnil.v]::box D 62 [.bool false,hnil.v]::rs) w∧m_fe b d i j=some out) rfl ?_ ?_
  ·rintro ⟨i,j,k,m⟩ g w ⟨a,c⟩
   refine z 2 0 ?_
   refine y (Db I0 e0 e0) ?_
   refine z 4 4 ?_;intro V W c X w a Z a0 c a1 w a w a w a
   cases c
   exact x _ _ _ (J8 results152 (I3 rfl rfl a R1 P0 rfl) (I3 rfl rfl a R0 P0 rfl) ⟨rfl,rfl⟩ ⟨_,_,rfl,((a.k1a).facts (Q0 F1 (Q0 F0 (N0 (N0 (N0 (N0 A1)))))))⟩)
  refine cJ c (fun K c=>?_) fun K c=>?_
  ·refine q 2 rfl (yh (rLt (n:=1) (l:=[1]) a Q1 [.int .u32 1] (bp1 rfl) rfl rfl (N1 (cs:=[.int .u32 1]) rfl mkI X1)) fun a2 w a=>?_)
   refine z 2 3 ?_;intro a3 a4 c a5 w a a6 a7 c a8 w a
   exact jx (_,_,_,_) ⟨(a.facts (Q0 F1 (Q0 F0 (N0 (N0 (N0 (N0 (N0 (N0 A1))))))))),c⟩
  ·exact q 1 rfl (jx (_,_,_,_) ⟨(a.facts (Q0 F1 (Q0 F2 (N0 (N0 (N0 A1)))))),c⟩)
instance:CL prog 152 (type_of% @cn):=⟨@cn⟩
theorem Wh {f:Bool} {h:LI} {i:Bool} {j:LI} {k l:Hdr} {out:Bool×LI×Int} (c:m_fg f h i j=some out) (t:imm (rI .u32) k.v h∈ros) (u:imm (rI .u32) l.v j∈ros) (a:St w0 ros rs w):
  Calls prog 106 #[.agg #[.bool f,k.v],.agg #[.bool i,l.v]] w (fun e w=>∃ (m:Hdr),e=.returned (.tuple #[.agg #[.bool out.1,m.v],iV out.2.2])∧St w0 (imm (rI .u32) m.v out.2.1::ros) rs w):=by
 refine en func106 rfl ntmps106 fun Q p=>?_
 refine z 10 9 ?_;intro x w a y w a r w a b A c n B w a s w a C w a w a w a
 refine jW 5 [4,6,8] [(23,.bool ((decide (b.2.2.2.2=0)) && (decide ((0:Int) < (b.2.2.2.1.length:Int)))))] (St w0 (imm (rI .u32) n.v b.2.1::ros) (box r 62 [.bool false,hnil.v]::box s 62 [.bool b.1,n.v]::rs)) rfl (fun o=>?_) ?_
 ·refine gB 18 rfl (fun d=>?_) fun d=>?_
  ·refine z 2 2 ?_
   exact o _ _ ((a.k3i).facts (Q0 F0 (N0 (N0 A1)))) (J1 (Z0 Value.bool (W5 d)) rfl)
  ·exact q 5 rfl (o _ _ ((a.k3i).facts (Q0 F0 (N0 (N0 A1)))) (J1 (Z0 Value.bool (X5 d)) rfl))
 intro g w a
 refine v 0 ?_
 refine ⟨fun _ c _ a=>?_,vt⟩
 cases c
 replace a:=a.immNh (rI .u32)
 exact p _ _ _ (X3 results106 (I3 rfl rfl a R0 P0 rfl) ⟨rfl,rfl⟩ ⟨_,rfl,((a.k19).facts (Q0 F0 (N0 (N0 A1))))⟩)
instance:CL prog 106 (type_of% @Wh):=⟨@Wh⟩
theorem Vh {p b:List (Bool×LI)} {h:Bool} {r:LI} {i:Bool} {s:LI} {j:Bool} {t:LI} {d f k l m:Hdr} {out:(List (Bool×LI))} (c:m_fi p b h r i s j t=some out) (S:imm (rI .u32) k.v r∈ros) (D:imm (rI .u32) l.v s∈ros) (T:imm (rI .u32) m.v t∈ros) (a:St w0 ros (row 62 (rP rB (rS (rI .u32))) d.v p::row 62 (rP rB (rS (rI .u32))) f.v b::rs) w):
  Calls prog 182 #[d.v,f.v,.agg #[.bool h,k.v],.agg #[.bool i,l.v],.agg #[.bool j,m.v]] w (fun e w=>e=.returned (.tuple #[])∧St w0 ros (row 62 (rP rB (rS (rI .u32))) d.v out::row 62 (rP rB (rS (rI .u32))) f.v b::rs) w):=by
 refine en func182 rfl ntmps182 fun Q E=>?_
 refine z 4 4 ?_;intro F w a G w a H w a
 refine bE c fun u I c=>?_
 refine lp I [0,7,8,9,12,13] (fun (n,o)=>[(14,iV o)]) (fun (n,o)=>St w0 ros (row 62 (rP rB (rS (rI .u32))) d.v n::row 62 (rP rB (rS (rI .u32))) f.v b::box F 62 [.bool h,k.v]::box G 62 [.bool i,l.v]::box H 62 [.bool j,m.v]::rs)) (fun | u=>(.exit 0,[],St w0 ros (row 62 (rP rB (rS (rI .u32))) d.v u::row 62 (rP rB (rS (rI .u32))) f.v b::rs))) rfl (a.k3j) rfl ?_ ?_
 ·clear a
  intro g w a
  refine q 1 rfl ?_
  cases c
  exact E _ _ _ (qj results182 ⟨rfl,a⟩)
 rintro ⟨n,o⟩ g w U a c
 refine v 0 ?_
 refine ⟨fun _ _ x J c=>?_,vt⟩
 obtain ⟨V,W,cc67,a⟩:=a.ld rO1 J
 replace a:=a.eltP
 obtain ⟨X,Z,rfl,a⟩:=a
 replace a:=a.eltB
 obtain ⟨rfl,a⟩:=a
 replace a:=a.eltS
 obtain ⟨A,rfl,a⟩:=a
 refine y (yCn (cs:=[.bool x.1,A.v]) P0 rfl e0 cc67) ?_
 refine z 2 2 ?_;intro a0 w a w a
 refine bE c fun K B c=>bE c fun a1 L c=>bE c fun a2 a3 c=>bE c fun a4 a5 c=>bE c fun N a6 c=>bE c fun a7 C c=>dS [7,10,11,13,18] 5 E1 ?_
 replace a:=a.drew
 refine D1 4991 0 7 rfl (qR 2 rfl (rQ rfl (I2 [.bool i,l.v] P0 e0 a R4) (qR 2 rfl (rQ rfl (yIa Q2 e0 e0 a rO1 B) ?_))))
 obtain ⟨a8,a9,cc82,a⟩:=a.ld rO1 B
 replace a:=a.eltP
 obtain ⟨b0,b1,rfl,a⟩:=a
 replace a:=a.eltB
 obtain ⟨rfl,a⟩:=a
 replace a:=a.eltS
 obtain ⟨O,rfl,a⟩:=a
 refine rQ rfl (yCn (cs:=[.bool K.1,O.v]) P0 rfl e0 cc82) (rQ rfl (I2 [.bool h,k.v] P0 e0 a R3) (rQ rfl (I2 [.bool x.1,A.v] P0 e0 a R0) (rQ rfl (I2 [.bool j,m.v] P0 e0 a R5) (Rn QSn (kO (df L (F_2 D) F0 a) fun b2 w a=>dU ?_)))))
 refine z 3 0 ?_;intro b3 w a b4 w a R w a
 refine dU (D0 245760 3 18 rfl (qR 3 rfl (rQ rfl (yIs Q2 e0 e0 a rO1 C) (Rn (qS rfl (qS rfl QSn)) ?_))))
 replace a:=a.k10
 exact LT wn (T7 (cs:=[.bool N.1,R.v]) a P0 e0 e0 rfl (mkP mkB (mkS F0)) C) fun w a=>vx
instance:CL prog 182 (type_of% @Vh):=⟨@Vh⟩
theorem mm {S:List (List (Bool×LI))} {k:LI} {j:Bool} {F:LI} {T r G U:Int} {m:Nat} {b:Hdr} {V:List Hdr} {d o:Hdr} {out:(List (List (Bool×LI)))×LI×Bool×LI×Int} (c:m_fm S k j F T r G U=some out) (a8:imm (rI .u32) o.v F∈ros) (a:St w0 ros (box m 135 [b.v,d.v,.bool j,o.v,iV T]::row 56 rH b.v V::fam 62 (rP rB (rS (rI .u32))) V S::row 3 I1 d.v k::rs) w):
  Calls prog 150 #[(pB m),iV r,iV G,iV U] w (fun e w=>∃ (W:List Hdr) (X Z:Hdr),e=.returned (.tuple #[])∧St w0 (imm (rI .u32) Z.v out.2.2.2.1::ros) (row 56 rH b.v W::fam 62 (rP rB (rS (rI .u32))) W out.1::row 3 I1 X.v out.2.1::box m 135 [b.v,X.v,.bool out.2.2.1,Z.v,iV out.2.2.2.2]::rs) w):=by
 refine en func150 rfl ntmps150 fun Q a9=>q 8 rfl ?_
 refine jC ((List (List (Bool×LI)))×Int×(List Hdr)) [0,1,2] (fun (t,p,f)=>[]) (fun (t,p,f) w=>St w0 ros (row 56 rH b.v f::fam 62 (rP rB (rS (rI .u32))) f t::row 3 I1 d.v k::box m 135 [b.v,d.v,.bool j,o.v,iV p]::rs) w∧m_fl G r j F k t p=some out) rfl ?_ ?_
 ·rintro ⟨t,p,f⟩ g w ⟨a,c⟩
  refine z 1 1 ?_
  refine bE c fun c0 H c=>?_
  obtain ⟨c1,x⟩:=a.famI R1 H
  refine y (yIa P4 e0 e0 a rO0 x) (y (yF1 Q4 e0 a rO0 x rfl) (bE c fun h a0 c=>q 1 rfl (y (yIa Q2 e0 e0 a (rdF R1 x H) a0) ?_)))
  obtain ⟨c2,c3,cc29,a⟩:=a.ld (rdF R1 x H) a0
  replace a:=a.eltP
  obtain ⟨c4,c5,rfl,a⟩:=a
  replace a:=a.eltB
  obtain ⟨rfl,a⟩:=a
  replace a:=a.eltS
  obtain ⟨i,rfl,a⟩:=a
  refine y (yCn (cs:=[.bool h.1,i.v]) P0 rfl e0 cc29) ?_
  refine z 3 0 ?_;intro I w a w a
  refine y (C6 P4 e0 a rO1 R2) (bE c fun a1 b0 c=>q 4 rfl ?_)
  refine lp b0 [0,1,2,8,61,62] (fun (J,A)=>[(63,iV A)]) (fun (J,A)=>St w0 (imm (rI .u32) i.v h.2::ros) (row 56 rH b.v f::fam 62 (rP rB (rS (rI .u32))) f J::row 3 I1 d.v k::box m 135 [b.v,d.v,.bool j,o.v,iV p]::box I 62 [.bool h.1,i.v]::rs)) (fun | a1=>(.exit 0,[],St w0 (imm (rI .u32) i.v h.2::ros) (row 56 rH b.v f::fam 62 (rP rB (rS (rI .u32))) f a1::row 3 I1 d.v k::box m 135 [b.v,d.v,.bool j,o.v,iV p]::box I 62 [.bool h.1,i.v]::rs))) rfl (a.k1u) rfl ?_ ?_
  ·clear a
   intro g w a
   refine bE c fun c6 c7 c=>q 2 rfl (dS [7,8,12,15] 4 E1 ?_)
   replace a:=a.drew
   refine D1 639 0 7 rfl (qR 5 rfl (rQ rfl (lb_ d.v L1 e0 a R3) (qR 1 rfl (rQ rfl (I2 [.bool h.1,i.v] P0 e0 a R4) (Rn QSn (LH wn (rLt (n:=1) (l:=[r]) a V0 [iV r] (bp1 e0) rfl rfl (N1 (cs:=[iV r]) rfl mkI X1)) fun c8 w a=>dU ?_))))))
   refine z 4 0 ?_;intro c9 w a w a w a
   cases c
   exact a9 _ _ _ (qj results150 ⟨_,_,_,rfl,(a.k3l)⟩)
  rintro ⟨J,A⟩ g w b2 a c
  refine q 6 rfl (cI c (fun b3 c=>?_) fun b3 c=>?_)
  ·refine q 7 rfl (bE c fun d0 B c=>?_)
   obtain ⟨d1,s⟩:=a.famI R1 B
   refine y (yIa P4 e0 e0 a rO0 s) (y (yF1 Q4 e0 a rO0 s rfl) (q 11 rfl ?_))
   refine jC (List (List (Bool×LI))) [0,1,2,8,61,62,63] (fun C=>[]) (fun C w=>St w0 (imm (rI .u32) i.v h.2::ros) (row 56 rH b.v f::fam 62 (rP rB (rS (rI .u32))) f C::row 3 I1 d.v k::box m 135 [b.v,d.v,.bool j,o.v,iV p]::box I 62 [.bool h.1,i.v]::rs) w∧m_fj A C=some b2) rfl ?_ ?_
   ·rintro C g w ⟨a,c⟩
    refine q 6 rfl ?_
    cases c
    exact lo a
   refine cIn c (fun b4 c=>?_) fun b4 c=>?_
   ·exact q 1 rfl (jx _ ⟨a,c⟩)
   ·refine bE c fun d2 K c=>bE c fun b5 a2 c=>bE c fun u110 gu110 c=>bE c fun d3 b6 c=>bE c fun d4 b7 c=>dS [17] 1 E1 ?_
    replace a:=a.drew
    refine D1 131071 0 17 rfl (qR 4 rfl (rQ rfl (lb_ b.v A9 e0 a R3) (qR 1 rfl ?_)))
    obtain ⟨d5,D⟩:=a.famI R1 K
    refine rQ rfl (yIa P4 e0 e0 a rO0 D) (rQ rfl (yF1 Q4 e0 a rO0 D rfl) (qR 2 rfl (rQ rfl (yIa Q2 e0 e0 a (rdF R1 s B) a2) ?_)))
    obtain ⟨d6,d7,cc113,a⟩:=a.ld (rdF R1 s B) a2
    replace a:=a.eltP
    obtain ⟨d8,d9,rfl,a⟩:=a
    replace a:=a.eltB
    obtain ⟨rfl,a⟩:=a
    replace a:=a.eltS
    obtain ⟨b8,rfl,a⟩:=a
    refine rQ rfl (yCn (cs:=[.bool b5.1,b8.v]) P0 rfl e0 cc113) (rQ rfl (I2 [.bool h.1,i.v] P0 e0 a R4) (qR 3 rfl (rQ rfl (I2 [.bool j,o.v] P0 e0 a R3) (Rn QSn ?_))))
    replace a:=(a.k10).foc2 gu110 s B D K
    refine kZ (Vh b6 F0 F1 (F_2 a8) a) fun w a=>?_
    replace a:=a.unfoc2 gu110 s D K b7
    refine dU ?_
    refine z 1 0 ?_
    exact jx _ ⟨((a.k3m).facts (Q0 F1 (N0 (N0 A1)))),c⟩
  ·refine q 2 rfl ?_
   cases c
   exact xo a
 refine cI c (fun b9 c=>?_) fun b9 c=>?_
 ·refine q 1 rfl (bE c fun e1 a3 c=>bE c fun e2 a4 c=>bE c fun e3 L c=>bE c fun e4 a5 c=>dS [25,27] 2 E1 ?_)
  replace a:=a.drew
  refine D0 33554431 0 25 rfl (qR 3 rfl (rQ rfl (lb_ b.v A9 e0 a R0) (qR 4 rfl (rQ rfl (lb_ b.v A9 e0 a R0) (qR 4 rfl (rQ rfl (lb_ b.v A9 e0 a R0) (qR 1 rfl ?_)))))))
  obtain ⟨a6,N⟩:=a.famI R2 a3
  refine rQ rfl (yIa P4 e0 e0 a rO1 N) (rQ rfl (yF1 Q4 e0 a rO1 N rfl) (qR 3 rfl (rQ rfl (lb_ b.v A9 e0 a R0) (qR 1 rfl ?_))))
  obtain ⟨a7,O⟩:=a.famI R2 a4
  refine rQ rfl (yIa P4 e0 e0 a rO1 O) (rQ rfl (yF1 Q4 e0 a rO1 O rfl) ?_)
  obtain ⟨e5,E⟩:=Y8 (u:=a6) L (a.famL (mtR (mtR mhR)))
  refine rQ rfl (yIs P4 e0 e0 a rO1 E) (Rn QSn ?_)
  replace a:=a.k10
  refine LT wn (Q3 (cs:=[a6.v]) a Q4 rfl e0 e0 rfl (mkF rfl) E) fun w a=>D0 67108864 512 27 rfl ?_
  obtain ⟨e6,R⟩:=Y8 (u:=a7) a5 (kf L E (a.famL (mtR (mtR mhR))))
  refine rQ rfl (yIs P4 e0 e0 a rO0 R) (Rn (qS rfl QSn) (LT wn (Q3 (cs:=[a7.v]) a Q4 rfl e0 e0 rfl (mkF rfl) R) fun w a=>?_))
  replace a:=(a.k16).fswap N a3 O a4 E L R a5
  refine z 3 1 ?_;intro w a
  exact jx (_,_,_) ⟨(a.k3n),c⟩
 ·exact q 1 rfl (jx (_,_,_) ⟨(a.k2o),c⟩)
instance:CL prog 150 (type_of% @mm):=⟨@mm⟩
theorem p00 {N:List (List (Bool×LI))} {O:Int} {b:Hdr} {R:List Hdr} {out:(List (List (Bool×LI)))×LI×Bool×LI×Int} (c:m_fq N O=some out) (a:St w0 ros (row 56 rH b.v R::fam 62 (rP rB (rS (rI .u32))) R N::rs) w):
  Calls prog 101 #[b.v,iV O] w (fun e w=>∃ (S:List Hdr) (T U:Hdr),e=.returned (.agg #[b.v,T.v,.bool out.2.2.1,U.v,iV out.2.2.2.2])∧St w0 (imm (rI .u32) U.v out.2.2.2.1::ros) (row 56 rH b.v S::fam 62 (rP rB (rS (rI .u32))) S out.1::row 3 I1 T.v out.2.1::rs) w):=by
 refine en func101 rfl ntmps101 fun Q a7=>?_
 refine z 5 13 ?_;intro i w a b9 c0 c c1 w a j w a w a
 obtain ⟨⟨V,W,X,Z,a0⟩,a8,c⟩:=bs c
 replace a:=a.rowNh 3 I1
 refine lpN ((List Hdr)×Hdr×Hdr) ((List Hdr)×Hdr×Hdr) a8 [0,4,5,12] (fun (k,l,m,n,o,p) (d,f,h)=>[(13,iV p)]) (fun (k,l,m,n,o,p) (d,f,h)=>St w0 (imm (rI .u32) h.v n::ros) (row 56 rH b.v d::fam 62 (rP rB (rS (rI .u32))) d k::box i 135 [hnil.v,hnil.v,.bool false,hnil.v,iV 0]::row 3 I1 f.v l::box j 135 [b.v,f.v,.bool m,h.v,iV o]::rs)) (fun | (V,W,X,Z,a0),(E,F,G)=>(.exit 0,[],St w0 (imm (rI .u32) G.v Z::ros) (row 56 rH b.v E::fam 62 (rP rB (rS (rI .u32))) E V::box i 135 [hnil.v,hnil.v,.bool false,hnil.v,iV 0]::row 3 I1 F.v W::box j 135 [b.v,F.v,.bool X,G.v,iV a0]::rs))) rfl (_,_,_) (a.k3o) rfl ?_ ?_
 ·clear a
  rintro ⟨E,F,G⟩ g w a
  refine z 2 4 ?_;intro w a
  cases c
  exact a7 _ _ _ (V2 results101 (I3 rfl rfl a R0 Jj rfl) ⟨_,_,_,rfl,(a.k37)⟩)
 rintro ⟨k,l,m,n,o,p⟩ ⟨d,f,h⟩ g w a9 a c
 refine q 6 rfl (cI c (fun b0 c=>?_) fun b0 c=>?_)
 ·refine q 3 rfl ?_
  refine jC ((List (List (Bool×LI)))×LI×Bool×LI×Int×(List Hdr)×Hdr×Hdr) [0,4,5,12,13] (fun (r,s,t,u,x,A,B,C)=>[]) (fun (r,s,t,u,x,A,B,C) w=>St w0 (imm (rI .u32) C.v u::ros) (row 56 rH b.v A::fam 62 (rP rB (rS (rI .u32))) A r::box i 135 [hnil.v,hnil.v,.bool false,hnil.v,iV 0]::row 3 I1 B.v s::box j 135 [b.v,B.v,.bool t,C.v,iV x]::rs) w∧m_fn p r s t u x=some a9) rfl ?_ ?_
  ·rintro ⟨r,s,t,u,x,A,B,C⟩ g w ⟨a,c⟩
   refine q 5 rfl ?_
   cases c
   exact ln (_,_,_) a
  refine z 2 10 ?_
  refine bE c fun b1 b2 c=>?_
  refine lpN Unit ((List Hdr)×Hdr×Hdr) b2 [0,4,5,6,7,12,13] (fun H _=>[(8,iV H)]) (fun H _=>St w0 (imm (rI .u32) h.v n::ros) (row 56 rH b.v d::fam 62 (rP rB (rS (rI .u32))) d k::box i 135 [hnil.v,hnil.v,.bool false,hnil.v,iV 0]::row 3 I1 f.v l::box j 135 [b.v,f.v,.bool m,h.v,iV o]::rs)) (fun | .inl (a1,a2,a3,a4,a5),(I,J,K)=>(.exit 1,[],St w0 (imm (rI .u32) K.v a4::ros) (row 56 rH b.v I::fam 62 (rP rB (rS (rI .u32))) I a1::box i 135 [hnil.v,hnil.v,.bool false,hnil.v,iV 0]::row 3 I1 J.v a2::box j 135 [b.v,J.v,.bool a3,K.v,iV a5]::rs)) | .inr (),(_,_,_)=>(.exit 2,[],St w0 (imm (rI .u32) h.v n::ros) (row 56 rH b.v d::fam 62 (rP rB (rS (rI .u32))) d k::box i 135 [hnil.v,hnil.v,.bool false,hnil.v,iV 0]::row 3 I1 f.v l::box j 135 [b.v,f.v,.bool m,h.v,iV o]::rs))) rfl () a rfl ?_ ?_
  ·clear a
   rintro ⟨I,J,K⟩ g w a
   rcases b1 with ⟨a1,a2,a3,a4,a5⟩ | ⟨⟩
   ·exact q 2 rfl (jx (_,_,_,_,_,_,_,_) ⟨a,c⟩)
   ·exact q 2 rfl (jx (_,_,_,_,_,_,_,_) ⟨a,c⟩)
  rintro H _ g w c2 a c
  refine q 5 rfl (y (C6 P4 e0 a rO0 R1) (q 3 rfl (cI c (fun b3 c=>?_) fun b3 c=>?_)))
  ·refine q 8 rfl (bE c fun c3 L c=>?_)
   obtain ⟨c4,D⟩:=a.famI R1 L
   refine y (yIa P4 e0 e0 a rO0 D) (y (yF1 Q4 e0 a rO0 D rfl) (bE c fun b4 a6 c=>q 1 rfl (y (yIa Q2 e0 e0 a (rdF R1 D L) a6) ?_)))
   obtain ⟨c5,c6,cc521,a⟩:=a.ld (rdF R1 D L) a6
   replace a:=a.eltP
   obtain ⟨c7,c8,rfl,a⟩:=a
   replace a:=a.eltB
   obtain ⟨rfl,a⟩:=a
   replace a:=a.eltS
   obtain ⟨b6,rfl,a⟩:=a
   refine y (yCn (cs:=[.bool b4.1,b6.v]) P0 rfl e0 cc521) ?_
   refine z 1 3 ?_;intro c9 d0 c w a
   refine cIn c (fun b7 c=>?_) fun b7 c=>?_
   ·refine q 8 rfl ?_
    cases c
    exact ln () (a.facts (Q0 F1 (N0 (N0 A1))))
   ·refine z 1 5 ?_;intro d1 d2 c d3 d4 d5 w a
    cases c
    exact lx (_,_,_) ((a.k3q).facts (Q0 F0 (N0 (N0 (N0 A1)))))
  ·refine q 2 rfl ?_
   cases c
   exact lx ([],hnil,hnil) a
 ·refine q 2 rfl ?_
  cases c
  exact lx (_,_,_) a
instance:CL prog 101 (type_of% @p00):=⟨@p00⟩
theorem km {b:List (List (Bool×LI))} {d:Hdr} {out:Int×Int} (c:m_fr b=some out) (f:imm (rS (rP rB (rS (rI .u32)))) d.v b∈ros) (a:St w0 ros rs w):
  Calls prog 71 #[d.v] w (rv w0 ros rs (.tuple #[iV out.1,iV out.2])):=by
 refine en func71 rfl ntmps71 fun Q k=>?_
 refine v 0 ?_
 refine fun _ _ _ w a=>⟨fun _ c=>?_,vt⟩
 refine bE c fun l g c=>?_
 replace a:=a.immNh (rP rB (rS (rI .u32)))
 refine cT_ (ef g (mtF f) F0 a) fun h m w a=>?_
 refine z 2 0 ?_;intro n o c w a e p c q i j w a
 exact y (yFv (cs:=[h.v,i.v,.bool e.2.2.1,j.v,iV e.2.2.2.2]) kD e0 rfl) vx
instance:CL prog 71 (type_of% @km):=⟨@km⟩
theorem Nh {f:List (List (Bool×LI))} {h:Int} {i:Hdr} {out:BL} (c:m_ft f h=some out) (s:imm (rS (rP rB (rS (rI .u32)))) i.v f∈ros) (a:St w0 ros rs w):
  Calls prog 45 #[i.v,iV h] w (ro w0 ros rs 4 rB out):=by
 refine en func45 rfl ntmps45 fun Q m=>bE c fun t n c=>q 8 rfl (yh (rMk a Dg e0 n) fun j w a=>bE c fun k o c=>q 16 rfl ?_)
 refine lp o [0,5,12] (fun (d,b,e)=>[(6,iV b),(13,iV e)]) (fun (d,b,e)=>St w0 ros (row 4 rB j.v d::rs)) (fun | k=>(.exit 0,[],St w0 ros (row 4 rB j.v k::rs))) rfl a rfl ?_ ?_
 ·clear a
  intro g w a
  refine q 9 rfl ?_
  cases c
  exact m _ _ _ (V2 results45 ⟨rfl,rfl⟩ ⟨_,rfl,a⟩)
 rintro ⟨d,b,e⟩ g w u a c
 refine q 6 rfl (cI c (fun p c=>?_) fun p c=>?_)
 ·refine z 2 14 ?_;intro x A c B w a r C c w a
  refine bE c fun D l c=>y (yIs Dg e0 e0 a rO0 l) (yt (Q3 (cs:=[.bool (decide (r.1=b))]) a O_4 rfl e0 e0 rfl mkB l) fun w a=>q 12 rfl ?_)
  cases c
  exact lo (a.fc)
 ·refine q 2 rfl ?_
  cases c
  exact xo a
instance:CL prog 45 (type_of% @Nh):=⟨@Nh⟩
end Go.Proofs.YthekfonboblioaaGreatDoor
