/- Walks: each function computes its model, printed. -/
import Derived.Test.YtcoaljcfifecgaeGreatDoorW6
namespace Go.Proofs.YtcoaljcfifecgaeGreatDoor
open Go Sx M Go.Proofs.Tryz
set_option maxRecDepth 100000
set_option maxHeartbeats 40000000
set_option linter.unusedVariables false
attribute [local irreducible] wpList Code.wp Calls DR QR QS LA LS St row box fam imm rowS loop
variable {w0:World} {ros:List Fact} {rs:List Res} {w:World}
theorem w_c0 {i j:LI} {k l:Hdr} {out:LI} (c:m_e2 i j=some out) (x:imm (rI .u32) k.v i∈ros) (A:imm (rI .u32) l.v j∈ros) (a:St w0 ros rs w):
  Calls prog 120 #[k.v,l.v] w (ri w0 ros rs (rI .u32) out):=by
 refine en func120 rfl ntmps120 fun Q o=>?_
 refine z 1 0 ?_
 refine bE c fun B p c=>yh (rMk a SL_58 e0 p) fun f w a=>?_
 refine z 1 4 ?_
 refine bE c fun m r c=>?_
 refine lp r [1,5,13,14] (fun (b,h,e)=>[(6,.int .u64 h),(15,iV e)]) (fun (b,h,e)=>St w0 ros (row 106 (rI .u32) f.v b::rs)) (fun | m=>(.exit 0,[],St w0 ros (row 106 (rI .u32) f.v m::rs))) rfl a rfl ?_ ?_
 ·clear a
  intro g w a
  refine z 1 4 ?_;intro C D c E w a
  cases c
  exact o _ _ _ (fin1r results120 ⟨rfl,rfl⟩ ⟨_,rfl,(a.facts (allC F0 (allT (allT allI))))⟩)
 rintro ⟨b,h,e⟩ g w s a c
 refine q 6 rfl (cI c (fun t c=>?_) fun t c=>?_)
 ·refine z 3 3 ?_;intro F G c
  refine jC Int [1,5,7,13,14,15] (fun d=>[(9,.int .u64 d)]) (fun d w=>St w0 ros (row 106 (rI .u32) f.v b::rs) w∧m_e0 b e d=some s) rfl ?_ ?_
  ·rintro d g w ⟨a,c⟩
   refine bE c fun H n c=>q 8 rfl (y (yIs SL_58 e0 e0 a rO0 n) (yt (r_sti (cs:=[.int .u32 (wc .u32 (wand .u64 d 4294967295))]) a O_106 rfl e0 e0 rfl mkI n) fun w a=>q 14 rfl ?_))
   cases c
   exact lo a
  refine cI c (fun u c=>?_) fun u c=>?_
  ·refine z 2 4 ?_;intro I J c
   exact jx _ ⟨a,c⟩
  ·exact q 1 rfl (jx _ ⟨a,c⟩)
 ·refine q 2 rfl ?_
  cases c
  exact xo a
instance:CL prog 120 (type_of% @w_c0):=⟨@w_c0⟩
theorem w_c1 {b:Bool} {d:LI} {e:Bool} {f:LI} {g h:Hdr} {out:Bool×LI} (c:m_e3 b d e f=some out) (i:imm (rI .u32) g.v d∈ros) (j:imm (rI .u32) h.v f∈ros) (a:St w0 ros rs w):
  Calls prog 76 #[.agg #[.bool b,g.v],.agg #[.bool e,h.v]] w (rb w0 ros rs out):=by
 refine en func76 rfl ntmps76 fun Q k=>?_
 refine z 3 3 ?_;intro l w a m w a n w a
 refine bE c fun o p c=>bE c fun q r c=>dS [2,5,6,7] 4 folM ?_
 replace a:=a.drew
 refine z 9 0 ?_;intro s w a t w a
 exact y (yeqb (by kernel_rfl) e0 e0) vx
instance:CL prog 76 (type_of% @w_c1):=⟨@w_c1⟩
theorem w_c2 {b:Bool} {d:LI} {e:Bool} {f:LI} {g h:Hdr} {out:Bool×LI} (c:m_e4 b d e f=some out) (i:imm (rI .u32) g.v d∈ros) (j:imm (rI .u32) h.v f∈ros) (a:St w0 ros rs w):
  Calls prog 172 #[.agg #[.bool b,g.v],.agg #[.bool e,h.v]] w (rb w0 ros rs out):=by
 exact en func172 rfl ntmps172 fun Q k=>vx
instance:CL prog 172 (type_of% @w_c2):=⟨@w_c2⟩
theorem w_c3 {h:LI} {i:Int} {j:Hdr} {out:LI×Int} (c:m_e6 h i=some out) (x:imm (rI .u32) j.v h∈ros) (a:St w0 ros rs w):
  Calls prog 165 #[j.v,.int .u32 i] w (fun e w=>∃ (k:Hdr),e=.returned (.tuple #[k.v,.int .u32 out.2])∧St w0 (imm (rI .u32) k.v out.1::ros) rs w):=by
 refine en func165 rfl ntmps165 fun Q p=>?_
 refine z 1 0 ?_
 refine bE c fun A r c=>yh (rMk a SL_58 e0 r) fun l w a=>?_
 refine z 1 5 ?_
 obtain ⟨⟨m,n⟩,s,c⟩:=bs c
 refine lp s [0,1,6] (fun (b,d,f)=>[(7,.int .u64 d),(8,iV f)]) (fun (b,d,f)=>St w0 ros (row 106 (rI .u32) l.v b::rs)) (fun | (m,n)=>(.exit 0,[(7,.int .u64 n)],St w0 ros (row 106 (rI .u32) l.v m::rs))) rfl a rfl ?_ ?_
 ·clear a
  intro g w a
  refine z 1 7 ?_;intro B C c D w a
  cases c
  exact p _ _ _ (fin2r results165 ⟨rfl,rfl⟩ ⟨rfl,rfl⟩ ⟨_,rfl,(a.facts (allC F0 (allT (allT allI))))⟩)
 rintro ⟨b,d,f⟩ g w E a c
 refine q 7 rfl (cI c (fun t c=>?_) fun t c=>?_)
 ·refine z 3 1 ?_;intro F G c u H c
  refine bE c fun I o c=>y (yIs SL_58 e0 e0 a rO0 o) (yt (r_sti (cs:=[.int .u32 (wc .u32 u)]) a O_106 rfl e0 e0 rfl mkI o) fun w a=>?_)
  refine z 1 9 ?_;intro J K c
  cases c
  exact lo a
 ·refine q 2 rfl ?_
  cases c
  exact xo a
instance:CL prog 165 (type_of% @w_c3):=⟨@w_c3⟩
theorem w_c4 {b out:Int} (c:m_e7 b=some out) (a:St w0 ros rs w):
  Calls prog 166 #[.int .u32 b] w (rv w0 ros rs (iV out)):=by
 exact en func166 rfl ntmps166 fun Q d=>vx
instance:CL prog 166 (type_of% @w_c4):=⟨@w_c4⟩
theorem w_c5 {h:LI} {D E:Int} {F:LI} {b G:Hdr} {out:LI×Int} (c:m_fb h D E F=some out) (f:imm (rI .u32) G.v F∈ros) (a:St w0 ros (row 106 (rI .u32) b.v h::rs) w):
  Calls prog 167 #[(subH b 1 D E).v,G.v] w (fun e w=>e=.returned (.int .u32 out.2)∧St w0 ros (row 106 (rI .u32) b.v out.1::rs) w):=by
 refine en func167 rfl ntmps167 fun Q b7=>?_
 refine z 1 4 ?_
 refine bE c fun a1 H c=>bE c fun a2 I c=>dS [13] 1 folM ?_
 replace a:=a.drew
 refine D1 8191 0 13 rfl (qR 2 rfl (rQ rfl (yIaW SL_58 e0 e0 a rO0 H) (rQ rfl (yI O_106 e0 a rO0 (getW_g H)) (qR 5 rfl (rQ rfl (yIaW SL_58 e0 e0 a rO0 I) (rQ rfl (yI O_106 e0 a rO0 (getW_g I)) (qR 2 rfl (Rn QSn (Ly wn (a_ (.int .u64 (wor .u64 (wslc .u64 (wc .u64 a1) 32) (wc .u64 a2))) e0) (dU ?_))))))))))
 refine z 1 2 ?_
 refine bE c fun b8 J c=>bE c fun a3 a4 c=>bE c fun b9 i c=>bE c fun a5 K c=>dS [16,17] 2 folM ?_
 replace a:=a.drew
 refine D1 65535 0 16 rfl (qR 4 rfl (rQ rfl (yIa SL_58 e0 e0 a (rdI f) J) (rQ rfl (yI O_106 e0 a (rdI f) J) (qR 1 rfl (rQ rfl (yquo e0 e0 a4) (qR 4 rfl (rQ rfl (yIa SL_58 e0 e0 a (rdI f) i) (rQ rfl (yI O_106 e0 a (rdI f) i) (qR 1 rfl (rQ rfl (yrem e0 e0 K) (Rn QSn (Ly wn (a_ (.int .u64 a3) e0) (dU ?_)))))))))))))
 refine D1 0 65280 17 rfl (Rn (qS rfl (qS rfl (qS rfl (qS rfl (sY rfl (yIa SL_58 e0 e0 a (rdI f) i) (sY rfl (yI O_106 e0 a (rdI f) i) (qS rfl (sY rfl (yrem e0 e0 K) QSn)))))))) (Ly wn (a_ (.int .u64 a5) e0) (dU ?_)))
 refine z 1 3 ?_
 refine bE c fun m a6 c=>?_
 refine lp a6 [0,1,5] (fun (n,o)=>[(7,.int .u64 n),(8,.int .u64 o)]) (fun (n,o)=>St w0 ros (row 106 (rI .u32) b.v h::rs)) (fun | m=>(.exit 0,[(7,.int .u64 m)],St w0 ros (row 106 (rI .u32) b.v h::rs))) rfl a rfl ?_ ?_
 ·clear a
  intro g w a
  refine z 1 4 ?_
  obtain ⟨⟨L,p,r⟩,a7,c⟩:=bs c
  refine lp a7 [0,1,5,7,84,85] (fun (s,j,k,t)=>[(9,.int .u64 j),(10,.int .u64 k),(86,iV t)]) (fun (s,j,k,t)=>St w0 ros (row 106 (rI .u32) b.v s::rs)) (fun | (L,p,r)=>(.exit 2,[(9,.int .u64 p),(10,.int .u64 r)],St w0 ros (row 106 (rI .u32) b.v L::rs))) rfl a rfl ?_ ?_
  ·clear a
   intro g w a
   refine bE c fun a8 N c=>q 6 rfl (y (yIaW SL_58 e0 e0 a rO0 N) (y (yI O_106 e0 a rO0 (getW_g N)) (bE c fun c0 O c=>q 15 rfl (y (yIsW SL_58 e0 e0 a rO0 O) (yt (r_sti (cs:=[.int .u32 (wc .u32 (wand .u64 (ws .u64 (ws .u64 (wc .u64 a8) p) r) 4294967295))]) a O_106 rfl e0 e0 rfl mkI (setW_g O)) fun w a=>?_)))))
   refine v 0 ?_
   refine ⟨vt,fun _ c=>?_⟩
   obtain ⟨⟨R,u⟩,a9,c⟩:=bs c
   refine lp a9 [0,5,7,140,141] (fun (x,l,A)=>[(9,.int .u64 l),(142,iV A)]) (fun (x,l,A)=>St w0 ros (row 106 (rI .u32) b.v x::rs)) (fun | (R,u)=>(.exit 4,[(9,.int .u64 u)],St w0 ros (row 106 (rI .u32) b.v R::rs))) rfl a rfl ?_ ?_
   ·clear a
    intro g w a
    exact bE c fun b0 S c=>q 6 rfl (y (yIaW SL_58 e0 e0 a rO0 S) (y (yI O_106 e0 a rO0 (getW_g S)) (bE c fun c1 T c=>q 3 rfl (y (yIsW SL_58 e0 e0 a rO0 T) (yt (r_sti (cs:=[.int .u32 (wa .u32 b0 (wc .u32 u))]) a O_106 rfl e0 e0 rfl mkI (setW_g T)) fun w a=>vx)))))
   rintro ⟨x,l,A⟩ g w c2 a c
   refine v 0 ?_
   refine ⟨fun _ _ b1 _ c=>?_,vt⟩
   exact bE c fun b2 U c=>y (yIaW SL_58 e0 e0 a rO0 U) (y (yI O_106 e0 a rO0 (getW_g U)) (bE c fun c3 V c=>q 16 rfl (y (yIsW SL_58 e0 e0 a rO0 V) (yt (r_sti (cs:=[.int .u32 (wc .u32 (wand .u64 (wa .u64 (wa .u64 (wc .u64 b2) (wc .u64 b1)) l) 4294967295))]) a O_106 rfl e0 e0 rfl mkI (setW_g V)) fun w a=>vx))))
  rintro ⟨s,j,k,t⟩ g w c4 a c
  refine v 0 ?_
  refine ⟨fun _ _ b3 _ c=>?_,vt⟩
  exact bE c fun b4 W c=>y (yIaW SL_58 e0 e0 a rO0 W) (y (yI O_106 e0 a rO0 (getW_g W)) (bE c fun c5 X c=>q 16 rfl (y (yIsW SL_58 e0 e0 a rO0 X) (yt (r_sti (cs:=[.int .u32 (wc .u32 (wand .u64 (ws .u64 (ws .u64 (wc .u64 b4) (wand .u64 (wa .u64 (wm .u64 m (wc .u64 b3)) j) 4294967295)) k) 4294967295))]) a O_106 rfl e0 e0 rfl mkI (setW_g X)) fun w a=>vx))))
 rintro ⟨n,o⟩ g w c6 a c
 refine bE c fun B d c=>q 2 rfl ?_
 refine jN Unit [0,1,5,7,8] (fun _=>[(71,.bool B)]) (fun _=>St w0 ros (row 106 (rI .u32) b.v h::rs)) rfl ?_ ?_
 ·rcases iteS d with ⟨C,d⟩ | ⟨C,d⟩
  ·have b5:=someI d
   refine dS [] 0 folM ?_
   replace a:=a.drew
   exact Dw 4194303 0 (qR 3 rfl (rK 52 rfl (dT C) (qR 18 rfl (rQ rfl (pt_ (.bool B) e0 rfl (eqv b5 rfl)) (Rn QSn (jr () a))))))
  ·refine bE d fun c7 Z d=>bE d fun c8 a0 d=>?_
   have b6:=someI d
   refine dS [] 0 folM ?_
   replace a:=a.drew
   exact Dw 4194303 0 (qR 3 rfl (rK 52 rfl (dF C) (qR 4 rfl (rQ rfl (yIa SL_58 e0 e0 a (rdI f) Z) (rQ rfl (yI O_106 e0 a (rdI f) Z) (qR 7 rfl (rQ rfl (yIaW SL_58 e0 e0 a rO0 a0) (rQ rfl (yI O_106 e0 a rO0 (getW_g a0)) (qR 3 rfl (rQ rfl (pf_ (.bool B) e0 rfl (eqv b6 e0)) (Rn QSn (jr () a))))))))))))
 rintro _ g w a
 exact vx
instance:CL prog 167 (type_of% @w_c5):=⟨@w_c5⟩
theorem w_c6 {j k:LI} {m o:Hdr} {out:LI×LI} (c:m_fd j k=some out) (O:imm (rI .u32) m.v j∈ros) (R:imm (rI .u32) o.v k∈ros) (a:St w0 ros rs w):
  Calls prog 139 #[m.v,o.v] w (fun e w=>∃ (p r:Hdr),e=.returned (.tuple #[p.v,r.v])∧St w0 (imm (rI .u32) p.v out.1::imm (rI .u32) r.v out.2::ros) rs w):=by
 refine en func139 rfl ntmps139 fun Q b=>?_
 refine z 1 3 ?_;intro S T c w a
 refine cI c (fun C c=>?_) fun C c=>?_
 ·refine z 1 6 ?_;intro U V c W w a
  cases c
  replace a:=(a.immNh (rI .u32)).fz
  exact b _ _ _ (fin2r results139 ⟨rfl,rfl⟩ ⟨rfl,rfl⟩ ⟨_,_,rfl,(a.facts (allC F1 (allC F0 (allT (allT allI)))))⟩)
 ·refine z 1 3 ?_
  refine cI c (fun D c=>?_) fun D c=>?_
  ·refine z 3 11 ?_;intro X Z c d a0 c a1 w a
   refine yh (rLt (n:=1) (l:=[d.2]) a SL_58 [.int .u32 d.2] (bp1 e0) rfl rfl (mks1 (cs:=[.int .u32 d.2]) rfl mkI mks0)) fun a2 w a=>?_
   refine z 1 6 ?_;intro a3 a4 c a5 w a
   cases c
   exact b _ _ _ (fin2r results139 ⟨rfl,rfl⟩ ⟨rfl,rfl⟩ ⟨_,_,rfl,(a.facts (allC F2 (allC F0 (allT (allT (allT allI))))))⟩)
  ·refine z 6 1 ?_;intro a6 a7 c a8 a9 c w a E b0 c F w a
   refine bE c fun b1 G c=>yh (rMk a SL_58 e0 G) fun s w a=>?_
   refine z 1 0 ?_;intro b2 b3 c b4 w a
   refine bE c fun b5 H c=>YV wn rfl (rCp a SL_58 rfl e0 (.inr ⟨rfl,rfl,rfl⟩) e0 (rdI F0) H) fun w a=>nf ?_
   refine z 2 2 ?_
   refine bE c fun b6 I c=>yh (rMk a SL_58 e0 I) fun t w a=>?_
   refine z 1 5 ?_
   obtain ⟨⟨u,x⟩,J,c⟩:=bs c
   refine lp J [4,8,9,10,11] (fun (f,h,i)=>[(12,iV i)]) (fun (f,h,i)=>St w0 (imm (rI .u32) F.v E::ros) (row 106 (rI .u32) t.v f::row 106 (rI .u32) s.v h::rs)) (fun | (u,x)=>(.exit 0,[],St w0 ros (row 106 (rI .u32) t.v u::row 106 (rI .u32) s.v x::rs))) rfl (a.facts (allC F1 (allT (allT allI)))) rfl ?_ ?_
   ·clear a
    intro g w a
    refine bE c fun b7 A c=>q 6 rfl ?_
    replace a:=(a.k10).fz
    refine y (ySl (k1:=.i64) SL_58 e0 a (rdI F0) (.inr ⟨rfl,rfl⟩) (.inl (congrArg some e0)) A) ?_
    replace a:=a.sub F0 A
    refine z 3 6 ?_;intro b8 b9 c c0 w a c1 c2 c c3 w a c4 c5 c c7 w a
    cases c
    exact b _ _ _ (fin2r results139 ⟨rfl,rfl⟩ ⟨rfl,rfl⟩ ⟨_,_,rfl,(a.facts (allC F0 (allC F2 (allT (allT (allT (allT (allT (allT allI)))))))))⟩)
   rintro ⟨f,h,i⟩ g w c8 a c
   refine q 7 rfl (cI c (fun K c=>?_) fun K c=>?_)
   ·refine q 13 rfl (bE c fun d0 L c=>y (ySl SL_58 e0 a rO1 (.inl (congrArg some e0)) (.inl (congrArg some e0)) L) ?_)
    refine z 1 0 ?_;intro N d1 c w a
    refine bE c fun d2 B c=>y (yIs SL_58 e0 e0 a rO1 B) ?_
    replace a:=a.k10
    refine yt (r_sti (cs:=[.int .u32 N.2]) a O_106 rfl e0 e0 rfl mkI B) fun w a=>q 8 rfl ?_
    cases c
    exact lo a
   ·refine q 2 rfl ?_
    cases c
    exact xo (a.fc)
instance:CL prog 139 (type_of% @w_c6):=⟨@w_c6⟩
theorem w_c7 {b:Bool} {r:LI} {d:Bool} {s:LI} {f h:Hdr} {out:Bool×LI×Bool×LI×Int} (c:m_ff b r d s=some out) (L:imm (rI .u32) f.v r∈ros) (N:imm (rI .u32) h.v s∈ros) (a:St w0 ros rs w):
  Calls prog 140 #[.agg #[.bool b,f.v],.agg #[.bool d,h.v]] w (fun e w=>∃ (t u:Hdr),e=.returned (.tuple #[.agg #[.bool out.1,t.v],.agg #[.bool out.2.2.1,u.v],iV out.2.2.2.2])∧St w0 (imm (rI .u32) t.v out.2.1::imm (rI .u32) u.v out.2.2.2.1::ros) rs w):=by
 refine en func140 rfl ntmps140 fun Q x=>?_
 refine z 7 3 ?_;intro A w a B w a C w a D w a F O c G w a
 refine cI c (fun H c=>?_) fun H c=>?_
 ·refine z 4 5 ?_;intro w a w a
  cases c
  replace a:=a.immNh (rI .u32)
  exact x _ _ _ (fin3r results140 (rcs2 rfl rfl a R1 ST_60 rfl) (rcs2 rfl rfl a R0 ST_60 rfl) ⟨rfl,rfl⟩ ⟨_,_,rfl,((a.k1a).facts (allC F0 (allC F0 (allT (allT allI)))))⟩)
 ·refine z 4 1 ?_;intro R S c T w a o U c I J w a
  refine jW 4 [2,3,4,5,7,8,9] [(32,.bool (b && (decide ((0:Int) < (o.2.length:Int)))))] (St w0 (imm (rI .u32) G.v F::imm (rI .u32) I.v o.1::imm (rI .u32) J.v o.2::ros) (box A 60 [.bool b,f.v]::box B 60 [.bool d,h.v]::box C 60 [.bool false,hnil.v]::box D 60 [.bool false,hnil.v]::rs)) rfl (fun E=>?_) ?_
  ·refine gB 28 rfl (fun p=>?_) fun p=>?_
   ·refine z 1 2 ?_
    exact E _ _ ((a.k29).facts (allC F3 (allC F0 (allC F1 (allT (allT (allT (allT allI)))))))) (hasC (congrArg Value.bool (andT p)) rfl)
   ·exact q 4 rfl (E _ _ ((a.k29).facts (allC F3 (allC F0 (allC F1 (allT (allT (allT (allT allI)))))))) (hasC (congrArg Value.bool (andF p)) rfl))
  intro g w a
  refine q 2 rfl ?_
  refine jC (LI×LI×Hdr×Hdr) [2,3,4,5] (fun (i,j,k,m)=>[(8,k.v),(9,m.v)]) (fun (i,j,k,m) w=>St w0 (imm (rI .u32) k.v i::imm (rI .u32) m.v j::ros) (box A 60 [.bool b,f.v]::box B 60 [.bool d,h.v]::box C 60 [.bool false,hnil.v]::box D 60 [.bool false,hnil.v]::rs) w∧m_fe b d i j=some out) rfl ?_ ?_
  ·rintro ⟨i,j,k,m⟩ g w ⟨a,c⟩
   refine z 2 0 ?_
   refine y (yneb (by kernel_rfl) e0 e0) ?_
   refine z 4 4 ?_;intro V W c X w a Z a0 c a1 w a w a w a
   cases c
   exact x _ _ _ (fin3r results140 (rcs2 rfl rfl a R1 ST_60 rfl) (rcs2 rfl rfl a R0 ST_60 rfl) ⟨rfl,rfl⟩ ⟨_,_,rfl,((a.k1a).facts (allC F1 (allC F0 (allT (allT (allT (allT allI)))))))⟩)
  refine cJ c (fun K c=>?_) fun K c=>?_
  ·refine q 2 rfl (yh (rLt (n:=1) (l:=[1]) a SL_58 [.int .u32 1] (bp1 rfl) rfl rfl (mks1 (cs:=[.int .u32 1]) rfl mkI mks0)) fun a2 w a=>?_)
   refine z 2 3 ?_;intro a3 a4 c a5 w a a6 a7 c a8 w a
   exact jx (_,_,_,_) ⟨(a.facts (allC F1 (allC F0 (allT (allT (allT (allT (allT (allT allI))))))))),c⟩
  ·exact q 1 rfl (jx (_,_,_,_) ⟨(a.facts (allC F1 (allC F2 (allT (allT (allT allI)))))),c⟩)
instance:CL prog 140 (type_of% @w_c7):=⟨@w_c7⟩
theorem w_c8 {f:Bool} {h:LI} {i:Bool} {j:LI} {k l:Hdr} {out:Bool×LI×Int} (c:m_fg f h i j=some out) (t:imm (rI .u32) k.v h∈ros) (u:imm (rI .u32) l.v j∈ros) (a:St w0 ros rs w):
  Calls prog 105 #[.agg #[.bool f,k.v],.agg #[.bool i,l.v]] w (fun e w=>∃ (m:Hdr),e=.returned (.tuple #[.agg #[.bool out.1,m.v],iV out.2.2])∧St w0 (imm (rI .u32) m.v out.2.1::ros) rs w):=by
 refine en func105 rfl ntmps105 fun Q p=>?_
 refine z 10 9 ?_;intro x w a y w a r w a b A c n B w a s w a C w a w a w a
 refine jW 5 [4,6,8] [(23,.bool ((decide (b.2.2.2.2=0)) && (decide ((0:Int) < (b.2.2.2.1.length:Int)))))] (St w0 (imm (rI .u32) n.v b.2.1::ros) (box r 60 [.bool false,hnil.v]::box s 60 [.bool b.1,n.v]::rs)) rfl (fun o=>?_) ?_
 ·refine gB 18 rfl (fun d=>?_) fun d=>?_
  ·refine z 2 2 ?_
   exact o _ _ ((a.k33).facts (allC F0 (allT (allT allI)))) (hasC (congrArg Value.bool (andT d)) rfl)
  ·exact q 5 rfl (o _ _ ((a.k33).facts (allC F0 (allT (allT allI)))) (hasC (congrArg Value.bool (andF d)) rfl))
 intro g w a
 refine v 0 ?_
 refine ⟨fun _ c _ a=>?_,vt⟩
 cases c
 replace a:=a.immNh (rI .u32)
 exact p _ _ _ (fin2r results105 (rcs2 rfl rfl a R0 ST_60 rfl) ⟨rfl,rfl⟩ ⟨_,rfl,((a.k19).facts (allC F0 (allT (allT allI))))⟩)
instance:CL prog 105 (type_of% @w_c8):=⟨@w_c8⟩
theorem w_c9 {p b:List (Bool×LI)} {h:Bool} {r:LI} {i:Bool} {s:LI} {j:Bool} {t:LI} {d f k l m:Hdr} {out:(List (Bool×LI))} (c:m_fi p b h r i s j t=some out) (S:imm (rI .u32) k.v r∈ros) (D:imm (rI .u32) l.v s∈ros) (T:imm (rI .u32) m.v t∈ros) (a:St w0 ros (row 60 (rP rB (rS (rI .u32))) d.v p::row 60 (rP rB (rS (rI .u32))) f.v b::rs) w):
  Calls prog 159 #[d.v,f.v,.agg #[.bool h,k.v],.agg #[.bool i,l.v],.agg #[.bool j,m.v]] w (fun e w=>e=.returned (.tuple #[])∧St w0 ros (row 60 (rP rB (rS (rI .u32))) d.v out::row 60 (rP rB (rS (rI .u32))) f.v b::rs) w):=by
 refine en func159 rfl ntmps159 fun Q E=>?_
 refine z 4 4 ?_;intro F w a G w a H w a
 refine bE c fun u I c=>?_
 refine lp I [0,7,8,9,12,13] (fun (n,o)=>[(14,iV o)]) (fun (n,o)=>St w0 ros (row 60 (rP rB (rS (rI .u32))) d.v n::row 60 (rP rB (rS (rI .u32))) f.v b::box F 60 [.bool h,k.v]::box G 60 [.bool i,l.v]::box H 60 [.bool j,m.v]::rs)) (fun | u=>(.exit 0,[],St w0 ros (row 60 (rP rB (rS (rI .u32))) d.v u::row 60 (rP rB (rS (rI .u32))) f.v b::rs))) rfl (a.k34) rfl ?_ ?_
 ·clear a
  intro g w a
  refine q 1 rfl ?_
  cases c
  exact E _ _ _ (fin0n results159 ⟨rfl,a⟩)
 rintro ⟨n,o⟩ g w U a c
 refine v 0 ?_
 refine ⟨fun _ _ x J c=>?_,vt⟩
 obtain ⟨V,W,cc67,a⟩:=a.ld rO1 J
 replace a:=a.eltP
 obtain ⟨X,Z,rfl,a⟩:=a
 replace a:=a.eltB
 obtain ⟨rfl,a⟩:=a
 replace a:=a.eltS
 obtain ⟨A,rfl,a⟩:=a
 refine y (yCn (cs:=[.bool x.1,A.v]) ST_60 rfl e0 cc67) ?_
 refine z 2 2 ?_;intro a0 w a w a
 refine bE c fun K B c=>bE c fun a1 L c=>bE c fun a2 a3 c=>bE c fun a4 a5 c=>bE c fun N a6 c=>bE c fun a7 C c=>dS [7,10,11,13,18] 5 folM ?_
 replace a:=a.drew
 refine D1 4991 0 7 rfl (qR 2 rfl (rQ rfl (lbs_ [.bool i,l.v] ST_60 e0 a R4) (qR 2 rfl (rQ rfl (yIa SL_54 e0 e0 a rO1 B) ?_))))
 obtain ⟨a8,a9,cc82,a⟩:=a.ld rO1 B
 replace a:=a.eltP
 obtain ⟨b0,b1,rfl,a⟩:=a
 replace a:=a.eltB
 obtain ⟨rfl,a⟩:=a
 replace a:=a.eltS
 obtain ⟨O,rfl,a⟩:=a
 refine rQ rfl (yCn (cs:=[.bool K.1,O.v]) ST_60 rfl e0 cc82) (rQ rfl (lbs_ [.bool h,k.v] ST_60 e0 a R3) (rQ rfl (lbs_ [.bool x.1,A.v] ST_60 e0 a R0) (rQ rfl (lbs_ [.bool j,m.v] ST_60 e0 a R5) (Rn QSn (kO (w_cv L (F_2 D) F0 a) fun b2 w a=>dU ?_)))))
 refine z 3 0 ?_;intro b3 w a b4 w a R w a
 refine dU (D0 245760 3 18 rfl (qR 3 rfl (rQ rfl (yIs SL_54 e0 e0 a rO1 C) (Rn (qS rfl (qS rfl QSn)) ?_))))
 replace a:=a.k10
 exact LT wn (r_stn (cs:=[.bool N.1,R.v]) a ST_60 e0 e0 rfl (mkP mkB (mkS F0)) C) fun w a=>vx
instance:CL prog 159 (type_of% @w_c9):=⟨@w_c9⟩
theorem w_da {S:List (List (Bool×LI))} {k:LI} {j:Bool} {F:LI} {T r G U:Int} {m:Nat} {b:Hdr} {V:List Hdr} {d o:Hdr} {out:(List (List (Bool×LI)))×LI×Bool×LI×Int} (c:m_fm S k j F T r G U=some out) (a8:imm (rI .u32) o.v F∈ros) (a:St w0 ros (box m 123 [b.v,d.v,.bool j,o.v,iV T]::row 54 rH b.v V::fam 60 (rP rB (rS (rI .u32))) V S::row 3 I1 d.v k::rs) w):
  Calls prog 124 #[(pB m),iV r,iV G,iV U] w (fun e w=>∃ (W:List Hdr) (X Z:Hdr),e=.returned (.tuple #[])∧St w0 (imm (rI .u32) Z.v out.2.2.2.1::ros) (row 54 rH b.v W::fam 60 (rP rB (rS (rI .u32))) W out.1::row 3 I1 X.v out.2.1::box m 123 [b.v,X.v,.bool out.2.2.1,Z.v,iV out.2.2.2.2]::rs) w):=by
 refine en func124 rfl ntmps124 fun Q a9=>q 8 rfl ?_
 refine jC ((List (List (Bool×LI)))×Int×(List Hdr)) [0,1,2] (fun (t,p,f)=>[]) (fun (t,p,f) w=>St w0 ros (row 54 rH b.v f::fam 60 (rP rB (rS (rI .u32))) f t::row 3 I1 d.v k::box m 123 [b.v,d.v,.bool j,o.v,iV p]::rs) w∧m_fl G r j F k t p=some out) rfl ?_ ?_
 ·rintro ⟨t,p,f⟩ g w ⟨a,c⟩
  refine z 1 1 ?_
  refine bE c fun c0 H c=>?_
  obtain ⟨c1,x⟩:=a.famI R1 H
  refine y (yIa SLH_28 e0 e0 a rO0 x) (y (yF1 O_54 e0 a rO0 x rfl) (bE c fun h a0 c=>q 1 rfl (y (yIa SL_54 e0 e0 a (rdF R1 x H) a0) ?_)))
  obtain ⟨c2,c3,cc29,a⟩:=a.ld (rdF R1 x H) a0
  replace a:=a.eltP
  obtain ⟨c4,c5,rfl,a⟩:=a
  replace a:=a.eltB
  obtain ⟨rfl,a⟩:=a
  replace a:=a.eltS
  obtain ⟨i,rfl,a⟩:=a
  refine y (yCn (cs:=[.bool h.1,i.v]) ST_60 rfl e0 cc29) ?_
  refine z 3 0 ?_;intro I w a w a
  refine y (yLenF SLH_28 e0 a rO1 R2) (bE c fun a1 b0 c=>q 4 rfl ?_)
  refine lp b0 [0,1,2,8,61,62] (fun (J,A)=>[(63,iV A)]) (fun (J,A)=>St w0 (imm (rI .u32) i.v h.2::ros) (row 54 rH b.v f::fam 60 (rP rB (rS (rI .u32))) f J::row 3 I1 d.v k::box m 123 [b.v,d.v,.bool j,o.v,iV p]::box I 60 [.bool h.1,i.v]::rs)) (fun | a1=>(.exit 0,[],St w0 (imm (rI .u32) i.v h.2::ros) (row 54 rH b.v f::fam 60 (rP rB (rS (rI .u32))) f a1::row 3 I1 d.v k::box m 123 [b.v,d.v,.bool j,o.v,iV p]::box I 60 [.bool h.1,i.v]::rs))) rfl (a.k1u) rfl ?_ ?_
  ·clear a
   intro g w a
   refine bE c fun c6 c7 c=>q 2 rfl (dS [7,8,12,15] 4 folM ?_)
   replace a:=a.drew
   refine D1 639 0 7 rfl (qR 5 rfl (rQ rfl (lb_ d.v O_23 e0 a R3) (qR 1 rfl (rQ rfl (lbs_ [.bool h.1,i.v] ST_60 e0 a R4) (Rn QSn (LH wn (rLt (n:=1) (l:=[r]) a SL_23 [iV r] (bp1 e0) rfl rfl (mks1 (cs:=[iV r]) rfl mkI mks0)) fun c8 w a=>dU ?_))))))
   refine z 4 0 ?_;intro c9 w a w a w a
   cases c
   exact a9 _ _ _ (fin0n results124 ⟨_,_,_,rfl,(a.k36)⟩)
  rintro ⟨J,A⟩ g w b2 a c
  refine q 6 rfl (cI c (fun b3 c=>?_) fun b3 c=>?_)
  ·refine q 7 rfl (bE c fun d0 B c=>?_)
   obtain ⟨d1,s⟩:=a.famI R1 B
   refine y (yIa SLH_28 e0 e0 a rO0 s) (y (yF1 O_54 e0 a rO0 s rfl) (q 11 rfl ?_))
   refine jC (List (List (Bool×LI))) [0,1,2,8,61,62,63] (fun C=>[]) (fun C w=>St w0 (imm (rI .u32) i.v h.2::ros) (row 54 rH b.v f::fam 60 (rP rB (rS (rI .u32))) f C::row 3 I1 d.v k::box m 123 [b.v,d.v,.bool j,o.v,iV p]::box I 60 [.bool h.1,i.v]::rs) w∧m_fj A C=some b2) rfl ?_ ?_
   ·rintro C g w ⟨a,c⟩
    refine q 6 rfl ?_
    cases c
    exact lo a
   refine cIn c (fun b4 c=>?_) fun b4 c=>?_
   ·exact q 1 rfl (jx _ ⟨a,c⟩)
   ·refine bE c fun d2 K c=>bE c fun b5 a2 c=>bE c fun u110 gu110 c=>bE c fun d3 b6 c=>bE c fun d4 b7 c=>dS [17] 1 folM ?_
    replace a:=a.drew
    refine D1 131071 0 17 rfl (qR 4 rfl (rQ rfl (lb_ b.v O_28 e0 a R3) (qR 1 rfl ?_)))
    obtain ⟨d5,D⟩:=a.famI R1 K
    refine rQ rfl (yIa SLH_28 e0 e0 a rO0 D) (rQ rfl (yF1 O_54 e0 a rO0 D rfl) (qR 2 rfl (rQ rfl (yIa SL_54 e0 e0 a (rdF R1 s B) a2) ?_)))
    obtain ⟨d6,d7,cc113,a⟩:=a.ld (rdF R1 s B) a2
    replace a:=a.eltP
    obtain ⟨d8,d9,rfl,a⟩:=a
    replace a:=a.eltB
    obtain ⟨rfl,a⟩:=a
    replace a:=a.eltS
    obtain ⟨b8,rfl,a⟩:=a
    refine rQ rfl (yCn (cs:=[.bool b5.1,b8.v]) ST_60 rfl e0 cc113) (rQ rfl (lbs_ [.bool h.1,i.v] ST_60 e0 a R4) (qR 3 rfl (rQ rfl (lbs_ [.bool j,o.v] ST_60 e0 a R3) (Rn QSn ?_))))
    replace a:=(a.k10).foc2 gu110 s B D K
    refine kZ (w_c9 b6 F0 F1 (F_2 a8) a) fun w a=>?_
    replace a:=a.unfoc2 gu110 s D K b7
    refine dU ?_
    refine z 1 0 ?_
    exact jx _ ⟨((a.k37).facts (allC F1 (allT (allT allI)))),c⟩
  ·refine q 2 rfl ?_
   cases c
   exact xo a
 refine cI c (fun b9 c=>?_) fun b9 c=>?_
 ·refine q 1 rfl (bE c fun e1 a3 c=>bE c fun e2 a4 c=>bE c fun e3 L c=>bE c fun e4 a5 c=>dS [25,27] 2 folM ?_)
  replace a:=a.drew
  refine D0 33554431 0 25 rfl (qR 3 rfl (rQ rfl (lb_ b.v O_28 e0 a R0) (qR 4 rfl (rQ rfl (lb_ b.v O_28 e0 a R0) (qR 4 rfl (rQ rfl (lb_ b.v O_28 e0 a R0) (qR 1 rfl ?_)))))))
  obtain ⟨a6,N⟩:=a.famI R2 a3
  refine rQ rfl (yIa SLH_28 e0 e0 a rO1 N) (rQ rfl (yF1 O_54 e0 a rO1 N rfl) (qR 3 rfl (rQ rfl (lb_ b.v O_28 e0 a R0) (qR 1 rfl ?_))))
  obtain ⟨a7,O⟩:=a.famI R2 a4
  refine rQ rfl (yIa SLH_28 e0 e0 a rO1 O) (rQ rfl (yF1 O_54 e0 a rO1 O rfl) ?_)
  obtain ⟨e5,E⟩:=setI_len (u:=a6) L (a.famL (mtR (mtR mhR)))
  refine rQ rfl (yIs SLH_28 e0 e0 a rO1 E) (Rn QSn ?_)
  replace a:=a.k10
  refine LT wn (r_sti (cs:=[a6.v]) a O_54 rfl e0 e0 rfl (mkF rfl) E) fun w a=>D0 67108864 512 27 rfl ?_
  obtain ⟨e6,R⟩:=setI_len (u:=a7) a5 (swap_len L E (a.famL (mtR (mtR mhR))))
  refine rQ rfl (yIs SLH_28 e0 e0 a rO0 R) (Rn (qS rfl QSn) (LT wn (r_sti (cs:=[a7.v]) a O_54 rfl e0 e0 rfl (mkF rfl) R) fun w a=>?_))
  replace a:=(a.k16).fswap N a3 O a4 E L R a5
  refine z 3 1 ?_;intro w a
  exact jx (_,_,_) ⟨(a.k38),c⟩
 ·exact q 1 rfl (jx (_,_,_) ⟨(a.k39),c⟩)
instance:CL prog 124 (type_of% @w_da):=⟨@w_da⟩
theorem w_db {N:List (List (Bool×LI))} {O:Int} {b:Hdr} {R:List Hdr} {out:(List (List (Bool×LI)))×LI×Bool×LI×Int} (c:m_fq N O=some out) (a:St w0 ros (row 54 rH b.v R::fam 60 (rP rB (rS (rI .u32))) R N::rs) w):
  Calls prog 80 #[b.v,iV O] w (fun e w=>∃ (S:List Hdr) (T U:Hdr),e=.returned (.agg #[b.v,T.v,.bool out.2.2.1,U.v,iV out.2.2.2.2])∧St w0 (imm (rI .u32) U.v out.2.2.2.1::ros) (row 54 rH b.v S::fam 60 (rP rB (rS (rI .u32))) S out.1::row 3 I1 T.v out.2.1::rs) w):=by
 refine en func80 rfl ntmps80 fun Q a7=>?_
 refine z 5 13 ?_;intro i w a b9 c0 c c1 w a j w a w a
 obtain ⟨⟨V,W,X,Z,a0⟩,a8,c⟩:=bs c
 replace a:=a.rowNh 3 I1
 refine lpN ((List Hdr)×Hdr×Hdr) ((List Hdr)×Hdr×Hdr) a8 [0,4,5,12] (fun (k,l,m,n,o,p) (d,f,h)=>[(13,iV p)]) (fun (k,l,m,n,o,p) (d,f,h)=>St w0 (imm (rI .u32) h.v n::ros) (row 54 rH b.v d::fam 60 (rP rB (rS (rI .u32))) d k::box i 123 [hnil.v,hnil.v,.bool false,hnil.v,iV 0]::row 3 I1 f.v l::box j 123 [b.v,f.v,.bool m,h.v,iV o]::rs)) (fun | (V,W,X,Z,a0),(E,F,G)=>(.exit 0,[],St w0 (imm (rI .u32) G.v Z::ros) (row 54 rH b.v E::fam 60 (rP rB (rS (rI .u32))) E V::box i 123 [hnil.v,hnil.v,.bool false,hnil.v,iV 0]::row 3 I1 F.v W::box j 123 [b.v,F.v,.bool X,G.v,iV a0]::rs))) rfl (_,_,_) (a.k3a) rfl ?_ ?_
 ·clear a
  rintro ⟨E,F,G⟩ g w a
  refine z 2 4 ?_;intro w a
  cases c
  exact a7 _ _ _ (fin1r results80 (rcs2 rfl rfl a R0 ST_123 rfl) ⟨_,_,_,rfl,(a.k2s)⟩)
 rintro ⟨k,l,m,n,o,p⟩ ⟨d,f,h⟩ g w a9 a c
 refine q 6 rfl (cI c (fun b0 c=>?_) fun b0 c=>?_)
 ·refine q 3 rfl ?_
  refine jC ((List (List (Bool×LI)))×LI×Bool×LI×Int×(List Hdr)×Hdr×Hdr) [0,4,5,12,13] (fun (r,s,t,u,x,A,B,C)=>[]) (fun (r,s,t,u,x,A,B,C) w=>St w0 (imm (rI .u32) C.v u::ros) (row 54 rH b.v A::fam 60 (rP rB (rS (rI .u32))) A r::box i 123 [hnil.v,hnil.v,.bool false,hnil.v,iV 0]::row 3 I1 B.v s::box j 123 [b.v,B.v,.bool t,C.v,iV x]::rs) w∧m_fn p r s t u x=some a9) rfl ?_ ?_
  ·rintro ⟨r,s,t,u,x,A,B,C⟩ g w ⟨a,c⟩
   refine q 5 rfl ?_
   cases c
   exact ln (_,_,_) a
  refine z 2 10 ?_
  refine bE c fun b1 b2 c=>?_
  refine lpN Unit ((List Hdr)×Hdr×Hdr) b2 [0,4,5,6,7,12,13] (fun H _=>[(8,iV H)]) (fun H _=>St w0 (imm (rI .u32) h.v n::ros) (row 54 rH b.v d::fam 60 (rP rB (rS (rI .u32))) d k::box i 123 [hnil.v,hnil.v,.bool false,hnil.v,iV 0]::row 3 I1 f.v l::box j 123 [b.v,f.v,.bool m,h.v,iV o]::rs)) (fun | .inl (a1,a2,a3,a4,a5),(I,J,K)=>(.exit 1,[],St w0 (imm (rI .u32) K.v a4::ros) (row 54 rH b.v I::fam 60 (rP rB (rS (rI .u32))) I a1::box i 123 [hnil.v,hnil.v,.bool false,hnil.v,iV 0]::row 3 I1 J.v a2::box j 123 [b.v,J.v,.bool a3,K.v,iV a5]::rs)) | .inr (),(_,_,_)=>(.exit 2,[],St w0 (imm (rI .u32) h.v n::ros) (row 54 rH b.v d::fam 60 (rP rB (rS (rI .u32))) d k::box i 123 [hnil.v,hnil.v,.bool false,hnil.v,iV 0]::row 3 I1 f.v l::box j 123 [b.v,f.v,.bool m,h.v,iV o]::rs))) rfl () a rfl ?_ ?_
  ·clear a
   rintro ⟨I,J,K⟩ g w a
   rcases b1 with ⟨a1,a2,a3,a4,a5⟩ | ⟨⟩
   ·exact q 2 rfl (jx (_,_,_,_,_,_,_,_) ⟨a,c⟩)
   ·exact q 2 rfl (jx (_,_,_,_,_,_,_,_) ⟨a,c⟩)
  rintro H _ g w c2 a c
  refine q 5 rfl (y (yLenF SLH_28 e0 a rO0 R1) (q 3 rfl (cI c (fun b3 c=>?_) fun b3 c=>?_)))
  ·refine q 8 rfl (bE c fun c3 L c=>?_)
   obtain ⟨c4,D⟩:=a.famI R1 L
   refine y (yIa SLH_28 e0 e0 a rO0 D) (y (yF1 O_54 e0 a rO0 D rfl) (bE c fun b4 a6 c=>q 1 rfl (y (yIa SL_54 e0 e0 a (rdF R1 D L) a6) ?_)))
   obtain ⟨c5,c6,cc521,a⟩:=a.ld (rdF R1 D L) a6
   replace a:=a.eltP
   obtain ⟨c7,c8,rfl,a⟩:=a
   replace a:=a.eltB
   obtain ⟨rfl,a⟩:=a
   replace a:=a.eltS
   obtain ⟨b6,rfl,a⟩:=a
   refine y (yCn (cs:=[.bool b4.1,b6.v]) ST_60 rfl e0 cc521) ?_
   refine z 1 3 ?_;intro c9 d0 c w a
   refine cIn c (fun b7 c=>?_) fun b7 c=>?_
   ·refine q 8 rfl ?_
    cases c
    exact ln () (a.facts (allC F1 (allT (allT allI))))
   ·refine z 1 5 ?_;intro d1 d2 c d3 d4 d5 w a
    cases c
    exact lx (_,_,_) ((a.k3c).facts (allC F0 (allT (allT (allT allI)))))
  ·refine q 2 rfl ?_
   cases c
   exact lx ([],hnil,hnil) a
 ·refine q 2 rfl ?_
  cases c
  exact lx (_,_,_) a
instance:CL prog 80 (type_of% @w_db):=⟨@w_db⟩
theorem w_dc {b:List (List (Bool×LI))} {d:Hdr} {out:Int×Int} (c:m_fr b=some out) (f:imm (rS (rP rB (rS (rI .u32)))) d.v b∈ros) (a:St w0 ros rs w):
  Calls prog 37 #[d.v] w (rv w0 ros rs (.tuple #[iV out.1,iV out.2])):=by
 refine en func37 rfl ntmps37 fun Q k=>?_
 refine v 0 ?_
 refine fun _ _ _ w a=>⟨fun _ c=>?_,vt⟩
 refine bE c fun l g c=>?_
 replace a:=a.immNh (rP rB (rS (rI .u32)))
 refine cT_ (w_ct g (mtF f) F0 a) fun h m w a=>?_
 refine z 2 0 ?_;intro n o c w a e p c q i j w a
 exact y (yFv (cs:=[h.v,i.v,.bool e.2.2.1,j.v,iV e.2.2.2.2]) FV_123_1 e0 rfl) vx
instance:CL prog 37 (type_of% @w_dc):=⟨@w_dc⟩
theorem w_dd {f:List (List (Bool×LI))} {h:Int} {i:Hdr} {out:(List Bool)} (c:m_ft f h=some out) (s:imm (rS (rP rB (rS (rI .u32)))) i.v f∈ros) (a:St w0 ros rs w):
  Calls prog 48 #[i.v,iV h] w (ro w0 ros rs 4 rB out):=by
 refine en func48 rfl ntmps48 fun Q m=>bE c fun t n c=>q 8 rfl (yh (rMk a SL_95 e0 n) fun j w a=>bE c fun k o c=>q 16 rfl ?_)
 refine lp o [0,5,12] (fun (d,b,e)=>[(6,iV b),(13,iV e)]) (fun (d,b,e)=>St w0 ros (row 4 rB j.v d::rs)) (fun | k=>(.exit 0,[],St w0 ros (row 4 rB j.v k::rs))) rfl a rfl ?_ ?_
 ·clear a
  intro g w a
  refine q 9 rfl ?_
  cases c
  exact m _ _ _ (fin1r results48 ⟨rfl,rfl⟩ ⟨_,rfl,a⟩)
 rintro ⟨d,b,e⟩ g w u a c
 refine q 6 rfl (cI c (fun p c=>?_) fun p c=>?_)
 ·refine z 2 14 ?_;intro x A c B w a r C c w a
  refine bE c fun D l c=>y (yIs SL_95 e0 e0 a rO0 l) (yt (r_sti (cs:=[.bool (decide (r.1=b))]) a O_4 rfl e0 e0 rfl mkB l) fun w a=>q 12 rfl ?_)
  cases c
  exact lo (a.fc)
 ·refine q 2 rfl ?_
  cases c
  exact xo a
instance:CL prog 48 (type_of% @w_dd):=⟨@w_dd⟩
end Go.Proofs.YtcoaljcfifecgaeGreatDoor
