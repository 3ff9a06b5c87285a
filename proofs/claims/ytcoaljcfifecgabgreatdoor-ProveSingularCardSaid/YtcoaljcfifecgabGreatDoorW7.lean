/- Walks: each function computes its model, printed. -/
import Derived.Test.YtcoaljcfifecgabGreatDoorW6
namespace Go.Proofs.YtcoaljcfifecgabGreatDoor
open Go Sx M Go.Proofs.Tryz
set_option maxRecDepth 100000
set_option maxHeartbeats 40000000
set_option linter.unusedVariables false
attribute [local irreducible] wpList Code.wp Calls DR QR QS LA LS St row box fam imm rowS loop
variable {w0:World} {ros:List Fact} {rs:List Res} {w:World}
theorem w_c0 {j k:LI} {l m:Hdr} {out:LI} (c:m_e2 j k=some out) (B:imm (rI .u32) l.v j∈ros) (C:imm (rI .u32) m.v k∈ros) (a:St w0 ros rs w):
  Calls prog 146 #[l.v,m.v] w (fun e w=>∃ (n:Hdr),e=.returned (n.v)∧St w0 (imm (rI .u32) n.v out::ros) rs w):=by
 refine en func146 rfl ntmps146 fun Q r=>?_
 refine z 1 0 ?_
 refine bE c fun D s c=>yh (rMk a SL_47 e0 s) fun h w a=>?_
 refine z 1 4 ?_
 refine bE c fun o t c=>?_
 refine lp t [1,5,13,14] (fun (b,i,f)=>[(6,.int .u64 i),(15,iV f)]) (fun (b,i,f)=>St w0 ros (row 94 (rI .u32) h.v b::rs)) (fun | o=>(.exit 0,[],St w0 ros (row 94 (rI .u32) h.v o::rs))) rfl a rfl ?_ ?_
 ·clear a
  intro g w a
  refine z 1 4 ?_;intro E F c G w a
  cases c
  exact r _ _ _ (fin1r results146 ⟨rfl,rfl⟩ ⟨_,rfl,(a.facts (allC F0 (allT (allT allI))))⟩)
 rintro ⟨b,i,f⟩ g w u a c
 refine q 6 rfl (cI c (fun x c=>?_) fun x c=>?_)
 ·refine z 3 3 ?_;intro H I c
  refine jC Int [1,5,7,13,14,15] (fun d=>[(9,.int .u64 d)]) (fun d w=>St w0 ros (row 94 (rI .u32) h.v b::rs) w∧m_e0 b f d=some u) rfl ?_ ?_
  ·rintro d g w ⟨a,c⟩
   refine bE c fun J p c=>q 8 rfl (y (yIs SL_47 e0 e0 a rO0 p) (yt (r_sti (cs:=[.int .u32 (wc .u32 (wand .u64 d 4294967295))]) a O_94 rfl e0 e0 rfl mkI p) fun w a=>q 14 rfl ?_))
   cases c
   exact lo a
  refine cI c (fun A c=>?_) fun A c=>?_
  ·refine z 2 4 ?_;intro K L c
   exact jx _ ⟨a,c⟩
  ·exact q 1 rfl (jx _ ⟨a,c⟩)
 ·refine q 2 rfl ?_
  cases c
  exact xo a
instance:CL prog 146 (type_of% @w_c0):=⟨@w_c0⟩
theorem w_c1 {d:Bool} {f:LI} {g:Bool} {h:LI} {i j:Hdr} {out:Bool×LI} (c:m_e3 d f g h=some out) (n:imm (rI .u32) i.v f∈ros) (o:imm (rI .u32) j.v h∈ros) (a:St w0 ros rs w):
  Calls prog 111 #[.agg #[.bool d,i.v],.agg #[.bool g,j.v]] w (fun e w=>∃ (k:Hdr),e=.returned (.agg #[.bool out.1,k.v])∧St w0 (imm (rI .u32) k.v out.2::ros) rs w):=by
 refine en func111 rfl ntmps111 fun Q b=>?_
 refine z 3 3 ?_;intro p w a r w a s w a
 refine bE c fun t u c=>bE c fun x A c=>dS [2,5,6,7] 4 folM ?_
 replace a:=a.drew
 refine z 8 0 ?_;intro B w a C w a
 refine y (yeqb (by kernel_rfl) e0 e0) (q 3 rfl ?_)
 refine cJ c (fun l c=>?_) fun l c=>?_
 ·refine q 1 rfl (bE c fun D E c=>bE c fun F G c=>dS [4,5,6] 3 folM ?_)
  replace a:=a.drew
  refine z 4 4 ?_;intro H w a I w a w a
  cases c
  exact b _ _ _ (fin1r results111 (rcs2 rfl rfl a R0 ST_49 rfl) ⟨_,rfl,((a.k1b).facts (allC F0 (allT (allT (allT (allT allI))))))⟩)
 ·refine z 1 4 ?_;intro J K c w a
  refine cI c (fun m c=>?_) fun m c=>?_
  ·refine q 1 rfl (bE c fun L N c=>bE c fun O R c=>dS [4,5,6] 3 folM ?_)
   replace a:=a.drew
   refine z 4 4 ?_;intro S w a T w a w a
   cases c
   exact b _ _ _ (fin1r results111 (rcs2 rfl rfl a R0 ST_49 rfl) ⟨_,rfl,((a.k1b).facts (allC F0 (allT (allT (allT (allT allI))))))⟩)
  ·refine q 4 rfl (bE c fun U V c=>bE c fun W X c=>dS [4,5,6] 3 folM ?_)
   replace a:=a.drew
   refine z 4 2 ?_;intro Z w a a0 w a w a
   cases c
   exact b _ _ _ (fin1r results111 (rcs2 rfl rfl a R0 ST_49 rfl) ⟨_,rfl,((a.k1b).facts (allC F0 (allT (allT (allT (allT allI))))))⟩)
instance:CL prog 111 (type_of% @w_c1):=⟨@w_c1⟩
theorem w_c2 {b:Bool} {d:LI} {f:Bool} {g:LI} {h i:Hdr} {out:Bool×LI} (c:m_e4 b d f g=some out) (l:imm (rI .u32) h.v d∈ros) (m:imm (rI .u32) i.v g∈ros) (a:St w0 ros rs w):
  Calls prog 176 #[.agg #[.bool b,h.v],.agg #[.bool f,i.v]] w (fun e w=>∃ (j:Hdr),e=.returned (.agg #[.bool out.1,j.v])∧St w0 (imm (rI .u32) j.v out.2::ros) rs w):=by
 refine en func176 rfl ntmps176 fun Q k=>?_
 refine z 9 3 ?_;intro n w a o w a p w a w a q r c s w a w a
 cases c
 exact k _ _ _ (fin1r results176 (rcs2 rfl rfl a R0 ST_49 rfl) ⟨_,rfl,(a.k1b)⟩)
instance:CL prog 176 (type_of% @w_c2):=⟨@w_c2⟩
theorem w_c3 {h:LI} {i:Int} {j:Hdr} {out:LI×Int} (c:m_e6 h i=some out) (x:imm (rI .u32) j.v h∈ros) (a:St w0 ros rs w):
  Calls prog 157 #[j.v,.int .u32 i] w (fun e w=>∃ (k:Hdr),e=.returned (.tuple #[k.v,.int .u32 out.2])∧St w0 (imm (rI .u32) k.v out.1::ros) rs w):=by
 refine en func157 rfl ntmps157 fun Q p=>?_
 refine z 1 0 ?_
 refine bE c fun A r c=>yh (rMk a SL_47 e0 r) fun l w a=>?_
 refine z 1 5 ?_
 obtain ⟨⟨m,n⟩,s,c⟩:=bs c
 refine lp s [0,1,6] (fun (b,d,f)=>[(7,.int .u64 d),(8,iV f)]) (fun (b,d,f)=>St w0 ros (row 94 (rI .u32) l.v b::rs)) (fun | (m,n)=>(.exit 0,[(7,.int .u64 n)],St w0 ros (row 94 (rI .u32) l.v m::rs))) rfl a rfl ?_ ?_
 ·clear a
  intro g w a
  refine z 1 7 ?_;intro B C c D w a
  cases c
  exact p _ _ _ (fin2r results157 ⟨rfl,rfl⟩ ⟨rfl,rfl⟩ ⟨_,rfl,(a.facts (allC F0 (allT (allT allI))))⟩)
 rintro ⟨b,d,f⟩ g w E a c
 refine q 7 rfl (cI c (fun t c=>?_) fun t c=>?_)
 ·refine z 3 1 ?_;intro F G c u H c
  refine bE c fun I o c=>y (yIs SL_47 e0 e0 a rO0 o) (yt (r_sti (cs:=[.int .u32 (wc .u32 u)]) a O_94 rfl e0 e0 rfl mkI o) fun w a=>?_)
  refine z 1 9 ?_;intro J K c
  cases c
  exact lo a
 ·refine q 2 rfl ?_
  cases c
  exact xo a
instance:CL prog 157 (type_of% @w_c3):=⟨@w_c3⟩
theorem w_c4 {b out:Int} (c:m_e7 b=some out) (a:St w0 ros rs w):
  Calls prog 158 #[.int .u32 b] w (fun e w=>e=.returned (iV out)∧St w0 ros rs w):=by
 refine en func158 rfl ntmps158 fun Q d=>?_
 refine z 1 5 ?_;intro f g c w a
 cases c
 exact za d results158 ⟨rfl,a⟩
instance:CL prog 158 (type_of% @w_c4):=⟨@w_c4⟩
theorem w_c5 {h:LI} {D E:Int} {F:LI} {b G:Hdr} {out:LI×Int} (c:m_fb h D E F=some out) (f:imm (rI .u32) G.v F∈ros) (a:St w0 ros (row 94 (rI .u32) b.v h::rs) w):
  Calls prog 159 #[(subH b 1 D E).v,G.v] w (fun e w=>e=.returned (.int .u32 out.2)∧St w0 ros (row 94 (rI .u32) b.v out.1::rs) w):=by
 refine en func159 rfl ntmps159 fun Q H=>?_
 refine z 1 4 ?_
 refine bE c fun a2 I c=>bE c fun a3 J c=>dS [13] 1 folM ?_
 replace a:=a.drew
 refine D1 8191 0 13 rfl (qR 2 rfl (rQ rfl (yIaW SL_47 e0 e0 a rO0 I) (rQ rfl (yI O_94 e0 a rO0 (getW_g I)) (qR 5 rfl (rQ rfl (yIaW SL_47 e0 e0 a rO0 J) (rQ rfl (yI O_94 e0 a rO0 (getW_g J)) (qR 2 rfl (Rn QSn (Ly wn (a_ (.int .u64 (wor .u64 (wslc .u64 (wc .u64 a2) 32) (wc .u64 a3))) e0) (dU (Dw 0 0 (Rn QSn (bE c fun c3 K c=>?_)))))))))))))
 refine bE c fun a4 a5 c=>bE c fun c4 i c=>bE c fun a6 L c=>qx 2 rfl (dS [16,17] 2 folM ?_)
 replace a:=a.drew
 refine D1 65535 0 16 rfl (qR 4 rfl (rQ rfl (yIa SL_47 e0 e0 a (rdI f) K) (rQ rfl (yI O_94 e0 a (rdI f) K) (qR 1 rfl (rQ rfl (yquo e0 e0 a5) (qR 4 rfl (rQ rfl (yIa SL_47 e0 e0 a (rdI f) i) (rQ rfl (yI O_94 e0 a (rdI f) i) (qR 1 rfl (rQ rfl (yrem e0 e0 L) (Rn QSn (Ly wn (a_ (.int .u64 a4) e0) (dU ?_)))))))))))))
 refine D1 0 65280 17 rfl (Rn (qS rfl (qS rfl (qS rfl (qS rfl (sY rfl (yIa SL_47 e0 e0 a (rdI f) i) (sY rfl (yI O_94 e0 a (rdI f) i) (qS rfl (sY rfl (yrem e0 e0 L) QSn)))))))) (Ly wn (a_ (.int .u64 a6) e0) (dU (Dw 0 0 (Rn QSn (bE c fun m a7 c=>qx 3 rfl ?_))))))
 refine lp a7 [0,1,5] (fun (n,o)=>[(7,.int .u64 n),(8,.int .u64 o)]) (fun (n,o)=>St w0 ros (row 94 (rI .u32) b.v h::rs)) (fun | m=>(.exit 0,[(7,.int .u64 m)],St w0 ros (row 94 (rI .u32) b.v h::rs))) rfl a rfl ?_ ?_
 ·clear a
  intro g w a
  refine z 1 4 ?_
  obtain ⟨⟨N,p,r⟩,a8,c⟩:=bs c
  refine lp a8 [0,1,5,7,84,85] (fun (s,j,k,t)=>[(9,.int .u64 j),(10,.int .u64 k),(86,iV t)]) (fun (s,j,k,t)=>St w0 ros (row 94 (rI .u32) b.v s::rs)) (fun | (N,p,r)=>(.exit 2,[(9,.int .u64 p),(10,.int .u64 r)],St w0 ros (row 94 (rI .u32) b.v N::rs))) rfl a rfl ?_ ?_
  ·clear a
   intro g w a
   refine bE c fun a9 O c=>q 6 rfl (y (yIaW SL_47 e0 e0 a rO0 O) (y (yI O_94 e0 a rO0 (getW_g O)) (bE c fun c5 R c=>q 15 rfl (y (yIsW SL_47 e0 e0 a rO0 R) (yt (r_sti (cs:=[.int .u32 (wc .u32 (wand .u64 (ws .u64 (ws .u64 (wc .u64 a9) p) r) 4294967295))]) a O_94 rfl e0 e0 rfl mkI (setW_g R)) fun w a=>q 11 rfl (cI c (fun b0 c=>?_) fun b0 c=>?_))))))
   ·refine q 9 rfl ?_
    cases c
    exact za H results159 ⟨rfl,a⟩
   ·refine z 1 4 ?_
    obtain ⟨⟨S,u⟩,b1,c⟩:=bs c
    refine lp b1 [0,5,7,140,141] (fun (x,l,A)=>[(9,.int .u64 l),(142,iV A)]) (fun (x,l,A)=>St w0 ros (row 94 (rI .u32) b.v x::rs)) (fun | (S,u)=>(.exit 4,[(9,.int .u64 u)],St w0 ros (row 94 (rI .u32) b.v S::rs))) rfl a rfl ?_ ?_
    ·clear a
     intro g w a
     refine bE c fun b2 T c=>q 6 rfl (y (yIaW SL_47 e0 e0 a rO0 T) (y (yI O_94 e0 a rO0 (getW_g T)) (bE c fun c6 U c=>q 3 rfl (y (yIsW SL_47 e0 e0 a rO0 U) (yt (r_sti (cs:=[.int .u32 (wa .u32 b2 (wc .u32 u))]) a O_94 rfl e0 e0 rfl mkI (setW_g U)) fun w a=>q 11 rfl ?_)))))
     cases c
     exact za H results159 ⟨rfl,a⟩
    rintro ⟨x,l,A⟩ g w c7 a c
    refine q 6 rfl (cI c (fun b3 c=>?_) fun b3 c=>?_)
    ·refine z 2 8 ?_;intro b4 c8 c
     refine bE c fun b5 V c=>y (yIaW SL_47 e0 e0 a rO0 V) (y (yI O_94 e0 a rO0 (getW_g V)) (bE c fun c9 W c=>q 16 rfl (y (yIsW SL_47 e0 e0 a rO0 W) (yt (r_sti (cs:=[.int .u32 (wc .u32 (wand .u64 (wa .u64 (wa .u64 (wc .u64 b5) (wc .u64 b4)) l) 4294967295))]) a O_94 rfl e0 e0 rfl mkI (setW_g W)) fun w a=>q 13 rfl ?_))))
     cases c
     exact lo a
    ·refine q 2 rfl ?_
     cases c
     exact xo a
  rintro ⟨s,j,k,t⟩ g w d0 a c
  refine q 6 rfl (cI c (fun b6 c=>?_) fun b6 c=>?_)
  ·refine z 2 26 ?_;intro b7 d1 c
   refine bE c fun b8 X c=>y (yIaW SL_47 e0 e0 a rO0 X) (y (yI O_94 e0 a rO0 (getW_g X)) (bE c fun d2 Z c=>q 16 rfl (y (yIsW SL_47 e0 e0 a rO0 Z) (yt (r_sti (cs:=[.int .u32 (wc .u32 (wand .u64 (ws .u64 (ws .u64 (wc .u64 b8) (wand .u64 (wa .u64 (wm .u64 m (wc .u64 b7)) j) 4294967295)) k) 4294967295))]) a O_94 rfl e0 e0 rfl mkI (setW_g Z)) fun w a=>q 14 rfl ?_))))
   cases c
   exact lo a
  ·refine q 2 rfl ?_
   cases c
   exact xo a
 rintro ⟨n,o⟩ g w d3 a c
 refine bE c fun B d c=>q 2 rfl ?_
 refine jN Unit [0,1,5,7,8] (fun _=>[(71,.bool B)]) (fun _=>St w0 ros (row 94 (rI .u32) b.v h::rs)) rfl ?_ ?_
 ·rcases iteS d with ⟨C,d⟩ | ⟨C,d⟩
  ·have b9:=someI d
   refine dS [] 0 folM ?_
   replace a:=a.drew
   exact Dw 4194303 0 (qR 3 rfl (rK 52 rfl (dT C) (qR 18 rfl (rQ rfl (pt_ (.bool B) e0 rfl (eqv b9 rfl)) (Rn QSn (jr () a))))))
  ·refine bE d fun d4 a0 d=>bE d fun d5 a1 d=>?_
   have c0:=someI d
   refine dS [] 0 folM ?_
   replace a:=a.drew
   exact Dw 4194303 0 (qR 3 rfl (rK 52 rfl (dF C) (qR 4 rfl (rQ rfl (yIa SL_47 e0 e0 a (rdI f) a0) (rQ rfl (yI O_94 e0 a (rdI f) a0) (qR 7 rfl (rQ rfl (yIaW SL_47 e0 e0 a rO0 a1) (rQ rfl (yI O_94 e0 a rO0 (getW_g a1)) (qR 3 rfl (rQ rfl (pf_ (.bool B) e0 rfl (eqv c0 e0)) (Rn QSn (jr () a))))))))))))
 rintro _ g w a
 refine q 1 rfl ?_
 refine cJ c (fun c1 c=>?_) fun c1 c=>?_
 ·refine z 2 11 ?_;intro d6 d7 c
  refine cI c (fun c2 c=>?_) fun c2 c=>?_
  ·refine q 2 rfl ?_
   cases c
   exact xo a
  ·refine q 2 rfl ?_
   cases c
   exact lo a
 ·refine q 2 rfl ?_
  cases c
  exact xo a
instance:CL prog 159 (type_of% @w_c5):=⟨@w_c5⟩
theorem w_c6 {j k:LI} {m o:Hdr} {out:LI×LI} (c:m_fd j k=some out) (O:imm (rI .u32) m.v j∈ros) (R:imm (rI .u32) o.v k∈ros) (a:St w0 ros rs w):
  Calls prog 133 #[m.v,o.v] w (fun e w=>∃ (p r:Hdr),e=.returned (.tuple #[p.v,r.v])∧St w0 (imm (rI .u32) p.v out.1::imm (rI .u32) r.v out.2::ros) rs w):=by
 refine en func133 rfl ntmps133 fun Q b=>?_
 refine z 1 3 ?_;intro S T c w a
 refine cI c (fun C c=>?_) fun C c=>?_
 ·refine z 1 6 ?_;intro U V c W w a
  cases c
  replace a:=(a.immNh (rI .u32)).fz
  exact b _ _ _ (fin2r results133 ⟨rfl,rfl⟩ ⟨rfl,rfl⟩ ⟨_,_,rfl,(a.facts (allC F1 (allC F0 (allT (allT allI)))))⟩)
 ·refine z 1 3 ?_
  refine cI c (fun D c=>?_) fun D c=>?_
  ·refine z 3 11 ?_;intro X Z c d a0 c a1 w a
   refine yh (rLt (n:=1) (l:=[d.2]) a SL_47 [.int .u32 d.2] (bp1 e0) rfl rfl (mks1 (cs:=[.int .u32 d.2]) rfl mkI mks0)) fun a2 w a=>?_
   refine z 1 6 ?_;intro a3 a4 c a5 w a
   cases c
   exact b _ _ _ (fin2r results133 ⟨rfl,rfl⟩ ⟨rfl,rfl⟩ ⟨_,_,rfl,(a.facts (allC F2 (allC F0 (allT (allT (allT allI))))))⟩)
  ·refine z 6 1 ?_;intro a6 a7 c a8 a9 c w a E b0 c F w a
   refine bE c fun b1 G c=>yh (rMk a SL_47 e0 G) fun s w a=>?_
   refine z 1 0 ?_;intro b2 b3 c b4 w a
   refine bE c fun b5 H c=>YV wn rfl (rCp a SL_47 rfl e0 (.inr ⟨rfl,rfl,rfl⟩) e0 (rdI F0) H) fun w a=>nf ?_
   refine z 2 2 ?_
   refine bE c fun b6 I c=>yh (rMk a SL_47 e0 I) fun t w a=>?_
   refine z 1 5 ?_
   obtain ⟨⟨u,x⟩,J,c⟩:=bs c
   refine lp J [4,8,9,10,11] (fun (f,h,i)=>[(12,iV i)]) (fun (f,h,i)=>St w0 (imm (rI .u32) F.v E::ros) (row 94 (rI .u32) t.v f::row 94 (rI .u32) s.v h::rs)) (fun | (u,x)=>(.exit 0,[],St w0 ros (row 94 (rI .u32) t.v u::row 94 (rI .u32) s.v x::rs))) rfl (a.facts (allC F1 (allT (allT allI)))) rfl ?_ ?_
   ·clear a
    intro g w a
    refine bE c fun b7 A c=>q 6 rfl ?_
    replace a:=(a.k16).fz
    refine y (ySl (k1:=.i64) SL_47 e0 a (rdI F0) (.inr ⟨rfl,rfl⟩) (.inl (congrArg some e0)) A) ?_
    replace a:=a.sub F0 A
    refine z 3 6 ?_;intro b8 b9 c c0 w a c1 c2 c c3 w a c4 c5 c c7 w a
    cases c
    exact b _ _ _ (fin2r results133 ⟨rfl,rfl⟩ ⟨rfl,rfl⟩ ⟨_,_,rfl,(a.facts (allC F0 (allC F2 (allT (allT (allT (allT (allT (allT allI)))))))))⟩)
   rintro ⟨f,h,i⟩ g w c8 a c
   refine q 7 rfl (cI c (fun K c=>?_) fun K c=>?_)
   ·refine q 13 rfl (bE c fun d0 L c=>y (ySl SL_47 e0 a rO1 (.inl (congrArg some e0)) (.inl (congrArg some e0)) L) ?_)
    refine z 1 0 ?_;intro N d1 c w a
    refine bE c fun d2 B c=>y (yIs SL_47 e0 e0 a rO1 B) ?_
    replace a:=a.k16
    refine yt (r_sti (cs:=[.int .u32 N.2]) a O_94 rfl e0 e0 rfl mkI B) fun w a=>q 8 rfl ?_
    cases c
    exact lo a
   ·refine q 2 rfl ?_
    cases c
    exact xo (a.fc)
instance:CL prog 133 (type_of% @w_c6):=⟨@w_c6⟩
theorem w_c7 {b:Bool} {r:LI} {d:Bool} {s:LI} {f h:Hdr} {out:Bool×LI×Bool×LI×Int} (c:m_ff b r d s=some out) (L:imm (rI .u32) f.v r∈ros) (N:imm (rI .u32) h.v s∈ros) (a:St w0 ros rs w):
  Calls prog 134 #[.agg #[.bool b,f.v],.agg #[.bool d,h.v]] w (fun e w=>∃ (t u:Hdr),e=.returned (.tuple #[.agg #[.bool out.1,t.v],.agg #[.bool out.2.2.1,u.v],iV out.2.2.2.2])∧St w0 (imm (rI .u32) t.v out.2.1::imm (rI .u32) u.v out.2.2.2.1::ros) rs w):=by
 refine en func134 rfl ntmps134 fun Q x=>?_
 refine z 7 3 ?_;intro A w a B w a C w a D w a F O c G w a
 refine cI c (fun H c=>?_) fun H c=>?_
 ·refine z 4 5 ?_;intro w a w a
  cases c
  replace a:=a.immNh (rI .u32)
  exact x _ _ _ (fin3r results134 (rcs2 rfl rfl a R1 ST_49 rfl) (rcs2 rfl rfl a R0 ST_49 rfl) ⟨rfl,rfl⟩ ⟨_,_,rfl,((a.k1a).facts (allC F0 (allC F0 (allT (allT allI)))))⟩)
 ·refine z 4 1 ?_;intro R S c T w a o U c I J w a
  refine jW 4 [2,3,4,5,7,8,9] [(32,.bool (b && (decide ((0:Int) < (o.2.length:Int)))))] (St w0 (imm (rI .u32) G.v F::imm (rI .u32) I.v o.1::imm (rI .u32) J.v o.2::ros) (box A 49 [.bool b,f.v]::box B 49 [.bool d,h.v]::box C 49 [.bool false,hnil.v]::box D 49 [.bool false,hnil.v]::rs)) rfl (fun E=>?_) ?_
  ·refine gB 28 rfl (fun p=>?_) fun p=>?_
   ·refine z 1 2 ?_
    exact E _ _ ((a.k22).facts (allC F3 (allC F0 (allC F1 (allT (allT (allT (allT allI)))))))) (hasC (congrArg Value.bool (andT p)) rfl)
   ·exact q 4 rfl (E _ _ ((a.k22).facts (allC F3 (allC F0 (allC F1 (allT (allT (allT (allT allI)))))))) (hasC (congrArg Value.bool (andF p)) rfl))
  intro g w a
  refine q 2 rfl ?_
  refine jC (LI×LI×Hdr×Hdr) [2,3,4,5] (fun (i,j,k,m)=>[(8,k.v),(9,m.v)]) (fun (i,j,k,m) w=>St w0 (imm (rI .u32) k.v i::imm (rI .u32) m.v j::ros) (box A 49 [.bool b,f.v]::box B 49 [.bool d,h.v]::box C 49 [.bool false,hnil.v]::box D 49 [.bool false,hnil.v]::rs) w∧m_fe b d i j=some out) rfl ?_ ?_
  ·rintro ⟨i,j,k,m⟩ g w ⟨a,c⟩
   refine z 2 0 ?_
   refine y (yneb (by kernel_rfl) e0 e0) ?_
   refine z 4 4 ?_;intro V W c X w a Z a0 c a1 w a w a w a
   cases c
   exact x _ _ _ (fin3r results134 (rcs2 rfl rfl a R1 ST_49 rfl) (rcs2 rfl rfl a R0 ST_49 rfl) ⟨rfl,rfl⟩ ⟨_,_,rfl,((a.k1a).facts (allC F1 (allC F0 (allT (allT (allT (allT allI)))))))⟩)
  refine cJ c (fun K c=>?_) fun K c=>?_
  ·refine q 2 rfl (yh (rLt (n:=1) (l:=[1]) a SL_47 [.int .u32 1] (bp1 rfl) rfl rfl (mks1 (cs:=[.int .u32 1]) rfl mkI mks0)) fun a2 w a=>?_)
   refine z 2 3 ?_;intro a3 a4 c a5 w a a6 a7 c a8 w a
   exact jx (_,_,_,_) ⟨(a.facts (allC F1 (allC F0 (allT (allT (allT (allT (allT (allT allI))))))))),c⟩
  ·exact q 1 rfl (jx (_,_,_,_) ⟨(a.facts (allC F1 (allC F2 (allT (allT (allT allI)))))),c⟩)
instance:CL prog 134 (type_of% @w_c7):=⟨@w_c7⟩
theorem w_c8 {f:Bool} {h:LI} {i:Bool} {j:LI} {k l:Hdr} {out:Bool×LI×Int} (c:m_fg f h i j=some out) (u:imm (rI .u32) k.v h∈ros) (x:imm (rI .u32) l.v j∈ros) (a:St w0 ros rs w):
  Calls prog 91 #[.agg #[.bool f,k.v],.agg #[.bool i,l.v]] w (fun e w=>∃ (m:Hdr),e=.returned (.tuple #[.agg #[.bool out.1,m.v],iV out.2.2])∧St w0 (imm (rI .u32) m.v out.2.1::ros) rs w):=by
 refine en func91 rfl ntmps91 fun Q n=>?_
 refine z 10 9 ?_;intro y w a A w a r w a b B c o C w a s w a D w a w a w a
 refine jW 5 [4,6,8] [(23,.bool ((decide (b.2.2.2.2=0)) && (decide ((0:Int) < (b.2.2.2.1.length:Int)))))] (St w0 (imm (rI .u32) o.v b.2.1::ros) (box r 49 [.bool false,hnil.v]::box s 49 [.bool b.1,o.v]::rs)) rfl (fun p=>?_) ?_
 ·refine gB 18 rfl (fun d=>?_) fun d=>?_
  ·refine z 2 2 ?_
   exact p _ _ ((a.k2i).facts (allC F0 (allT (allT allI)))) (hasC (congrArg Value.bool (andT d)) rfl)
  ·exact q 5 rfl (p _ _ ((a.k2i).facts (allC F0 (allT (allT allI)))) (hasC (congrArg Value.bool (andF d)) rfl))
 intro g w a
 refine q 2 rfl ?_
 refine cJ c (fun t c=>?_) fun t c=>?_
 ·refine z 2 5 ?_;intro w a
  cases c
  replace a:=a.immNh (rI .u32)
  exact n _ _ _ (fin2r results91 (rcs2 rfl rfl a R0 ST_49 rfl) ⟨rfl,rfl⟩ ⟨_,rfl,((a.k19).facts (allC F0 (allT (allT allI))))⟩)
 ·refine z 2 4 ?_;intro w a
  cases c
  exact n _ _ _ (fin2r results91 (rcs2 rfl rfl a R0 ST_49 rfl) ⟨rfl,rfl⟩ ⟨_,rfl,(a.k19)⟩)
instance:CL prog 91 (type_of% @w_c8):=⟨@w_c8⟩
theorem w_c9 {p b:List (Bool×LI)} {h:Bool} {r:LI} {i:Bool} {s:LI} {j:Bool} {t:LI} {d f k l m:Hdr} {out:(List (Bool×LI))} (c:m_fi p b h r i s j t=some out) (R:imm (rI .u32) k.v r∈ros) (S:imm (rI .u32) l.v s∈ros) (T:imm (rI .u32) m.v t∈ros) (a:St w0 ros (row 49 (rP rB (rS (rI .u32))) d.v p::row 49 (rP rB (rS (rI .u32))) f.v b::rs) w):
  Calls prog 156 #[d.v,f.v,.agg #[.bool h,k.v],.agg #[.bool i,l.v],.agg #[.bool j,m.v]] w (fun e w=>e=.returned (.tuple #[])∧St w0 ros (row 49 (rP rB (rS (rI .u32))) d.v out::row 49 (rP rB (rS (rI .u32))) f.v b::rs) w):=by
 refine en func156 rfl ntmps156 fun Q A=>?_
 refine z 4 4 ?_;intro B w a C w a D w a
 refine bE c fun u E c=>?_
 refine lp E [0,7,8,9,12,13] (fun (n,o)=>[(14,iV o)]) (fun (n,o)=>St w0 ros (row 49 (rP rB (rS (rI .u32))) d.v n::row 49 (rP rB (rS (rI .u32))) f.v b::box B 49 [.bool h,k.v]::box C 49 [.bool i,l.v]::box D 49 [.bool j,m.v]::rs)) (fun | u=>(.exit 0,[],St w0 ros (row 49 (rP rB (rS (rI .u32))) d.v u::row 49 (rP rB (rS (rI .u32))) f.v b::rs))) rfl (a.k2j) rfl ?_ ?_
 ·clear a
  intro g w a
  refine q 1 rfl ?_
  cases c
  exact A _ _ _ (fin0n results156 ⟨rfl,a⟩)
 rintro ⟨n,o⟩ g w U a c
 refine q 6 rfl (cI c (fun F c=>?_) fun F c=>?_)
 ·refine z 1 0 ?_;intro G H c
  obtain ⟨V,W,cc67,a⟩:=a.ld rO1 H
  replace a:=a.eltP
  obtain ⟨X,Z,rfl,a⟩:=a
  replace a:=a.eltB
  obtain ⟨rfl,a⟩:=a
  replace a:=a.eltS
  obtain ⟨I,rfl,a⟩:=a
  refine y (yCn (cs:=[.bool G.1,I.v]) ST_49 rfl e0 cc67) ?_
  refine z 2 2 ?_;intro a0 w a w a
  refine bE c fun J K c=>bE c fun a1 a2 c=>bE c fun a3 a4 c=>bE c fun a5 a6 c=>bE c fun L a7 c=>bE c fun a8 x c=>dS [7,10,11,13,18] 5 folM ?_
  replace a:=a.drew
  refine z 2 0 ?_
  obtain ⟨a9,b0,cc82,a⟩:=a.ld rO1 K
  replace a:=a.eltP
  obtain ⟨b1,b2,rfl,a⟩:=a
  replace a:=a.eltB
  obtain ⟨rfl,a⟩:=a
  replace a:=a.eltS
  obtain ⟨N,rfl,a⟩:=a
  refine rQ rfl (yCn (cs:=[.bool J.1,N.v]) ST_49 rfl e0 cc82) ?_
  refine z 7 0 ?_;intro b3 w a b4 w a b5 w a O w a
  refine dU (D0 245760 3 18 rfl (qR 3 rfl (rQ rfl (yIs SL_28 e0 e0 a rO1 x) (Rn (qS rfl (qS rfl QSn)) ?_))))
  replace a:=a.k16
  refine LT wn (r_stn (cs:=[.bool L.1,O.v]) a ST_49 e0 e0 rfl (mkP mkB (mkS F0)) x) fun w a=>Dw 0 65536 (Rn (qS rfl QSn) (qx 6 rfl ?_))
  cases c
  exact lo ((a.k2d).fc)
 ·refine q 2 rfl ?_
  cases c
  exact xo (a.k2k)
instance:CL prog 156 (type_of% @w_c9):=⟨@w_c9⟩
theorem w_da {S:List (List (Bool×LI))} {o:LI} {j:Bool} {F:LI} {T r G U:Int} {p:Nat} {b:Hdr} {V:List Hdr} {h m:Hdr} {out:(List (List (Bool×LI)))×LI×Bool×LI×Int} (c:m_fm S o j F T r G U=some out) (a9:imm (rI .u32) m.v F∈ros) (a:St w0 ros (box p 124 [b.v,h.v,.bool j,m.v,iV T]::row 28 rH b.v V::fam 49 (rP rB (rS (rI .u32))) V S::row 3 I1 h.v o::rs) w):
  Calls prog 132 #[(pB p),iV r,iV G,iV U] w (fun e w=>∃ (W:List Hdr) (X Z:Hdr),e=.returned (.tuple #[])∧St w0 (imm (rI .u32) Z.v out.2.2.2.1::ros) (row 28 rH b.v W::fam 49 (rP rB (rS (rI .u32))) W out.1::row 3 I1 X.v out.2.1::box p 124 [b.v,X.v,.bool out.2.2.1,Z.v,iV out.2.2.2.2]::rs) w):=by
 refine en func132 rfl ntmps132 fun Q b0=>q 8 rfl ?_
 refine jC ((List (List (Bool×LI)))×Int×(List Hdr)) [0,1,2] (fun (t,k,i)=>[]) (fun (t,k,i) w=>St w0 ros (row 28 rH b.v i::fam 49 (rP rB (rS (rI .u32))) i t::row 3 I1 h.v o::box p 124 [b.v,h.v,.bool j,m.v,iV k]::rs) w∧m_fl G r j F o t k=some out) rfl ?_ ?_
 ·rintro ⟨t,k,i⟩ g w ⟨a,c⟩
  refine z 1 1 ?_
  refine bE c fun c2 H c=>?_
  obtain ⟨c3,x⟩:=a.famI R1 H
  refine y (yIa SLH_42 e0 e0 a rO0 x) (y (yF1 O_28 e0 a rO0 x rfl) (bE c fun d a0 c=>q 1 rfl (y (yIa SL_28 e0 e0 a (rdF R1 x H) a0) ?_)))
  obtain ⟨c4,c5,cc29,a⟩:=a.ld (rdF R1 x H) a0
  replace a:=a.eltP
  obtain ⟨c6,c7,rfl,a⟩:=a
  replace a:=a.eltB
  obtain ⟨rfl,a⟩:=a
  replace a:=a.eltS
  obtain ⟨f,rfl,a⟩:=a
  refine y (yCn (cs:=[.bool d.1,f.v]) ST_49 rfl e0 cc29) ?_
  refine z 3 0 ?_;intro I w a w a
  refine y (yLenF SLH_42 e0 a rO1 R2) (bE c fun a1 b2 c=>q 4 rfl ?_)
  refine lp b2 [0,1,2,8,61,62] (fun (J,A)=>[(63,iV A)]) (fun (J,A)=>St w0 (imm (rI .u32) f.v d.2::ros) (row 28 rH b.v i::fam 49 (rP rB (rS (rI .u32))) i J::row 3 I1 h.v o::box p 124 [b.v,h.v,.bool j,m.v,iV k]::box I 49 [.bool d.1,f.v]::rs)) (fun | a1=>(.exit 0,[],St w0 (imm (rI .u32) f.v d.2::ros) (row 28 rH b.v i::fam 49 (rP rB (rS (rI .u32))) i a1::row 3 I1 h.v o::box p 124 [b.v,h.v,.bool j,m.v,iV k]::box I 49 [.bool d.1,f.v]::rs))) rfl (a.k2l) rfl ?_ ?_
  ·clear a
   intro g w a
   refine bE c fun c8 b3 c=>q 2 rfl (dS [7,8,12,15] 4 folM ?_)
   replace a:=a.drew
   refine D1 639 0 7 rfl (qR 5 rfl (rQ rfl (lb_ h.v O_23 e0 a R3) (qR 1 rfl (rQ rfl (lbs_ [.bool d.1,f.v] ST_49 e0 a R4) (Rn QSn (LH wn (rLt (n:=1) (l:=[r]) a SL_23 [iV r] (bp1 e0) rfl rfl (mks1 (cs:=[iV r]) rfl mkI mks0)) fun c9 w a=>dU (D1 0 575 8 rfl (Rn (qS rfl (qS rfl (qS rfl (qS rfl (qS rfl (sY rfl (lb_ h.v O_23 e0 a R4) (sY rfl (lbs_ [.bool d.1,f.v] ST_49 e0 a R5) QSn))))))) ?_))))))))
   replace a:=a.k1e
   refine LH wn (rAp a SL_23 e0 e0 rO1 b3) fun a2 w a=>dU (D0 3072 515 12 rfl (qR 2 rfl (Rn (qS rfl (qS rfl (sY rfl (lbs_ [.bool d.1,f.v] ST_49 e0 a R5) QSn))) ?_)))
   replace a:=a.k1f
   refine LT wn (r_stb1 (vals':=[b.v,a2.v,.bool j,m.v,iV k]) a O_23 e0 e0 rfl rfl rfl rfl) fun w a=>D0 24576 514 15 rfl (qR 2 rfl (Rn (qS rfl (sY rfl (lbs_ [.bool d.1,f.v] ST_49 e0 a R5) QSn)) (LT wn (r_stbn (vals':=[b.v,a2.v,.bool d.1,f.v,iV k]) (us:=[.bool d.1,f.v]) a ST_49 e0 e0 rfl rfl (one_of rfl) rfl) fun w a=>Dw 0 0 (Rn QSn (qx 0 rfl ?_)))))
   cases c
   exact b0 _ _ _ (fin0n results132 ⟨_,_,_,rfl,(a.k2m)⟩)
  rintro ⟨J,A⟩ g w b4 a c
  refine q 6 rfl (cI c (fun b5 c=>?_) fun b5 c=>?_)
  ·refine q 7 rfl (bE c fun d0 B c=>?_)
   obtain ⟨d1,s⟩:=a.famI R1 B
   refine y (yIa SLH_42 e0 e0 a rO0 s) (y (yF1 O_28 e0 a rO0 s rfl) (q 11 rfl ?_))
   refine jC (List (List (Bool×LI))) [0,1,2,8,61,62,63] (fun C=>[]) (fun C w=>St w0 (imm (rI .u32) f.v d.2::ros) (row 28 rH b.v i::fam 49 (rP rB (rS (rI .u32))) i C::row 3 I1 h.v o::box p 124 [b.v,h.v,.bool j,m.v,iV k]::box I 49 [.bool d.1,f.v]::rs) w∧m_fj A C=some b4) rfl ?_ ?_
   ·rintro C g w ⟨a,c⟩
    refine q 6 rfl ?_
    cases c
    exact lo a
   refine cIn c (fun b6 c=>?_) fun b6 c=>?_
   ·exact q 1 rfl (jx _ ⟨a,c⟩)
   ·refine bE c fun d2 K c=>bE c fun b7 a3 c=>bE c fun u110 gu110 c=>bE c fun d3 b8 c=>bE c fun d4 b9 c=>dS [17] 1 folM ?_
    replace a:=a.drew
    refine D1 131071 0 17 rfl (qR 4 rfl (rQ rfl (lb_ b.v O_42 e0 a R3) (qR 1 rfl ?_)))
    obtain ⟨d5,D⟩:=a.famI R1 K
    refine rQ rfl (yIa SLH_42 e0 e0 a rO0 D) (rQ rfl (yF1 O_28 e0 a rO0 D rfl) (qR 2 rfl (rQ rfl (yIa SL_28 e0 e0 a (rdF R1 s B) a3) ?_)))
    obtain ⟨d6,d7,cc113,a⟩:=a.ld (rdF R1 s B) a3
    replace a:=a.eltP
    obtain ⟨d8,d9,rfl,a⟩:=a
    replace a:=a.eltB
    obtain ⟨rfl,a⟩:=a
    replace a:=a.eltS
    obtain ⟨c0,rfl,a⟩:=a
    refine rQ rfl (yCn (cs:=[.bool b7.1,c0.v]) ST_49 rfl e0 cc113) (rQ rfl (lbs_ [.bool d.1,f.v] ST_49 e0 a R4) (qR 3 rfl (rQ rfl (lbs_ [.bool j,m.v] ST_49 e0 a R3) (Rn QSn ?_))))
    replace a:=(a.k16).foc2 gu110 s B D K
    refine kZ (w_c9 b8 F0 F1 (F_2 a9) a) fun w a=>?_
    replace a:=a.unfoc2 gu110 s D K b9
    exact dU (Dw 0 0 (Rn QSn (qx 0 rfl (jx _ ⟨((a.k2n).facts (allC F1 (allT (allT allI)))),c⟩))))
  ·refine q 2 rfl ?_
   cases c
   exact xo a
 refine cI c (fun c1 c=>?_) fun c1 c=>?_
 ·refine q 1 rfl (bE c fun e1 a4 c=>bE c fun e2 a5 c=>bE c fun e3 L c=>bE c fun e4 a6 c=>dS [25,27] 2 folM ?_)
  replace a:=a.drew
  refine D0 33554431 0 25 rfl (qR 3 rfl (rQ rfl (lb_ b.v O_42 e0 a R0) (qR 4 rfl (rQ rfl (lb_ b.v O_42 e0 a R0) (qR 4 rfl (rQ rfl (lb_ b.v O_42 e0 a R0) (qR 1 rfl ?_)))))))
  obtain ⟨a7,N⟩:=a.famI R2 a4
  refine rQ rfl (yIa SLH_42 e0 e0 a rO1 N) (rQ rfl (yF1 O_28 e0 a rO1 N rfl) (qR 3 rfl (rQ rfl (lb_ b.v O_42 e0 a R0) (qR 1 rfl ?_))))
  obtain ⟨a8,O⟩:=a.famI R2 a5
  refine rQ rfl (yIa SLH_42 e0 e0 a rO1 O) (rQ rfl (yF1 O_28 e0 a rO1 O rfl) ?_)
  obtain ⟨e5,E⟩:=setI_len (u:=a7) L (a.famL (mtR (mtR mhR)))
  refine rQ rfl (yIs SLH_42 e0 e0 a rO1 E) (Rn QSn ?_)
  replace a:=a.k16
  refine LT wn (r_sti (cs:=[a7.v]) a O_28 rfl e0 e0 rfl (mkF rfl) E) fun w a=>D0 67108864 512 27 rfl ?_
  obtain ⟨e6,R⟩:=setI_len (u:=a8) a6 (swap_len L E (a.famL (mtR (mtR mhR))))
  refine rQ rfl (yIs SLH_42 e0 e0 a rO0 R) (Rn (qS rfl QSn) (LT wn (r_sti (cs:=[a8.v]) a O_28 rfl e0 e0 rfl (mkF rfl) R) fun w a=>?_))
  replace a:=(a.k15).fswap N a4 O a5 E L R a6
  refine Dw 0 0 (Rn QSn (qx 0 rfl ?_))
  refine z 2 1 ?_;intro w a
  exact jx (_,_,_) ⟨(a.k2o),c⟩
 ·exact q 1 rfl (jx (_,_,_) ⟨(a.k1p),c⟩)
instance:CL prog 132 (type_of% @w_da):=⟨@w_da⟩
theorem w_db {N:List (List (Bool×LI))} {O:Int} {b:Hdr} {R:List Hdr} {out:(List (List (Bool×LI)))×LI×Bool×LI×Int} (c:m_fq N O=some out) (a:St w0 ros (row 28 rH b.v R::fam 49 (rP rB (rS (rI .u32))) R N::rs) w):
  Calls prog 86 #[b.v,iV O] w (fun e w=>∃ (S:List Hdr) (T U:Hdr),e=.returned (.agg #[b.v,T.v,.bool out.2.2.1,U.v,iV out.2.2.2.2])∧St w0 (imm (rI .u32) U.v out.2.2.2.1::ros) (row 28 rH b.v S::fam 49 (rP rB (rS (rI .u32))) S out.1::row 3 I1 T.v out.2.1::rs) w):=by
 refine en func86 rfl ntmps86 fun Q a7=>?_
 refine z 5 13 ?_;intro i w a b9 c0 c c1 w a j w a w a
 obtain ⟨⟨V,W,X,Z,a0⟩,a8,c⟩:=bs c
 replace a:=a.rowNh 3 I1
 refine lpN ((List Hdr)×Hdr×Hdr) ((List Hdr)×Hdr×Hdr) a8 [0,4,5,12] (fun (k,l,m,n,o,p) (d,f,h)=>[(13,iV p)]) (fun (k,l,m,n,o,p) (d,f,h)=>St w0 (imm (rI .u32) h.v n::ros) (row 28 rH b.v d::fam 49 (rP rB (rS (rI .u32))) d k::box i 124 [hnil.v,hnil.v,.bool false,hnil.v,iV 0]::row 3 I1 f.v l::box j 124 [b.v,f.v,.bool m,h.v,iV o]::rs)) (fun | (V,W,X,Z,a0),(E,F,G)=>(.exit 0,[],St w0 (imm (rI .u32) G.v Z::ros) (row 28 rH b.v E::fam 49 (rP rB (rS (rI .u32))) E V::box i 124 [hnil.v,hnil.v,.bool false,hnil.v,iV 0]::row 3 I1 F.v W::box j 124 [b.v,F.v,.bool X,G.v,iV a0]::rs))) rfl (_,_,_) (a.k2p) rfl ?_ ?_
 ·clear a
  rintro ⟨E,F,G⟩ g w a
  refine z 2 4 ?_;intro w a
  cases c
  exact a7 _ _ _ (fin1r results86 (rcs2 rfl rfl a R0 ST_124 rfl) ⟨_,_,_,rfl,(a.k25)⟩)
 rintro ⟨k,l,m,n,o,p⟩ ⟨d,f,h⟩ g w a9 a c
 refine q 6 rfl (cI c (fun b0 c=>?_) fun b0 c=>?_)
 ·refine q 3 rfl ?_
  refine jC ((List (List (Bool×LI)))×LI×Bool×LI×Int×(List Hdr)×Hdr×Hdr) [0,4,5,12,13] (fun (r,s,t,u,x,A,B,C)=>[]) (fun (r,s,t,u,x,A,B,C) w=>St w0 (imm (rI .u32) C.v u::ros) (row 28 rH b.v A::fam 49 (rP rB (rS (rI .u32))) A r::box i 124 [hnil.v,hnil.v,.bool false,hnil.v,iV 0]::row 3 I1 B.v s::box j 124 [b.v,B.v,.bool t,C.v,iV x]::rs) w∧m_fn p r s t u x=some a9) rfl ?_ ?_
  ·rintro ⟨r,s,t,u,x,A,B,C⟩ g w ⟨a,c⟩
   refine q 5 rfl ?_
   cases c
   exact ln (_,_,_) a
  refine z 2 10 ?_
  refine bE c fun b1 b2 c=>?_
  refine lpN Unit ((List Hdr)×Hdr×Hdr) b2 [0,4,5,6,7,12,13] (fun H _=>[(8,iV H)]) (fun H _=>St w0 (imm (rI .u32) h.v n::ros) (row 28 rH b.v d::fam 49 (rP rB (rS (rI .u32))) d k::box i 124 [hnil.v,hnil.v,.bool false,hnil.v,iV 0]::row 3 I1 f.v l::box j 124 [b.v,f.v,.bool m,h.v,iV o]::rs)) (fun | .inl (a1,a2,a3,a4,a5),(I,J,K)=>(.exit 1,[],St w0 (imm (rI .u32) K.v a4::ros) (row 28 rH b.v I::fam 49 (rP rB (rS (rI .u32))) I a1::box i 124 [hnil.v,hnil.v,.bool false,hnil.v,iV 0]::row 3 I1 J.v a2::box j 124 [b.v,J.v,.bool a3,K.v,iV a5]::rs)) | .inr (),(_,_,_)=>(.exit 2,[],St w0 (imm (rI .u32) h.v n::ros) (row 28 rH b.v d::fam 49 (rP rB (rS (rI .u32))) d k::box i 124 [hnil.v,hnil.v,.bool false,hnil.v,iV 0]::row 3 I1 f.v l::box j 124 [b.v,f.v,.bool m,h.v,iV o]::rs))) rfl () a rfl ?_ ?_
  ·clear a
   rintro ⟨I,J,K⟩ g w a
   rcases b1 with ⟨a1,a2,a3,a4,a5⟩ | ⟨⟩
   ·exact q 2 rfl (jx (_,_,_,_,_,_,_,_) ⟨a,c⟩)
   ·exact q 2 rfl (jx (_,_,_,_,_,_,_,_) ⟨a,c⟩)
  rintro H _ g w c2 a c
  refine q 5 rfl (y (yLenF SLH_42 e0 a rO0 R1) (q 3 rfl (cI c (fun b3 c=>?_) fun b3 c=>?_)))
  ·refine q 8 rfl (bE c fun c3 L c=>?_)
   obtain ⟨c4,D⟩:=a.famI R1 L
   refine y (yIa SLH_42 e0 e0 a rO0 D) (y (yF1 O_28 e0 a rO0 D rfl) (bE c fun b4 a6 c=>q 1 rfl (y (yIa SL_28 e0 e0 a (rdF R1 D L) a6) ?_)))
   obtain ⟨c5,c6,cc521,a⟩:=a.ld (rdF R1 D L) a6
   replace a:=a.eltP
   obtain ⟨c7,c8,rfl,a⟩:=a
   replace a:=a.eltB
   obtain ⟨rfl,a⟩:=a
   replace a:=a.eltS
   obtain ⟨b6,rfl,a⟩:=a
   refine y (yCn (cs:=[.bool b4.1,b6.v]) ST_49 rfl e0 cc521) ?_
   refine z 1 3 ?_;intro c9 d0 c w a
   refine cIn c (fun b7 c=>?_) fun b7 c=>?_
   ·refine q 8 rfl ?_
    cases c
    exact ln () (a.facts (allC F1 (allT (allT allI))))
   ·refine z 1 5 ?_;intro d1 d2 c d3 d4 d5 w a
    cases c
    exact lx (_,_,_) ((a.k2q).facts (allC F0 (allT (allT (allT allI)))))
  ·refine q 2 rfl ?_
   cases c
   exact lx ([],hnil,hnil) a
 ·refine q 2 rfl ?_
  cases c
  exact lx (_,_,_) a
instance:CL prog 86 (type_of% @w_db):=⟨@w_db⟩
theorem w_dc {b:List (List (Bool×LI))} {d:Hdr} {out:Int×Int} (c:m_fr b=some out) (h:imm (rS (rP rB (rS (rI .u32)))) d.v b∈ros) (a:St w0 ros rs w):
  Calls prog 56 #[d.v] w (fun e w=>e=.returned (.tuple #[iV out.1,iV out.2])∧St w0 ros rs w):=by
 refine en func56 rfl ntmps56 fun Q f=>?_
 refine z 1 10 ?_;intro n o c w a
 refine cIn c (fun i c=>?_) fun i c=>?_
 ·refine q 5 rfl (bE c fun p j c=>?_)
  replace a:=a.immNh (rP rB (rS (rI .u32)))
  refine cT_ (w_ct j (mtF h) F0 a) fun k r w a=>?_
  refine z 2 0 ?_;intro s t c w a g u c x l m w a
  refine y (yFv (cs:=[k.v,l.v,.bool g.2.2.1,m.v,iV g.2.2.2.2]) FV_124_1 e0 rfl) ?_
  refine z 1 5 ?_
  cases c
  exact zb f results56 ⟨rfl,((a.k1b).fc)⟩
 ·refine q 9 rfl ?_
  cases c
  exact zb f results56 ⟨rfl,a⟩
instance:CL prog 56 (type_of% @w_dc):=⟨@w_dc⟩
theorem w_dd {h:List (List (Bool×LI))} {i:Int} {j:Hdr} {out:(List Bool)} (c:m_ft h i=some out) (u:imm (rS (rP rB (rS (rI .u32)))) j.v h∈ros) (a:St w0 ros rs w):
  Calls prog 35 #[j.v,iV i] w (fun e w=>∃ (k:Hdr),e=.returned (k.v)∧St w0 ros (row 4 rB k.v out::rs) w):=by
 refine en func35 rfl ntmps35 fun Q o=>bE c fun x p c=>q 8 rfl (yh (rMk a SL_74 e0 p) fun l w a=>bE c fun m r c=>q 16 rfl ?_)
 refine lp r [0,5,12] (fun (d,b,f)=>[(6,iV b),(13,iV f)]) (fun (d,b,f)=>St w0 ros (row 4 rB l.v d::rs)) (fun | m=>(.exit 0,[],St w0 ros (row 4 rB l.v m::rs))) rfl a rfl ?_ ?_
 ·clear a
  intro g w a
  refine q 9 rfl ?_
  cases c
  exact o _ _ _ (fin1r results35 ⟨rfl,rfl⟩ ⟨_,rfl,a⟩)
 rintro ⟨d,b,f⟩ g w A a c
 refine q 6 rfl (cI c (fun s c=>?_) fun s c=>?_)
 ·refine z 2 14 ?_;intro B C c D w a t E c w a
  refine bE c fun F n c=>y (yIs SL_74 e0 e0 a rO0 n) (yt (r_sti (cs:=[.bool (decide (t.1=b))]) a O_4 rfl e0 e0 rfl mkB n) fun w a=>q 12 rfl ?_)
  cases c
  exact lo (a.fc)
 ·refine q 2 rfl ?_
  cases c
  exact xo a
instance:CL prog 35 (type_of% @w_dd):=⟨@w_dd⟩
end Go.Proofs.YtcoaljcfifecgabGreatDoor
