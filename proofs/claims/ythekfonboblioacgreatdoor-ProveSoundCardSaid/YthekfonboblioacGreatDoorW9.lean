/- Walks: each function computes its model, printed. -/
import Derived.Test.YthekfonboblioacGreatDoorW8
namespace Go.Proofs.YthekfonboblioacGreatDoor
open Go Sx M Go.Proofs.Tryz
set_option maxRecDepth 100000
set_option maxHeartbeats 40000000
set_option linter.unusedVariables false
attribute [local irreducible] wpList Code.wp Calls DR QR QS LA LS St row box fam imm rowS loop
variable {w0:World} {ros:List Fact} {rs:List Res} {w:World}
theorem vn {b d out:Int} (c:m_hg b d=some out) (a:St w0 ros rs w):
  Calls prog 168 #[.int .u32 b,.int .u32 d] w (rv w0 ros rs (iV out)):=by
 exact en func168 rfl ntmps168 fun Q e=>vx
instance:CL prog 168 (type_of% @vn):=⟨@vn⟩
theorem gn {b d out:Int} (c:m_hh b d=some out) (a:St w0 ros rs w):
  Calls prog 167 #[iV b,iV d] w (rv w0 ros rs (iV out)):=by
 exact en func167 rfl ntmps167 fun Q e=>vx
instance:CL prog 167 (type_of% @gn):=⟨@gn⟩
theorem cn {e f:LI} {h i:Hdr} {out:Int} (c:m_hj e f=some out) (p:imm (rI .u32) h.v e∈ros) (r:imm (rI .u32) i.v f∈ros) (a:St w0 ros rs w):
  Calls prog 125 #[h.v,i.v] w (rv w0 ros rs (iV out)):=by
 refine en func125 rfl ntmps125 fun Q b=>?_
 refine z 2 3 ?_
 refine cIn c (fun k c=>?_) fun k c=>?_
 ·refine z 1 5 ?_
  refine bE c fun l m c=>?_
  refine lp m [0,1] (fun d=>[(5,iV d)]) (fun d=>St w0 ros rs) (fun | .inl ()=>(.exit 0,[],St w0 ros rs) | .inr j=>(.ret,[(4,iV j)],St w0 ros rs)) rfl a rfl ?_ ?_
  ·clear a
   intro g w a
   rcases l with ⟨⟩ | j
   ·refine q 8 rfl ?_
    cases c
    exact za b results125 ⟨rfl,a⟩
   ·refine q 2 rfl ?_
    cases c
    exact za b results125 ⟨rfl,a⟩
  rintro d g w s a c
  refine q 7 rfl (cI c (fun n c=>?_) fun n c=>?_)
  ·refine q 5 rfl (bE c fun t u c=>bE c fun x y c=>dS [] 0 C1 ?_)
   replace a:=a.drew
   refine z 5 1 ?_
   refine cIn c (fun o c=>?_) fun o c=>?_
   ·refine q 8 rfl ?_
    cases c
    exact lo a
   ·refine q 1 rfl (bE c fun A B c=>bE c fun C D c=>bE c fun E F c=>dS [8,9] 2 C1 ?_)
    replace a:=a.drew
    refine z 7 4 ?_;intro w a
    cases c
    exact xo a
  ·refine q 2 rfl ?_
   cases c
   exact xo a
 ·refine z 3 5 ?_;intro G H c w a
  cases c
  exact za b results125 ⟨rfl,a⟩
instance:CL prog 125 (type_of% @cn):=⟨@cn⟩
theorem Zm {h:LI} {i:Int} {j:Hdr} {out:LI×Int} (c:m_hl h i=some out) (x:imm (rI .u32) j.v h∈ros) (a:St w0 ros rs w):
  Calls prog 191 #[j.v,.int .u32 i] w (fun e w=>∃ (k:Hdr),e=.returned (.tuple #[k.v,.int .u32 out.2])∧St w0 (imm (rI .u32) k.v out.1::ros) rs w):=by
 refine en func191 rfl ntmps191 fun Q p=>?_
 refine z 1 0 ?_
 refine bE c fun A r c=>yh (rMk a Z1 e0 r) fun l w a=>?_
 refine z 1 5 ?_
 obtain ⟨⟨m,n⟩,s,c⟩:=bs c
 refine lp s [0,1,6] (fun (b,d,f)=>[(7,.int .u64 d),(8,iV f)]) (fun (b,d,f)=>St w0 ros (row 93 (rI .u32) l.v b::rs)) (fun | (m,n)=>(.exit 0,[(7,.int .u64 n)],St w0 ros (row 93 (rI .u32) l.v m::rs))) rfl a rfl ?_ ?_
 ·clear a
  intro g w a
  refine z 1 7 ?_;intro B C c D w a
  cases c
  exact p _ _ _ (G4 results191 ⟨rfl,rfl⟩ ⟨rfl,rfl⟩ ⟨_,rfl,(a.facts (S0 F0 (N0 (N0 E1))))⟩)
 rintro ⟨b,d,f⟩ g w E a c
 refine q 7 rfl (cI c (fun t c=>?_) fun t c=>?_)
 ·refine z 3 1 ?_;intro F G c u H c
  refine bE c fun I o c=>y (yIs Z1 e0 e0 a rO0 o) (yt (W3 (cs:=[.int .u32 (wc .u32 u)]) a Y3 rfl e0 e0 rfl mkI o) fun w a=>?_)
  refine z 1 9 ?_;intro J K c
  cases c
  exact lo a
 ·refine q 2 rfl ?_
  cases c
  exact xo a
instance:CL prog 191 (type_of% @Zm):=⟨@Zm⟩
theorem Ym {h:LI} {D E:Int} {F:LI} {b G:Hdr} {out:LI×Int} (c:m_hp h D E F=some out) (f:imm (rI .u32) G.v F∈ros) (a:St w0 ros (row 93 (rI .u32) b.v h::rs) w):
  Calls prog 192 #[(subH b 1 D E).v,G.v] w (fun e w=>e=.returned (.int .u32 out.2)∧St w0 ros (row 93 (rI .u32) b.v out.1::rs) w):=by
 refine en func192 rfl ntmps192 fun Q b7=>?_
 refine z 1 4 ?_
 refine bE c fun a1 H c=>bE c fun a2 I c=>dS [13] 1 C1 ?_
 replace a:=a.drew
 refine D1 8191 0 13 rfl (qR 2 rfl (rQ rfl (Lb Z1 e0 e0 a rO0 H) (rQ rfl (yI Y3 e0 a rO0 (ec H)) (qR 5 rfl (rQ rfl (Lb Z1 e0 e0 a rO0 I) (rQ rfl (yI Y3 e0 a rO0 (ec I)) (qR 2 rfl (Rn QSn (Ly wn (a_ (.int .u64 (wor .u64 (wslc .u64 (wc .u64 a1) 32) (wc .u64 a2))) e0) (dU ?_))))))))))
 refine z 1 2 ?_
 refine bE c fun b8 J c=>bE c fun a3 a4 c=>bE c fun b9 i c=>bE c fun a5 K c=>dS [16,17] 2 C1 ?_
 replace a:=a.drew
 refine D1 65535 0 16 rfl (qR 4 rfl (rQ rfl (yIa Z1 e0 e0 a (rdI f) J) (rQ rfl (yI Y3 e0 a (rdI f) J) (qR 1 rfl (rQ rfl (Ve e0 e0 a4) (qR 4 rfl (rQ rfl (yIa Z1 e0 e0 a (rdI f) i) (rQ rfl (yI Y3 e0 a (rdI f) i) (qR 1 rfl (rQ rfl (ra e0 e0 K) (Rn QSn (Ly wn (a_ (.int .u64 a3) e0) (dU ?_)))))))))))))
 refine D1 0 65280 17 rfl (Rn (qS rfl (qS rfl (qS rfl (qS rfl (sY rfl (yIa Z1 e0 e0 a (rdI f) i) (sY rfl (yI Y3 e0 a (rdI f) i) (qS rfl (sY rfl (ra e0 e0 K) QSn)))))))) (Ly wn (a_ (.int .u64 a5) e0) (dU ?_)))
 refine z 1 3 ?_
 refine bE c fun m a6 c=>?_
 refine lp a6 [0,1,5] (fun (n,o)=>[(7,.int .u64 n),(8,.int .u64 o)]) (fun (n,o)=>St w0 ros (row 93 (rI .u32) b.v h::rs)) (fun | m=>(.exit 0,[(7,.int .u64 m)],St w0 ros (row 93 (rI .u32) b.v h::rs))) rfl a rfl ?_ ?_
 ·clear a
  intro g w a
  refine z 1 4 ?_
  obtain ⟨⟨L,p,r⟩,a7,c⟩:=bs c
  refine lp a7 [0,1,5,7,84,85] (fun (s,j,k,t)=>[(9,.int .u64 j),(10,.int .u64 k),(86,iV t)]) (fun (s,j,k,t)=>St w0 ros (row 93 (rI .u32) b.v s::rs)) (fun | (L,p,r)=>(.exit 2,[(9,.int .u64 p),(10,.int .u64 r)],St w0 ros (row 93 (rI .u32) b.v L::rs))) rfl a rfl ?_ ?_
  ·clear a
   intro g w a
   refine bE c fun a8 N c=>q 6 rfl (y (Lb Z1 e0 e0 a rO0 N) (y (yI Y3 e0 a rO0 (ec N)) (bE c fun c0 O c=>q 15 rfl (y (Xe Z1 e0 e0 a rO0 O) (yt (W3 (cs:=[.int .u32 (wc .u32 (wand .u64 (ws .u64 (ws .u64 (wc .u64 a8) p) r) 4294967295))]) a Y3 rfl e0 e0 rfl mkI (If O)) fun w a=>?_)))))
   refine v 0 ?_
   refine ⟨vt,fun _ c=>?_⟩
   obtain ⟨⟨R,u⟩,a9,c⟩:=bs c
   refine lp a9 [0,5,7,140,141] (fun (x,l,A)=>[(9,.int .u64 l),(142,iV A)]) (fun (x,l,A)=>St w0 ros (row 93 (rI .u32) b.v x::rs)) (fun | (R,u)=>(.exit 4,[(9,.int .u64 u)],St w0 ros (row 93 (rI .u32) b.v R::rs))) rfl a rfl ?_ ?_
   ·clear a
    intro g w a
    exact bE c fun b0 S c=>q 6 rfl (y (Lb Z1 e0 e0 a rO0 S) (y (yI Y3 e0 a rO0 (ec S)) (bE c fun c1 T c=>q 3 rfl (y (Xe Z1 e0 e0 a rO0 T) (yt (W3 (cs:=[.int .u32 (wa .u32 b0 (wc .u32 u))]) a Y3 rfl e0 e0 rfl mkI (If T)) fun w a=>vx)))))
   rintro ⟨x,l,A⟩ g w c2 a c
   refine v 0 ?_
   refine ⟨fun _ _ b1 _ c=>?_,vt⟩
   exact bE c fun b2 U c=>y (Lb Z1 e0 e0 a rO0 U) (y (yI Y3 e0 a rO0 (ec U)) (bE c fun c3 V c=>q 16 rfl (y (Xe Z1 e0 e0 a rO0 V) (yt (W3 (cs:=[.int .u32 (wc .u32 (wand .u64 (wa .u64 (wa .u64 (wc .u64 b2) (wc .u64 b1)) l) 4294967295))]) a Y3 rfl e0 e0 rfl mkI (If V)) fun w a=>vx))))
  rintro ⟨s,j,k,t⟩ g w c4 a c
  refine v 0 ?_
  refine ⟨fun _ _ b3 _ c=>?_,vt⟩
  exact bE c fun b4 W c=>y (Lb Z1 e0 e0 a rO0 W) (y (yI Y3 e0 a rO0 (ec W)) (bE c fun c5 X c=>q 16 rfl (y (Xe Z1 e0 e0 a rO0 X) (yt (W3 (cs:=[.int .u32 (wc .u32 (wand .u64 (ws .u64 (ws .u64 (wc .u64 b4) (wand .u64 (wa .u64 (wm .u64 m (wc .u64 b3)) j) 4294967295)) k) 4294967295))]) a Y3 rfl e0 e0 rfl mkI (If X)) fun w a=>vx))))
 rintro ⟨n,o⟩ g w c6 a c
 refine bE c fun B d c=>q 2 rfl ?_
 refine jN Unit [0,1,5,7,8] (fun _=>[(71,.bool B)]) (fun _=>St w0 ros (row 93 (rI .u32) b.v h::rs)) rfl ?_ ?_
 ·rcases Z5 d with ⟨C,d⟩ | ⟨C,d⟩
  ·have b5:=U1 d
   refine dS [] 0 C1 ?_
   replace a:=a.drew
   exact Dw 4194303 0 (qR 3 rfl (rK 52 rfl (dT C) (qR 18 rfl (rQ rfl (pt_ (.bool B) e0 rfl (eqv b5 rfl)) (Rn QSn (jr () a))))))
  ·refine bE d fun c7 Z d=>bE d fun c8 a0 d=>?_
   have b6:=U1 d
   refine dS [] 0 C1 ?_
   replace a:=a.drew
   exact Dw 4194303 0 (qR 3 rfl (rK 52 rfl (dF C) (qR 4 rfl (rQ rfl (yIa Z1 e0 e0 a (rdI f) Z) (rQ rfl (yI Y3 e0 a (rdI f) Z) (qR 7 rfl (rQ rfl (Lb Z1 e0 e0 a rO0 a0) (rQ rfl (yI Y3 e0 a rO0 (ec a0)) (qR 3 rfl (rQ rfl (pf_ (.bool B) e0 rfl (eqv b6 e0)) (Rn QSn (jr () a))))))))))))
 rintro _ g w a
 exact vx
instance:CL prog 192 (type_of% @Ym):=⟨@Ym⟩
theorem Xm {j k:LI} {m o:Hdr} {out:LI×LI} (c:m_hr j k=some out) (O:imm (rI .u32) m.v j∈ros) (R:imm (rI .u32) o.v k∈ros) (a:St w0 ros rs w):
  Calls prog 184 #[m.v,o.v] w (fun e w=>∃ (p r:Hdr),e=.returned (.tuple #[p.v,r.v])∧St w0 (imm (rI .u32) p.v out.1::imm (rI .u32) r.v out.2::ros) rs w):=by
 refine en func184 rfl ntmps184 fun Q b=>?_
 refine z 1 3 ?_;intro S T c w a
 refine cI c (fun C c=>?_) fun C c=>?_
 ·refine z 1 6 ?_;intro U V c W w a
  cases c
  replace a:=(a.immNh (rI .u32)).fz
  exact b _ _ _ (G4 results184 ⟨rfl,rfl⟩ ⟨rfl,rfl⟩ ⟨_,_,rfl,(a.facts (S0 F1 (S0 F0 (N0 (N0 E1)))))⟩)
 ·refine z 1 3 ?_
  refine cI c (fun D c=>?_) fun D c=>?_
  ·refine z 3 11 ?_;intro X Z c d a0 c a1 w a
   refine yh (rLt (n:=1) (l:=[d.2]) a Z1 [.int .u32 d.2] (bp1 e0) rfl rfl (N1 (cs:=[.int .u32 d.2]) rfl mkI Y1)) fun a2 w a=>?_
   refine z 1 6 ?_;intro a3 a4 c a5 w a
   cases c
   exact b _ _ _ (G4 results184 ⟨rfl,rfl⟩ ⟨rfl,rfl⟩ ⟨_,_,rfl,(a.facts (S0 F2 (S0 F0 (N0 (N0 (N0 E1))))))⟩)
  ·refine z 6 1 ?_;intro a6 a7 c a8 a9 c w a E b0 c F w a
   refine bE c fun b1 G c=>yh (rMk a Z1 e0 G) fun s w a=>?_
   refine z 1 0 ?_;intro b2 b3 c b4 w a
   refine bE c fun b5 H c=>YV wn rfl (rCp a Z1 rfl e0 (.inr ⟨rfl,rfl,rfl⟩) e0 (rdI F0) H) fun w a=>nf ?_
   refine z 2 2 ?_
   refine bE c fun b6 I c=>yh (rMk a Z1 e0 I) fun t w a=>?_
   refine z 1 5 ?_
   obtain ⟨⟨u,x⟩,J,c⟩:=bs c
   refine lp J [4,8,9,10,11] (fun (f,h,i)=>[(12,iV i)]) (fun (f,h,i)=>St w0 (imm (rI .u32) F.v E::ros) (row 93 (rI .u32) t.v f::row 93 (rI .u32) s.v h::rs)) (fun | (u,x)=>(.exit 0,[],St w0 ros (row 93 (rI .u32) t.v u::row 93 (rI .u32) s.v x::rs))) rfl (a.facts (S0 F1 (N0 (N0 E1)))) rfl ?_ ?_
   ·clear a
    intro g w a
    refine bE c fun b7 A c=>q 6 rfl ?_
    replace a:=(a.k10).fz
    refine y (ySl (k1:=.i64) Z1 e0 a (rdI F0) (.inr ⟨rfl,rfl⟩) (.inl (Z0 some e0)) A) ?_
    replace a:=a.sub F0 A
    refine z 3 6 ?_;intro b8 b9 c c0 w a c1 c2 c c3 w a c4 c5 c c7 w a
    cases c
    exact b _ _ _ (G4 results184 ⟨rfl,rfl⟩ ⟨rfl,rfl⟩ ⟨_,_,rfl,(a.facts (S0 F0 (S0 F2 (N0 (N0 (N0 (N0 (N0 (N0 E1)))))))))⟩)
   rintro ⟨f,h,i⟩ g w c8 a c
   refine q 7 rfl (cI c (fun K c=>?_) fun K c=>?_)
   ·refine q 13 rfl (bE c fun d0 L c=>y (ySl Z1 e0 a rO1 (.inl (Z0 some e0)) (.inl (Z0 some e0)) L) ?_)
    refine z 1 0 ?_;intro N d1 c w a
    refine bE c fun d2 B c=>y (yIs Z1 e0 e0 a rO1 B) ?_
    replace a:=a.k10
    refine yt (W3 (cs:=[.int .u32 N.2]) a Y3 rfl e0 e0 rfl mkI B) fun w a=>q 8 rfl ?_
    cases c
    exact lo a
   ·refine q 2 rfl ?_
    cases c
    exact xo (a.fc)
instance:CL prog 184 (type_of% @Xm):=⟨@Xm⟩
theorem Wm {i j:LI} {k l:Hdr} {out:LI} (c:m_hu i j=some out) (x:imm (rI .u32) k.v i∈ros) (A:imm (rI .u32) l.v j∈ros) (a:St w0 ros rs w):
  Calls prog 126 #[k.v,l.v] w (ri w0 ros rs (rI .u32) out):=by
 refine en func126 rfl ntmps126 fun Q o=>?_
 refine z 1 0 ?_
 refine bE c fun B p c=>yh (rMk a Z1 e0 p) fun f w a=>?_
 refine z 1 4 ?_
 refine bE c fun m r c=>?_
 refine lp r [1,5,13,14] (fun (b,h,e)=>[(6,.int .u64 h),(15,iV e)]) (fun (b,h,e)=>St w0 ros (row 93 (rI .u32) f.v b::rs)) (fun | m=>(.exit 0,[],St w0 ros (row 93 (rI .u32) f.v m::rs))) rfl a rfl ?_ ?_
 ·clear a
  intro g w a
  refine z 1 4 ?_;intro C D c E w a
  cases c
  exact o _ _ _ (I3 results126 ⟨rfl,rfl⟩ ⟨_,rfl,(a.facts (S0 F0 (N0 (N0 E1))))⟩)
 rintro ⟨b,h,e⟩ g w s a c
 refine q 6 rfl (cI c (fun t c=>?_) fun t c=>?_)
 ·refine z 3 3 ?_;intro F G c
  refine jC Int [1,5,7,13,14,15] (fun d=>[(9,.int .u64 d)]) (fun d w=>St w0 ros (row 93 (rI .u32) f.v b::rs) w∧m_hs b e d=some s) rfl ?_ ?_
  ·rintro d g w ⟨a,c⟩
   refine bE c fun H n c=>q 8 rfl (y (yIs Z1 e0 e0 a rO0 n) (yt (W3 (cs:=[.int .u32 (wc .u32 (wand .u64 d 4294967295))]) a Y3 rfl e0 e0 rfl mkI n) fun w a=>q 14 rfl ?_))
   cases c
   exact lo a
  refine cI c (fun u c=>?_) fun u c=>?_
  ·refine z 2 4 ?_;intro I J c
   exact jx _ ⟨a,c⟩
  ·exact q 1 rfl (jx _ ⟨a,c⟩)
 ·refine q 2 rfl ?_
  cases c
  exact xo a
instance:CL prog 126 (type_of% @Wm):=⟨@Wm⟩
theorem Vm {b:Bool} {o:LI} {d:Bool} {p:LI} {f h:Hdr} {out:Bool×LI×Bool×LI×Int} (c:m_hw b o d p=some out) (H:imm (rI .u32) f.v o∈ros) (I:imm (rI .u32) h.v p∈ros) (a:St w0 ros rs w):
  Calls prog 158 #[.agg #[.bool b,f.v],.agg #[.bool d,h.v]] w (fun e w=>∃ (r s:Hdr),e=.returned (.tuple #[.agg #[.bool out.1,r.v],.agg #[.bool out.2.2.1,s.v],iV out.2.2.2.2])∧St w0 (imm (rI .u32) r.v out.2.1::imm (rI .u32) s.v out.2.2.2.1::ros) rs w):=by
 refine en func158 rfl ntmps158 fun Q C=>?_
 refine v 29 ?_
 refine fun t _ _ u _ _ x _ _ A _ _ D _ _ E w a=>⟨fun _ c _ _ _ a=>?_,fun _ _ _ _ _ _ _ _ m _ c F G w a=>?_⟩
 ·cases c
  replace a:=a.immNh (rI .u32)
  exact C _ _ _ (J9 results158 (A4 rfl rfl a R1 P0 rfl) (A4 rfl rfl a R0 P0 rfl) ⟨rfl,rfl⟩ ⟨_,_,rfl,((a.k1a).facts (S0 F0 (S0 F0 (N0 (N0 E1)))))⟩)
 ·refine jW 4 [2,3,4,5,7,8,9] [(32,.bool (b && (decide ((0:Int) < (m.2.length:Int)))))] (St w0 (imm (rI .u32) E.v D::imm (rI .u32) F.v m.1::imm (rI .u32) G.v m.2::ros) (box t 52 [.bool b,f.v]::box u 52 [.bool d,h.v]::box x 52 [.bool false,hnil.v]::box A 52 [.bool false,hnil.v]::rs)) rfl (fun B=>?_) ?_
  ·refine gB 28 rfl (fun n=>?_) fun n=>?_
   ·refine z 1 2 ?_
    exact B _ _ ((a.k33).facts (S0 F3 (S0 F0 (S0 F1 (N0 (N0 (N0 (N0 E1)))))))) (J1 (Z0 Value.bool (J5 n)) rfl)
   ·exact q 4 rfl (B _ _ ((a.k33).facts (S0 F3 (S0 F0 (S0 F1 (N0 (N0 (N0 (N0 E1)))))))) (J1 (Z0 Value.bool (K5 n)) rfl))
  intro g w a
  refine q 2 rfl ?_
  refine jC (LI×LI×Hdr×Hdr) [2,3,4,5] (fun (i,j,k,l)=>[(8,k.v),(9,l.v)]) (fun (i,j,k,l) w=>St w0 (imm (rI .u32) k.v i::imm (rI .u32) l.v j::ros) (box t 52 [.bool b,f.v]::box u 52 [.bool d,h.v]::box x 52 [.bool false,hnil.v]::box A 52 [.bool false,hnil.v]::rs) w∧m_hv b d i j=some out) rfl ?_ ?_
  ·rintro ⟨i,j,k,l⟩ g w ⟨a,c⟩
   refine z 2 0 ?_
   exact y (Kb I0 e0 e0) vx
  exact vx
instance:CL prog 158 (type_of% @Vm):=⟨@Vm⟩
theorem eo {b:Bool} {k:LI} {d:Hdr} {out:Int×Bool} (c:m_hy b k=some out) (p:imm (rI .u32) d.v k∈ros) (a:St w0 ros rs w):
  Calls prog 159 #[.agg #[.bool b,d.v]] w (rv w0 ros rs (.tuple #[iV out.1,.bool out.2])):=by
 refine en func159 rfl ntmps159 fun Q r=>?_
 refine v 0 ?_
 refine fun e _ _ m _ _ n w a=>⟨vt,fun _ c=>?_⟩
 refine bE c fun f o c=>?_
 refine lp o [1,14,15] (fun (h,i)=>[(5,.int .u64 h),(16,iV i)]) (fun (h,i)=>St w0 (imm (rI .u32) n.v m::ros) (box e 52 [.bool b,d.v]::rs)) (fun | f=>(.exit 0,[(5,.int .u64 f)],St w0 ros (box e 52 [.bool b,d.v]::rs))) rfl a rfl ?_ ?_
 ·clear a
  intro g w a
  refine z 1 1 ?_
  refine jW 3 [1,5] [(35,.bool (b && (decide ((0:Int) < f))))] (St w0 ros (box e 52 [.bool b,d.v]::rs)) rfl (fun l=>?_) ?_
  ·refine gB 32 rfl (fun j=>?_) fun j=>?_
   ·exact q 3 rfl (l _ _ a (J1 (Z0 Value.bool (J5 j)) rfl))
   ·exact q 3 rfl (l _ _ a (J1 (Z0 Value.bool (K5 j)) rfl))
  intro g w a
  exact vx
 rintro ⟨h,i⟩ g w s a c
 exact vx
instance:CL prog 159 (type_of% @eo):=⟨@eo⟩
theorem bo {e:Bool} {f:LI} {h:Int} {i:Hdr} {out:Int} (c:m_hz e f h=some out) (k:imm (rI .u32) i.v f∈ros) (a:St w0 ros rs w):
  Calls prog 121 #[.agg #[.bool e,i.v],iV h] w (rv w0 ros rs (iV out)):=by
 refine en func121 rfl ntmps121 fun Q l=>?_
 refine z 1 4 ?_;intro m w a
 refine bE c fun n o c=>bE c fun j p c=>?_
 refine jN (Nat×Hdr) [] (fun (b,d)=>[(6,(pB b))]) (fun (b,d)=>St w0 (imm (rI .u32) d.v j.2.2.2.1::ros) (box b 52 [.bool j.2.2.1,d.v]::rs)) rfl ?_ ?_
 ·refine dS [2,3,8,9,10,11,12] 7 C1 ?_
  replace a:=a.drew
  exact zx
 rintro ⟨b,d⟩ g w a
 exact vx
instance:CL prog 121 (type_of% @bo):=⟨@bo⟩
theorem pf {b:Bool} {d:LI} {e:Int} {f:Hdr} {out:Int×Int} (c:m_h0 b d e=some out) (g:imm (rI .u32) f.v d∈ros) (a:St w0 ros rs w):
  Calls prog 75 #[.agg #[.bool b,f.v],iV e] w (rv w0 ros rs (.tuple #[iV out.1,iV out.2])):=by
 exact en func75 rfl ntmps75 fun Q h=>vx
instance:CL prog 75 (type_of% @pf):=⟨@pf⟩
theorem Wh {b:L2} {d:Hdr} {out:Int} (c:m_h1 b=some out) (e:imm S1 d.v b∈ros) (a:St w0 ros rs w):
  Calls prog 161 #[d.v] w (rv w0 ros rs (iV out)):=by
 refine en func161 rfl ntmps161 fun Q g=>?_
 refine v 0 ?_
 refine ⟨vt,fun _ _ _ f c=>?_⟩
 obtain ⟨h,a⟩:=iLs a e f
 exact vx
instance:CL prog 161 (type_of% @Wh):=⟨@Wh⟩
theorem Vh {f:LI} {b:Int} {g:Hdr} {d:Nat} {out:Bool} (c:m_h2 f b=some out) (h:imm I1 g.v f∈ros) (a:St w0 ros (box d 3 [iV b]::rs) w):
  Calls prog 186 #[g.v,(pB d)] w (fun e w=>e=.returned (.bool out)∧St w0 ros (box d 3 [iV b]::rs) w):=by
 exact en func186 rfl ntmps186 fun Q i=>vx
instance:CL prog 186 (type_of% @Vh):=⟨@Vh⟩
theorem w_d5 {h:L2} {b:Int} {i:Hdr} {d:Nat} {out:Int} (c:m_h4 h b=some out) (k:imm S1 i.v h∈ros) (a:St w0 ros (box d 3 [iV b]::rs) w):
  Calls prog 162 #[i.v,.func (.func 186) #[] #[(pB d)]] w (fun e w=>e=.returned (iV out)∧St w0 ros (box d 3 [iV b]::rs) w):=by
 refine en func162 rfl ntmps162 fun Q p=>?_
 refine z 1 4 ?_
 refine bE c fun l m c=>?_
 refine lp m [0,1,7] (fun f=>[(8,iV f)]) (fun f=>St w0 ros (box d 3 [iV b]::rs)) (fun | .inl ()=>(.exit 0,[],St w0 ros (box d 3 [iV b]::rs)) | .inr j=>(.ret,[(4,iV j)],St w0 ros (box d 3 [iV b]::rs))) rfl a rfl ?_ ?_
 ·clear a
  intro g w a
  rcases l with ⟨⟩ | j
  ·exact vx
  ·exact vx
 rintro f g w q a c
 refine v 0 ?_
 refine ⟨fun _ _ _ n c=>?_,vt⟩
 obtain ⟨r,a⟩:=iLs a k n
 refine y (yCt M1 e0 a F1 rfl) (bE c fun s o c=>yC (Kd aE e0 (a1 e0)) (Vh o F0 a) ?_)
 rintro _ w ⟨rfl,a⟩
 refine ⟨_,rfl,?_⟩
 exact nf vx
end Go.Proofs.YthekfonboblioacGreatDoor
