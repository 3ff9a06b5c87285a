/- Walks: each function computes its model, printed. -/
import Derived.Test.YthekfonboblioabGreatDoorW5
namespace Go.Proofs.YthekfonboblioabGreatDoor
open Go Sx M Go.Proofs.Tryz
set_option maxRecDepth 100000
set_option maxHeartbeats 40000000
set_option linter.unusedVariables false
attribute [local irreducible] wpList Code.wp Calls DR QR QS LA LS St row box fam imm rowS loop
variable {w0:World} {ax:List Fact} {rs:List Res} {w:World}
theorem cp {b:Int} {out:Bool} (c:m_ec b=some out) (a:St w0 ax rs w):
  Calls prog 193 #[.int .u32 b] w (rv w0 ax rs (.bool out)):=by
 exact en func193 rfl ntmps193 fun Q d=>vx
instance:CL prog 193 (type_of% @cp):=⟨@cp⟩
theorem Zo {b d out:Int} (c:m_ed b d=some out) (a:St w0 ax rs w):
  Calls prog 172 #[.int .u32 b,.int .u32 d] w (rv w0 ax rs (iV out)):=by
 exact en func172 rfl ntmps172 fun Q e=>vx
instance:CL prog 172 (type_of% @Zo):=⟨@Zo⟩
theorem Yo {b d out:Int} (c:m_ee b d=some out) (a:St w0 ax rs w):
  Calls prog 171 #[iV b,iV d] w (rv w0 ax rs (iV out)):=by
 exact en func171 rfl ntmps171 fun Q e=>vx
instance:CL prog 171 (type_of% @Yo):=⟨@Yo⟩
theorem Xo {e f:LI} {h i:Hdr} {out:Int} (c:m_eg e f=some out) (p:imm xw h.v e∈ax) (r:imm xw i.v f∈ax) (a:St w0 ax rs w):
  Calls prog 130 #[h.v,i.v] w (rv w0 ax rs (iV out)):=by
 refine en func130 rfl ntmps130 fun Q b=>?_
 refine z 2 3 ?_
 refine cIn c (fun k c=>?_) fun k c=>?_
 ·refine z 1 5 ?_
  refine bE c fun l m c=>?_
  refine lp m [0,1] (fun d=>[(5,iV d)]) (fun d=>St w0 ax rs) (fun | .inl ()=>(.exit 0,[],St w0 ax rs) | .inr j=>(.ret,[(4,iV j)],St w0 ax rs)) rfl a rfl ?_ ?_
  ·clear a
   intro g w a
   rcases l with ⟨⟩ | j
   ·refine q 8 rfl ?_
    cases c
    exact za b results130 ⟨rfl,a⟩
   ·refine q 2 rfl ?_
    cases c
    exact za b results130 ⟨rfl,a⟩
  rintro d g w s a c
  refine q 7 rfl (cI c (fun n c=>?_) fun n c=>?_)
  ·refine q 5 rfl (bE c fun t u c=>bE c fun x y c=>dS [] 0 A1 ?_)
   replace a:=a.drew
   refine z 5 1 ?_
   refine cIn c (fun o c=>?_) fun o c=>?_
   ·refine q 8 rfl ?_
    cases c
    exact lo a
   ·refine q 1 rfl (bE c fun A B c=>bE c fun C D c=>bE c fun E F c=>dS [8,9] 2 A1 ?_)
    replace a:=a.drew
    refine z 7 4 ?_;intro w a
    cases c
    exact xo a
  ·refine q 2 rfl ?_
   cases c
   exact xo a
 ·refine z 3 5 ?_;intro G H c w a
  cases c
  exact za b results130 ⟨rfl,a⟩
instance:CL prog 130 (type_of% @Xo):=⟨@Xo⟩
theorem Wo {i j:LI} {k l:Hdr} {out:LI} (c:m_ej i j=some out) (x:imm xw k.v i∈ax) (A:imm xw l.v j∈ax) (a:St w0 ax rs w):
  Calls prog 131 #[k.v,l.v] w (ri w0 ax rs xw out):=by
 refine en func131 rfl ntmps131 fun Q o=>?_
 refine z 1 0 ?_
 refine bE c fun B p c=>yh (rMk a X1 e0 p) fun f w a=>?_
 refine z 1 4 ?_
 refine bE c fun m r c=>?_
 refine lp r [1,5,13,14] (fun (b,h,e)=>[(6,.int .u64 h),(15,iV e)]) (fun (b,h,e)=>St w0 ax (row 126 xw f.v b::rs)) (fun | m=>(.exit 0,[],St w0 ax (row 126 xw f.v m::rs))) rfl a rfl ?_ ?_
 ·clear a
  intro g w a
  refine z 1 4 ?_;intro C D c E w a
  cases c
  exact o _ _ _ (M3 results131 ⟨rfl,rfl⟩ ⟨_,rfl,(a.facts (S0 F0 (N0 (N0 E1))))⟩)
 rintro ⟨b,h,e⟩ g w s a c
 refine q 6 rfl (cI c (fun t c=>?_) fun t c=>?_)
 ·refine z 3 3 ?_;intro F G c
  refine jC Int [1,5,7,13,14,15] (fun d=>[(9,.int .u64 d)]) (fun d w=>St w0 ax (row 126 xw f.v b::rs) w∧m_eh b e d=some s) rfl ?_ ?_
  ·rintro d g w ⟨a,c⟩
   refine bE c fun H n c=>q 8 rfl (y (yIs X1 e0 e0 a rO0 n) (yt (S3 (cs:=[.int .u32 (wc .u32 (wand .u64 d 4294967295))]) a Z3 rfl e0 e0 rfl mkI n) fun w a=>q 14 rfl ?_))
   cases c
   exact lo a
  refine cI c (fun u c=>?_) fun u c=>?_
  ·refine z 2 4 ?_;intro I J c
   exact jx _ ⟨a,c⟩
  ·exact q 1 rfl (jx _ ⟨a,c⟩)
 ·refine q 2 rfl ?_
  cases c
  exact xo a
instance:CL prog 131 (type_of% @Wo):=⟨@Wo⟩
theorem Vo {b:Bool} {d:LI} {e:Bool} {f:LI} {g h:Hdr} {out:Bool×LI} (c:m_ek b d e f=some out) (i:imm xw g.v d∈ax) (j:imm xw h.v f∈ax) (a:St w0 ax rs w):
  Calls prog 73 #[.agg #[.bool b,g.v],.agg #[.bool e,h.v]] w (rb w0 ax rs out):=by
 refine en func73 rfl ntmps73 fun Q k=>?_
 refine z 3 3 ?_;intro l w a m w a n w a
 refine bE c fun o p c=>bE c fun q r c=>dS [2,5,6,7] 4 A1 ?_
 replace a:=a.drew
 refine z 9 0 ?_;intro s w a t w a
 exact y (Pc I0 e0 e0) vx
instance:CL prog 73 (type_of% @Vo):=⟨@Vo⟩
theorem Uo {b:Bool} {d:LI} {e:Bool} {f:LI} {g h:Hdr} {out:Bool×LI} (c:m_el b d e f=some out) (i:imm xw g.v d∈ax) (j:imm xw h.v f∈ax) (a:St w0 ax rs w):
  Calls prog 194 #[.agg #[.bool b,g.v],.agg #[.bool e,h.v]] w (rb w0 ax rs out):=by
 exact en func194 rfl ntmps194 fun Q k=>vx
instance:CL prog 194 (type_of% @Uo):=⟨@Uo⟩
theorem So {h:LI} {i:Int} {j:Hdr} {out:LI×Int} (c:m_en h i=some out) (x:imm xw j.v h∈ax) (a:St w0 ax rs w):
  Calls prog 186 #[j.v,.int .u32 i] w (fun e w=>∃ (k:Hdr),e=.returned (.tuple #[k.v,.int .u32 out.2])∧St w0 (imm xw k.v out.1::ax) rs w):=by
 refine en func186 rfl ntmps186 fun Q p=>?_
 refine z 1 0 ?_
 refine bE c fun A r c=>yh (rMk a X1 e0 r) fun l w a=>?_
 refine z 1 5 ?_
 obtain ⟨⟨m,n⟩,s,c⟩:=bs c
 refine lp s [0,1,6] (fun (b,d,f)=>[(7,.int .u64 d),(8,iV f)]) (fun (b,d,f)=>St w0 ax (row 126 xw l.v b::rs)) (fun | (m,n)=>(.exit 0,[(7,.int .u64 n)],St w0 ax (row 126 xw l.v m::rs))) rfl a rfl ?_ ?_
 ·clear a
  intro g w a
  refine z 1 7 ?_;intro B C c D w a
  cases c
  exact p _ _ _ (I4 results186 ⟨rfl,rfl⟩ ⟨rfl,rfl⟩ ⟨_,rfl,(a.facts (S0 F0 (N0 (N0 E1))))⟩)
 rintro ⟨b,d,f⟩ g w E a c
 refine q 7 rfl (cI c (fun t c=>?_) fun t c=>?_)
 ·refine z 3 1 ?_;intro F G c u H c
  refine bE c fun I o c=>y (yIs X1 e0 e0 a rO0 o) (yt (S3 (cs:=[.int .u32 (wc .u32 u)]) a Z3 rfl e0 e0 rfl mkI o) fun w a=>?_)
  refine z 1 9 ?_;intro J K c
  cases c
  exact lo a
 ·refine q 2 rfl ?_
  cases c
  exact xo a
instance:CL prog 186 (type_of% @So):=⟨@So⟩
theorem Vi {b out:Int} (c:m_eo b=some out) (a:St w0 ax rs w):
  Calls prog 187 #[.int .u32 b] w (rv w0 ax rs (iV out)):=by
 exact en func187 rfl ntmps187 fun Q d=>vx
instance:CL prog 187 (type_of% @Vi):=⟨@Vi⟩
theorem Ro {h:LI} {D E:Int} {F:LI} {b G:Hdr} {out:LI×Int} (c:m_es h D E F=some out) (f:imm xw G.v F∈ax) (a:St w0 ax (row 126 xw b.v h::rs) w):
  Calls prog 188 #[(subH b 1 D E).v,G.v] w (fun e w=>e=.returned (.int .u32 out.2)∧St w0 ax (row 126 xw b.v out.1::rs) w):=by
 refine en func188 rfl ntmps188 fun Q b7=>?_
 refine z 1 4 ?_
 refine bE c fun a1 H c=>bE c fun a2 I c=>dS [13] 1 A1 ?_
 replace a:=a.drew
 refine D1 8191 0 13 rfl (qR 2 rfl (rQ rfl (Ub X1 e0 e0 a rO0 H) (rQ rfl (yI Z3 e0 a rO0 (qc H)) (qR 5 rfl (rQ rfl (Ub X1 e0 e0 a rO0 I) (rQ rfl (yI Z3 e0 a rO0 (qc I)) (qR 2 rfl (Rn QSn (Ly wn (a_ (.int .u64 (wor .u64 (wslc .u64 (wc .u64 a1) 32) (wc .u64 a2))) e0) (dU ?_))))))))))
 refine z 1 2 ?_
 refine bE c fun b8 J c=>bE c fun a3 a4 c=>bE c fun b9 i c=>bE c fun a5 K c=>dS [16,17] 2 A1 ?_
 replace a:=a.drew
 refine D1 65535 0 16 rfl (qR 4 rfl (rQ rfl (yIa X1 e0 e0 a (rdI f) J) (rQ rfl (yI Z3 e0 a (rdI f) J) (qR 1 rfl (rQ rfl (lf e0 e0 a4) (qR 4 rfl (rQ rfl (yIa X1 e0 e0 a (rdI f) i) (rQ rfl (yI Z3 e0 a (rdI f) i) (qR 1 rfl (rQ rfl (Fa e0 e0 K) (Rn QSn (Ly wn (a_ (.int .u64 a3) e0) (dU ?_)))))))))))))
 refine D1 0 65280 17 rfl (Rn (qS rfl (qS rfl (qS rfl (qS rfl (sY rfl (yIa X1 e0 e0 a (rdI f) i) (sY rfl (yI Z3 e0 a (rdI f) i) (qS rfl (sY rfl (Fa e0 e0 K) QSn)))))))) (Ly wn (a_ (.int .u64 a5) e0) (dU ?_)))
 refine z 1 3 ?_
 refine bE c fun m a6 c=>?_
 refine lp a6 [0,1,5] (fun (n,o)=>[(7,.int .u64 n),(8,.int .u64 o)]) (fun (n,o)=>St w0 ax (row 126 xw b.v h::rs)) (fun | m=>(.exit 0,[(7,.int .u64 m)],St w0 ax (row 126 xw b.v h::rs))) rfl a rfl ?_ ?_
 ·clear a
  intro g w a
  refine z 1 4 ?_
  obtain ⟨⟨L,p,r⟩,a7,c⟩:=bs c
  refine lp a7 [0,1,5,7,84,85] (fun (s,j,k,t)=>[(9,.int .u64 j),(10,.int .u64 k),(86,iV t)]) (fun (s,j,k,t)=>St w0 ax (row 126 xw b.v s::rs)) (fun | (L,p,r)=>(.exit 2,[(9,.int .u64 p),(10,.int .u64 r)],St w0 ax (row 126 xw b.v L::rs))) rfl a rfl ?_ ?_
  ·clear a
   intro g w a
   refine bE c fun a8 N c=>q 6 rfl (y (Ub X1 e0 e0 a rO0 N) (y (yI Z3 e0 a rO0 (qc N)) (bE c fun c0 O c=>q 15 rfl (y (mf X1 e0 e0 a rO0 O) (yt (S3 (cs:=[.int .u32 (wc .u32 (wand .u64 (ws .u64 (ws .u64 (wc .u64 a8) p) r) 4294967295))]) a Z3 rfl e0 e0 rfl mkI (eg O)) fun w a=>?_)))))
   refine v 0 ?_
   refine ⟨vt,fun _ c=>?_⟩
   obtain ⟨⟨R,u⟩,a9,c⟩:=bs c
   refine lp a9 [0,5,7,140,141] (fun (x,l,A)=>[(9,.int .u64 l),(142,iV A)]) (fun (x,l,A)=>St w0 ax (row 126 xw b.v x::rs)) (fun | (R,u)=>(.exit 4,[(9,.int .u64 u)],St w0 ax (row 126 xw b.v R::rs))) rfl a rfl ?_ ?_
   ·clear a
    intro g w a
    exact bE c fun b0 S c=>q 6 rfl (y (Ub X1 e0 e0 a rO0 S) (y (yI Z3 e0 a rO0 (qc S)) (bE c fun c1 T c=>q 3 rfl (y (mf X1 e0 e0 a rO0 T) (yt (S3 (cs:=[.int .u32 (wa .u32 b0 (wc .u32 u))]) a Z3 rfl e0 e0 rfl mkI (eg T)) fun w a=>vx)))))
   rintro ⟨x,l,A⟩ g w c2 a c
   refine v 0 ?_
   refine ⟨fun _ _ b1 _ c=>?_,vt⟩
   exact bE c fun b2 U c=>y (Ub X1 e0 e0 a rO0 U) (y (yI Z3 e0 a rO0 (qc U)) (bE c fun c3 V c=>q 16 rfl (y (mf X1 e0 e0 a rO0 V) (yt (S3 (cs:=[.int .u32 (wc .u32 (wand .u64 (wa .u64 (wa .u64 (wc .u64 b2) (wc .u64 b1)) l) 4294967295))]) a Z3 rfl e0 e0 rfl mkI (eg V)) fun w a=>vx))))
  rintro ⟨s,j,k,t⟩ g w c4 a c
  refine v 0 ?_
  refine ⟨fun _ _ b3 _ c=>?_,vt⟩
  exact bE c fun b4 W c=>y (Ub X1 e0 e0 a rO0 W) (y (yI Z3 e0 a rO0 (qc W)) (bE c fun c5 X c=>q 16 rfl (y (mf X1 e0 e0 a rO0 X) (yt (S3 (cs:=[.int .u32 (wc .u32 (wand .u64 (ws .u64 (ws .u64 (wc .u64 b4) (wand .u64 (wa .u64 (wm .u64 m (wc .u64 b3)) j) 4294967295)) k) 4294967295))]) a Z3 rfl e0 e0 rfl mkI (eg X)) fun w a=>vx))))
 rintro ⟨n,o⟩ g w c6 a c
 refine bE c fun B d c=>q 2 rfl ?_
 refine jN Unit [0,1,5,7,8] (fun _=>[(71,.bool B)]) (fun _=>St w0 ax (row 126 xw b.v h::rs)) rfl ?_ ?_
 ·rcases G5 d with ⟨C,d⟩ | ⟨C,d⟩
  ·have b5:=J1 d
   refine dS [] 0 A1 ?_
   replace a:=a.drew
   exact Dw 4194303 0 (qR 3 rfl (rK 52 rfl (dT C) (qR 18 rfl (rQ rfl (pt_ (.bool B) e0 rfl (eqv b5 rfl)) (Rn QSn (jr () a))))))
  ·refine bE d fun c7 Z d=>bE d fun c8 a0 d=>?_
   have b6:=J1 d
   refine dS [] 0 A1 ?_
   replace a:=a.drew
   exact Dw 4194303 0 (qR 3 rfl (rK 52 rfl (dF C) (qR 4 rfl (rQ rfl (yIa X1 e0 e0 a (rdI f) Z) (rQ rfl (yI Z3 e0 a (rdI f) Z) (qR 7 rfl (rQ rfl (Ub X1 e0 e0 a rO0 a0) (rQ rfl (yI Z3 e0 a rO0 (qc a0)) (qR 3 rfl (rQ rfl (pf_ (.bool B) e0 rfl (eqv b6 e0)) (Rn QSn (jr () a))))))))))))
 rintro _ g w a
 exact vx
instance:CL prog 188 (type_of% @Ro):=⟨@Ro⟩
theorem Qo {j k:LI} {m o:Hdr} {out:LI×LI} (c:m_eu j k=some out) (O:imm xw m.v j∈ax) (R:imm xw o.v k∈ax) (a:St w0 ax rs w):
  Calls prog 155 #[m.v,o.v] w (fun e w=>∃ (p r:Hdr),e=.returned (.tuple #[p.v,r.v])∧St w0 (imm xw p.v out.1::imm xw r.v out.2::ax) rs w):=by
 refine en func155 rfl ntmps155 fun Q b=>?_
 refine z 1 3 ?_;intro S T c w a
 refine cI c (fun C c=>?_) fun C c=>?_
 ·refine z 1 6 ?_;intro U V c W w a
  cases c
  replace a:=(a.immNh xw).fz
  exact b _ _ _ (I4 results155 ⟨rfl,rfl⟩ ⟨rfl,rfl⟩ ⟨_,_,rfl,(a.facts (S0 F1 (S0 F0 (N0 (N0 E1)))))⟩)
 ·refine z 1 3 ?_
  refine cI c (fun D c=>?_) fun D c=>?_
  ·refine z 3 11 ?_;intro X Z c d a0 c a1 w a
   refine yh (rLt (n:=1) (l:=[d.2]) a X1 [.int .u32 d.2] (bp1 e0) rfl rfl (U1 (cs:=[.int .u32 d.2]) rfl mkI E2)) fun a2 w a=>?_
   refine z 1 6 ?_;intro a3 a4 c a5 w a
   cases c
   exact b _ _ _ (I4 results155 ⟨rfl,rfl⟩ ⟨rfl,rfl⟩ ⟨_,_,rfl,(a.facts (S0 F2 (S0 F0 (N0 (N0 (N0 E1))))))⟩)
  ·refine z 6 1 ?_;intro a6 a7 c a8 a9 c w a E b0 c F w a
   refine bE c fun b1 G c=>yh (rMk a X1 e0 G) fun s w a=>?_
   refine z 1 0 ?_;intro b2 b3 c b4 w a
   refine bE c fun b5 H c=>YV wn rfl (rCp a X1 rfl e0 (.inr ⟨rfl,rfl,rfl⟩) e0 (rdI F0) H) fun w a=>nf ?_
   refine z 2 2 ?_
   refine bE c fun b6 I c=>yh (rMk a X1 e0 I) fun t w a=>?_
   refine z 1 5 ?_
   obtain ⟨⟨u,x⟩,J,c⟩:=bs c
   refine lp J [4,8,9,10,11] (fun (f,h,i)=>[(12,iV i)]) (fun (f,h,i)=>St w0 (imm xw F.v E::ax) (row 126 xw t.v f::row 126 xw s.v h::rs)) (fun | (u,x)=>(.exit 0,[],St w0 ax (row 126 xw t.v u::row 126 xw s.v x::rs))) rfl (a.facts (S0 F1 (N0 (N0 E1)))) rfl ?_ ?_
   ·clear a
    intro g w a
    refine bE c fun b7 A c=>q 6 rfl ?_
    replace a:=(a.k10).fz
    refine y (ySl (k1:=.i64) X1 e0 a (rdI F0) (.inr ⟨rfl,rfl⟩) (.inl (C1 some e0)) A) ?_
    replace a:=a.sub F0 A
    refine z 3 6 ?_;intro b8 b9 c c0 w a c1 c2 c c3 w a c4 c5 c c7 w a
    cases c
    exact b _ _ _ (I4 results155 ⟨rfl,rfl⟩ ⟨rfl,rfl⟩ ⟨_,_,rfl,(a.facts (S0 F0 (S0 F2 (N0 (N0 (N0 (N0 (N0 (N0 E1)))))))))⟩)
   rintro ⟨f,h,i⟩ g w c8 a c
   refine q 7 rfl (cI c (fun K c=>?_) fun K c=>?_)
   ·refine q 13 rfl (bE c fun d0 L c=>y (ySl X1 e0 a rO1 (.inl (C1 some e0)) (.inl (C1 some e0)) L) ?_)
    refine z 1 0 ?_;intro N d1 c w a
    refine bE c fun d2 B c=>y (yIs X1 e0 e0 a rO1 B) ?_
    replace a:=a.k10
    refine yt (S3 (cs:=[.int .u32 N.2]) a Z3 rfl e0 e0 rfl mkI B) fun w a=>q 8 rfl ?_
    cases c
    exact lo a
   ·refine q 2 rfl ?_
    cases c
    exact xo (a.fc)
instance:CL prog 155 (type_of% @Qo):=⟨@Qo⟩
theorem Po {b:Bool} {o:LI} {d:Bool} {p:LI} {f h:Hdr} {out:Bool×LI×Bool×LI×Int} (c:m_ew b o d p=some out) (H:imm xw f.v o∈ax) (I:imm xw h.v p∈ax) (a:St w0 ax rs w):
  Calls prog 156 #[.agg #[.bool b,f.v],.agg #[.bool d,h.v]] w (fun e w=>∃ (r s:Hdr),e=.returned (.tuple #[.agg #[.bool out.1,r.v],.agg #[.bool out.2.2.1,s.v],iV out.2.2.2.2])∧St w0 (imm xw r.v out.2.1::imm xw s.v out.2.2.2.1::ax) rs w):=by
 refine en func156 rfl ntmps156 fun Q C=>?_
 refine v 29 ?_
 refine fun t _ _ u _ _ x _ _ A _ _ D _ _ E w a=>⟨fun _ c _ _ _ a=>?_,fun _ _ _ _ _ _ _ _ m _ c F G w a=>?_⟩
 ·cases c
  replace a:=a.immNh xw
  exact C _ _ _ (V7 results156 (C4 rfl rfl a R1 P0 rfl) (C4 rfl rfl a R0 P0 rfl) ⟨rfl,rfl⟩ ⟨_,_,rfl,((a.k1a).facts (S0 F0 (S0 F0 (N0 (N0 E1)))))⟩)
 ·refine jW 4 [2,3,4,5,7,8,9] [(32,.bool (b && (decide ((0:Int) < (m.2.length:Int)))))] (St w0 (imm xw E.v D::imm xw F.v m.1::imm xw G.v m.2::ax) (box t 62 [.bool b,f.v]::box u 62 [.bool d,h.v]::box x 62 [.bool false,hnil.v]::box A 62 [.bool false,hnil.v]::rs)) rfl (fun B=>?_) ?_
  ·refine gB 28 rfl (fun n=>?_) fun n=>?_
   ·refine z 1 2 ?_
    exact B _ _ ((a.k1v).facts (S0 F3 (S0 F0 (S0 F1 (N0 (N0 (N0 (N0 E1)))))))) (O1 (C1 Value.bool (B6 n)) rfl)
   ·exact q 4 rfl (B _ _ ((a.k1v).facts (S0 F3 (S0 F0 (S0 F1 (N0 (N0 (N0 (N0 E1)))))))) (O1 (C1 Value.bool (C6 n)) rfl))
  intro g w a
  refine q 2 rfl ?_
  refine jC (LI×LI×Hdr×Hdr) [2,3,4,5] (fun (i,j,k,l)=>[(8,k.v),(9,l.v)]) (fun (i,j,k,l) w=>St w0 (imm xw k.v i::imm xw l.v j::ax) (box t 62 [.bool b,f.v]::box u 62 [.bool d,h.v]::box x 62 [.bool false,hnil.v]::box A 62 [.bool false,hnil.v]::rs) w∧m_ev b d i j=some out) rfl ?_ ?_
  ·rintro ⟨i,j,k,l⟩ g w ⟨a,c⟩
   refine z 2 0 ?_
   exact y (Rb I0 e0 e0) vx
  exact vx
instance:CL prog 156 (type_of% @Po):=⟨@Po⟩
theorem Ui {f:Bool} {h:LI} {i:Bool} {j:LI} {k l:Hdr} {out:Bool×LI×Int} (c:m_ex f h i j=some out) (t:imm xw k.v h∈ax) (u:imm xw l.v j∈ax) (a:St w0 ax rs w):
  Calls prog 108 #[.agg #[.bool f,k.v],.agg #[.bool i,l.v]] w (fun e w=>∃ (m:Hdr),e=.returned (.tuple #[.agg #[.bool out.1,m.v],iV out.2.2])∧St w0 (imm xw m.v out.2.1::ax) rs w):=by
 refine en func108 rfl ntmps108 fun Q p=>?_
 refine z 10 9 ?_;intro x w a y w a r w a b A c n B w a s w a C w a w a w a
 refine jW 5 [4,6,8] [(23,.bool ((decide (b.2.2.2.2=0)) && (decide ((0:Int) < (b.2.2.2.1.length:Int)))))] (St w0 (imm xw n.v b.2.1::ax) (box r 62 [.bool false,hnil.v]::box s 62 [.bool b.1,n.v]::rs)) rfl (fun o=>?_) ?_
 ·refine gB 18 rfl (fun d=>?_) fun d=>?_
  ·refine z 2 2 ?_
   exact o _ _ ((a.k35).facts (S0 F0 (N0 (N0 E1)))) (O1 (C1 Value.bool (B6 d)) rfl)
  ·exact q 5 rfl (o _ _ ((a.k35).facts (S0 F0 (N0 (N0 E1)))) (O1 (C1 Value.bool (C6 d)) rfl))
 intro g w a
 refine v 0 ?_
 refine ⟨fun _ c _ a=>?_,vt⟩
 cases c
 replace a:=a.immNh xw
 exact p _ _ _ (I4 results108 (C4 rfl rfl a R0 P0 rfl) ⟨rfl,rfl⟩ ⟨_,rfl,((a.k19).facts (S0 F0 (N0 (N0 E1))))⟩)
instance:CL prog 108 (type_of% @Ui):=⟨@Ui⟩
theorem Ti {p b:List (Bool×LI)} {h:Bool} {r:LI} {i:Bool} {s:LI} {j:Bool} {t:LI} {d f k l m:Hdr} {out:(List (Bool×LI))} (c:m_ez p b h r i s j t=some out) (S:imm xw k.v r∈ax) (D:imm xw l.v s∈ax) (T:imm xw m.v t∈ax) (a:St w0 ax (row 62 Cw d.v p::row 62 Cw f.v b::rs) w):
  Calls prog 174 #[d.v,f.v,.agg #[.bool h,k.v],.agg #[.bool i,l.v],.agg #[.bool j,m.v]] w (fun e w=>e=.returned (.tuple #[])∧St w0 ax (row 62 Cw d.v out::row 62 Cw f.v b::rs) w):=by
 refine en func174 rfl ntmps174 fun Q E=>?_
 refine z 4 4 ?_;intro F w a G w a H w a
 refine bE c fun u I c=>?_
 refine lp I [0,7,8,9,12,13] (fun (n,o)=>[(14,iV o)]) (fun (n,o)=>St w0 ax (row 62 Cw d.v n::row 62 Cw f.v b::box F 62 [.bool h,k.v]::box G 62 [.bool i,l.v]::box H 62 [.bool j,m.v]::rs)) (fun | u=>(.exit 0,[],St w0 ax (row 62 Cw d.v u::row 62 Cw f.v b::rs))) rfl (a.k36) rfl ?_ ?_
 ·clear a
  intro g w a
  refine q 1 rfl ?_
  cases c
  exact E _ _ _ (Ek results174 ⟨rfl,a⟩)
 rintro ⟨n,o⟩ g w U a c
 refine v 0 ?_
 refine ⟨fun _ _ x J c=>?_,vt⟩
 obtain ⟨V,W,cc67,a⟩:=a.ld rO1 J
 replace a:=a.eltP
 obtain ⟨X,Z,rfl,a⟩:=a
 replace a:=a.eltB
 obtain ⟨rfl,a⟩:=a
 replace a:=a.eltS
 obtain ⟨A,rfl,a⟩:=a
 refine y (yCn (cs:=[.bool x.1,A.v]) P0 rfl e0 cc67) ?_
 refine z 2 2 ?_;intro a0 w a w a
 refine bE c fun K B c=>bE c fun a1 L c=>bE c fun a2 a3 c=>bE c fun a4 a5 c=>bE c fun N a6 c=>bE c fun a7 C c=>dS [7,10,11,13,18] 5 A1 ?_
 replace a:=a.drew
 refine D1 4991 0 7 rfl (qR 2 rfl (rQ rfl (W1 [.bool i,l.v] P0 e0 a R4) (qR 2 rfl (rQ rfl (yIa V2 e0 e0 a rO1 B) ?_))))
 obtain ⟨a8,a9,cc82,a⟩:=a.ld rO1 B
 replace a:=a.eltP
 obtain ⟨b0,b1,rfl,a⟩:=a
 replace a:=a.eltB
 obtain ⟨rfl,a⟩:=a
 replace a:=a.eltS
 obtain ⟨O,rfl,a⟩:=a
 refine rQ rfl (yCn (cs:=[.bool K.1,O.v]) P0 rfl e0 cc82) (rQ rfl (W1 [.bool h,k.v] P0 e0 a R3) (rQ rfl (W1 [.bool x.1,A.v] P0 e0 a R0) (rQ rfl (W1 [.bool j,m.v] P0 e0 a R5) (Rn QSn (kO (Nf L (F_2 D) F0 a) fun b2 w a=>dU ?_)))))
 refine z 3 0 ?_;intro b3 w a b4 w a R w a
 refine dU (D0 245760 3 18 rfl (qR 3 rfl (rQ rfl (yIs V2 e0 e0 a rO1 C) (Rn (qS rfl (qS rfl QSn)) ?_))))
 replace a:=a.k10
 exact LT wn (C8 (cs:=[.bool N.1,R.v]) a P0 e0 e0 rfl (mkP mkB (mkS F0)) C) fun w a=>vx
instance:CL prog 174 (type_of% @Ti):=⟨@Ti⟩
end Go.Proofs.YthekfonboblioabGreatDoor
