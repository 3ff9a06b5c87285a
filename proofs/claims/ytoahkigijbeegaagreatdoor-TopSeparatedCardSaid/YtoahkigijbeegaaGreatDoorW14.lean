/- Walks: each function computes its model, printed. -/
import Derived.Test.YtoahkigijbeegaaGreatDoorW11
namespace Go.Proofs.YtoahkigijbeegaaGreatDoor
open Go Sx M Go.Proofs.Tryz
set_option maxRecDepth 100000
set_option maxHeartbeats 40000000
set_option linter.unusedVariables false
attribute [local irreducible] wpList Code.wp Calls DR QR QS LA LS St row box fam imm rowS loop
variable {w0:World} {mu:List Fact} {rs:List Res} {w:World}
theorem Ud {b d:Bool} {e:LI} {f:Int} {g h:Bool} {i:LI} {j:Int} {k l:Hdr} {out:Bool×Bool×LI×Int} (c:m_kk b d e f g h i j=some out) (n:imm Zt k.v e∈mu) (o:imm Zt l.v i∈mu) (p:globF∈mu) (a:St w0 mu rs w):
  Calls prog 134 #[.agg #[.bool b,.bool d,k.v,iV f],.agg #[.bool g,.bool h,l.v,iV j]] w (rd w0 mu rs out):=by
 refine en func134 rfl ntmps134 fun Q m=>?_
 refine v 0 ?_
 refine fun _ _ _ _ _ _ _ _ _ _ _ _ _ _ _ _ _ _ _ a=>⟨vt,fun _ _ _ _ c _ _ _ a=>?_⟩
 cases c
 replace a:=a.immNh Zt
 exact m _ _ _ (X1 results134 (V2 rfl rfl a R0 J3 rfl) ⟨_,rfl,((a.k1b).facts (U0 F0 (M0 (M0 (M0 M1)))))⟩)
instance:CL prog 134 (type_of% @Ud):=⟨@Ud⟩
theorem Td {b d:Bool} {e:LI} {f:Int} {g:Hdr} {out:Bool×Bool×LI×Int} (c:m_km b d e f=some out) (h:imm Zt g.v e∈mu) (i:globF∈mu) (a:St w0 mu rs w):
  Calls prog 133 #[.agg #[.bool b,.bool d,g.v,iV f]] w (rd w0 mu rs out):=by
 exact en func133 rfl ntmps133 fun Q j=>vx
instance:CL prog 133 (type_of% @Td):=⟨@Td⟩
theorem K7 {b:Bool} {d:LI} {e:Int} {f:Hdr} {out:Bool×LI} (c:m_kn b d e=some out) (g:imm Zt f.v d∈mu) (a:St w0 mu rs w):
  Calls prog 182 #[.agg #[.bool b,f.v],iV e] w (rb w0 mu rs out):=by
 exact en func182 rfl ntmps182 fun Q h=>vx
instance:CL prog 182 (type_of% @K7):=⟨@K7⟩
theorem yl {b:Int} {out:Bool} (c:m_ko b=some out) (a:St w0 mu rs w):
  Calls prog 244 #[.int .u32 b] w (rv w0 mu rs (.bool out)):=by
 exact en func244 rfl ntmps244 fun Q d=>vx
instance:CL prog 244 (type_of% @yl):=⟨@yl⟩
theorem xl {b d out:Int} (c:m_kp b d=some out) (a:St w0 mu rs w):
  Calls prog 226 #[.int .u32 b,.int .u32 d] w (rv w0 mu rs (iV out)):=by
 exact en func226 rfl ntmps226 fun Q e=>vx
instance:CL prog 226 (type_of% @xl):=⟨@xl⟩
theorem tl {e f:LI} {h i:Hdr} {out:Int} (c:m_kr e f=some out) (p:imm Zt h.v e∈mu) (r:imm Zt i.v f∈mu) (a:St w0 mu rs w):
  Calls prog 212 #[h.v,i.v] w (rv w0 mu rs (iV out)):=by
 refine en func212 rfl ntmps212 fun Q b=>?_
 refine z 2 3 ?_
 refine cIn c (fun k c=>?_) fun k c=>?_
 ·refine z 1 5 ?_
  refine bE c fun l m c=>?_
  refine lp m [0,1] (fun d=>[(5,iV d)]) (fun d=>St w0 mu rs) (fun | .inl ()=>(.exit 0,[],St w0 mu rs) | .inr j=>(.ret,[(4,iV j)],St w0 mu rs)) rfl a rfl ?_ ?_
  ·clear a
   intro g w a
   rcases l with ⟨⟩ | j
   ·refine q 8 rfl ?_
    cases c
    exact za b results212 ⟨rfl,a⟩
   ·refine q 2 rfl ?_
    cases c
    exact za b results212 ⟨rfl,a⟩
  rintro d g w s a c
  refine q 7 rfl (cI c (fun n c=>?_) fun n c=>?_)
  ·refine q 5 rfl (bE c fun t u c=>bE c fun x y c=>dS [] 0 V0 ?_)
   replace a:=a.drew
   refine z 5 1 ?_
   refine cIn c (fun o c=>?_) fun o c=>?_
   ·refine q 8 rfl ?_
    cases c
    exact lo a
   ·refine q 1 rfl (bE c fun A B c=>bE c fun C D c=>bE c fun E F c=>dS [8,9] 2 V0 ?_)
    replace a:=a.drew
    refine z 7 4 ?_;intro w a
    cases c
    exact xo a
  ·refine q 2 rfl ?_
   cases c
   exact xo a
 ·refine z 3 5 ?_;intro G H c w a
  cases c
  exact za b results212 ⟨rfl,a⟩
instance:CL prog 212 (type_of% @tl):=⟨@tl⟩
theorem Fk {i j:LI} {k l:Hdr} {out:LI} (c:m_ku i j=some out) (x:imm Zt k.v i∈mu) (A:imm Zt l.v j∈mu) (a:St w0 mu rs w):
  Calls prog 213 #[k.v,l.v] w (ri w0 mu rs Zt out):=by
 refine en func213 rfl ntmps213 fun Q o=>?_
 refine z 1 0 ?_
 refine bE c fun B p c=>yh (rMk a Y2 e0 p) fun f w a=>?_
 refine z 1 4 ?_
 refine bE c fun m r c=>?_
 refine lp r [1,5,13,14] (fun (b,h,e)=>[(6,.int .u64 h),(15,iV e)]) (fun (b,h,e)=>St w0 mu (row 108 Zt f.v b::rs)) (fun | m=>(.exit 0,[],St w0 mu (row 108 Zt f.v m::rs))) rfl a rfl ?_ ?_
 ·clear a
  intro g w a
  refine z 1 4 ?_;intro C D c E w a
  cases c
  exact o _ _ _ (X1 results213 ⟨rfl,rfl⟩ ⟨_,rfl,(a.facts (U0 F0 (M0 (M0 M1))))⟩)
 rintro ⟨b,h,e⟩ g w s a c
 refine q 6 rfl (cI c (fun t c=>?_) fun t c=>?_)
 ·refine z 3 3 ?_;intro F G c
  refine jC Int [1,5,7,13,14,15] (fun d=>[(9,.int .u64 d)]) (fun d w=>St w0 mu (row 108 Zt f.v b::rs) w∧m_ks b e d=some s) rfl ?_ ?_
  ·rintro d g w ⟨a,c⟩
   refine bE c fun H n c=>q 8 rfl (y (yIs Y2 e0 e0 a rO0 n) (yt (V1 (cs:=[.int .u32 (wc .u32 (wand .u64 d 4294967295))]) a N4 rfl e0 e0 rfl mkI n) fun w a=>q 14 rfl ?_))
   cases c
   exact lo a
  refine cI c (fun u c=>?_) fun u c=>?_
  ·refine z 2 4 ?_;intro I J c
   exact jx _ ⟨a,c⟩
  ·exact q 1 rfl (jx _ ⟨a,c⟩)
 ·refine q 2 rfl ?_
  cases c
  exact xo a
instance:CL prog 213 (type_of% @Fk):=⟨@Fk⟩
theorem Ek {b:Bool} {d:LI} {e:Bool} {f:LI} {g h:Hdr} {out:Bool×LI} (c:m_kv b d e f=some out) (i:imm Zt g.v d∈mu) (j:imm Zt h.v f∈mu) (a:St w0 mu rs w):
  Calls prog 181 #[.agg #[.bool b,g.v],.agg #[.bool e,h.v]] w (rb w0 mu rs out):=by
 refine en func181 rfl ntmps181 fun Q k=>?_
 refine z 3 3 ?_;intro l w a m w a n w a
 refine bE c fun o p c=>bE c fun q r c=>dS [2,5,6,7] 4 V0 ?_
 replace a:=a.drew
 refine z 9 0 ?_;intro s w a t w a
 exact y (Dd H0 e0 e0) vx
instance:CL prog 181 (type_of% @Ek):=⟨@Ek⟩
theorem w_fc {x:List (Bool×Bool×LI×Int)} {A:Hdr} {out:Bool×Bool×LI×Int} (c:m_ky x=some out) (K:imm (rP rB (rP rB (rP (rS Zt) I1))) A.v x∈mu) (Z:globF∈mu) (a:St w0 mu rs w):
  Calls prog 135 #[A.v] w (rd w0 mu rs out):=by
 refine en func135 rfl ntmps135 fun Q B=>?_
 refine z 2 4 ?_;intro d w a
 refine bE c fun L N c=>?_
 replace a:=a.rowNh 65 (rP rB (rP rB (rP (rS Zt) I1)))
 refine lpN Hdr Hdr N [2,12,13] (fun (i,j,k) e=>[(3,e.v),(4,iV j),(14,iV k)]) (fun (i,j,k) e=>St w0 mu (box d 65 [.bool false,.bool false,hnil.v,iV 0]::row 65 (rP rB (rP rB (rP (rS Zt) I1))) e.v i::rs)) (fun | .inl (m,C),f=>(.exit 0,[(3,f.v),(4,iV C)],St w0 mu (box d 65 [.bool false,.bool false,hnil.v,iV 0]::row 65 (rP rB (rP rB (rP (rS Zt) I1))) f.v m::rs)) | .inr (D,E,F),_=>(.ret,[],St w0 mu (box d 65 [.bool D,.bool E,hnil.v,iV F]::rs))) rfl _ (a.k10) rfl ?_ ?_
 ·clear a
  rintro f g w a
  rcases L with ⟨m,C⟩ | ⟨D,E,F⟩
  ·refine z 2 4 ?_;intro G w a
   obtain ⟨⟨H,I⟩,O,c⟩:=bs c
   replace a:=a.immNh Zt
   refine lpN Hdr Hdr O [2,4,9,35,36] (fun (o,p,r) h=>[(37,iV r)]) (fun (o,p,r) h=>St w0 (imm Zt h.v p::mu) (box d 65 [.bool false,.bool false,hnil.v,iV 0]::box G 63 [.bool o,h.v]::row 65 (rP rB (rP rB (rP (rS Zt) I1))) f.v m::rs)) (fun | (H,I),s=>(.exit 2,[],St w0 (imm Zt s.v I::mu) (box d 65 [.bool false,.bool false,hnil.v,iV 0]::box G 63 [.bool H,s.v]::rs))) rfl _ (a.k1j) rfl ?_ ?_
   ·clear a
    rintro s g w a
    refine z 3 3 ?_;intro a0 a1 c a2 w a w a
    cases c
    exact B _ _ _ (X1 results135 (V2 rfl rfl a R0 J3 rfl) ⟨_,rfl,((a.k19).facts (U0 F0 (M0 (M0 M1))))⟩)
   rintro ⟨o,p,r⟩ h g w a3 a c
   refine q 6 rfl (cI c (fun R c=>?_) fun R c=>?_)
   ·refine z 1 0 ?_;intro t S c
    obtain ⟨a4,a5,cc103,a⟩:=a.ld rO2 S
    replace a:=a.eltP
    obtain ⟨a6,a7,rfl,a⟩:=a
    replace a:=a.eltB
    obtain ⟨rfl,a⟩:=a
    replace a:=a.eltP
    obtain ⟨a8,a9,rfl,a⟩:=a
    replace a:=a.eltB
    obtain ⟨rfl,a⟩:=a
    replace a:=a.eltP
    obtain ⟨b0,b1,rfl,a⟩:=a
    replace a:=a.eltS
    obtain ⟨T,rfl,a⟩:=a
    replace a:=a.swf.eltI
    obtain ⟨rfl,a⟩:=a
    refine y (yCn (cs:=[.bool t.1,.bool t.2.1,T.v,iV t.2.2.2]) J3 rfl e0 cc103) ?_
    refine z 2 2 ?_;intro b2 w a w a
    refine bE c fun b4 b5 c=>bE c fun b6 b7 c=>dS [7,8,9] 3 V0 ?_
    replace a:=a.drew
    refine z 7 6 ?_;intro b8 w a b9 w a w a
    cases c
    exact ln _ ((a.k23).facts (U0 F0 (M0 (M0 (M0 (M0 M1))))))
   ·refine q 2 rfl ?_
    cases c
    exact lx _ (a.k24)
  ·refine q 2 rfl ?_
   cases c
   replace a:=a.immNh Zt
   exact B _ _ _ (X1 results135 (V2 rfl rfl a R0 J3 rfl) ⟨_,rfl,(a.k14)⟩)
 rintro ⟨i,j,k⟩ e g w c0 a c
 refine q 6 rfl (cI c (fun U c=>?_) fun U c=>?_)
 ·refine z 1 0 ?_;intro u V c
  obtain ⟨c1,c2,a⟩:=iLd a K V
  obtain ⟨c3,c4,rfl,a⟩:=a.eltP
  obtain ⟨rfl,a⟩:=a.eltB
  obtain ⟨c5,c6,rfl,a⟩:=a.eltP
  obtain ⟨rfl,a⟩:=a.eltB
  obtain ⟨c7,c8,rfl,a⟩:=a.eltP
  obtain ⟨W,rfl,a⟩:=a.eltS
  replace a:=a.swf
  obtain ⟨rfl,a⟩:=a.eltI
  refine y (jg (cs:=[.bool u.1,.bool u.2.1,W.v,iV u.2.2.2]) J3 rfl e0 a F1) ?_
  refine z 6 10 ?_;intro c9 w a w a b d0 c J w a d1 w a w a
  refine cJn c (fun X c=>?_) fun X c=>?_
  ·refine z 2 0 ?_
   refine yh (rLt (n:=1) (l:=[(b.1,b.2.1,b.2.2.1,b.2.2.2.1)]) a N7 [.agg #[.bool b.1,.bool b.2.1,J.v,iV b.2.2.2.1]] (bp1 e0) rfl rfl (J1 (cs:=[.bool b.1,.bool b.2.1,J.v,iV b.2.2.2.1]) rfl (mkP mkB (mkP mkB (mkP (mkS F0) mkI))) L1)) fun d2 w a=>?_
   refine z 1 8 ?_;intro d3 d4 c d5 w a
   cases c
   exact ln _ ((a.k25).fc)
  ·refine z 2 6 ?_;intro d6 d7 c w a w a
   cases c
   exact lx hnil ((a.k26).fc)
 ·refine q 2 rfl ?_
  cases c
  exact lx _ a
theorem Ld {N p:L2} {r:List (Option (List (Int×(Bool×Bool×LI×Int))))} {O:L2} {s:Int} {R:L2} {t:List (Option (List (Int×(Bool×Bool×LI×Int))))} {S T:Int} {x:Nat} {z d:Hdr} {f:List Hdr} {b:Hdr} {h:MH} {o:Hdr} {A:Nat} {B i:Hdr} {j:MH} {out:Bool×Bool×LI×Int} (c:m_k1 N p r O s R t S T=some out) (c3:imm S1 z.v N∈mu) (U:imm S1 o.v O∈mu) (a7:imm S1 B.v R∈mu) (H:globF∈mu) (a:St w0 mu (box x 132 [z.v,d.v,b.v,o.v]::row 25 rH d.v f::fam 56 iu f p::row 127 rM b.v h::famM .i64 (rP rB (rP rB (rP (rS Zt) I1))) h r::box A 90 [iV s,B.v,i.v]::row 127 rM i.v j::famM .i64 (rP rB (rP rB (rP (rS Zt) I1))) j t::rs) w):
  Calls prog 75 #[(pB x),(pB A),iV S,iV T] w (fun e w=>∃ (V:Hdr),e=.returned (.agg #[.bool out.1,.bool out.2.1,V.v,iV out.2.2.2])∧St w0 (imm Zt V.v out.2.2.1::mu) (row 25 rH d.v f::fam 56 iu f p::row 127 rM b.v h::famM .i64 (rP rB (rP rB (rP (rS Zt) I1))) h r::box x 132 [z.v,d.v,b.v,o.v]::row 127 rM i.v j::famM .i64 (rP rB (rP rB (rP (rS Zt) I1))) j t::box A 90 [iV s,B.v,i.v]::rs) w):=by
 refine en func75 rfl ntmps75 fun Q a8=>q 2 rfl (yb (rAl a Fc) fun I w a=>bE c fun k a9 c=>q 7 rfl ?_)
 replace a:=a.k27
 refine cO (Ng a9 a7 a) fun W w a=>yh (rLt (n:=1) (l:=[(k.1,k.2.1,k.2.2.1,k.2.2.2)]) a N7 [.agg #[.bool k.1,.bool k.2.1,W.v,iV k.2.2.2]] (bp1 e0) rfl rfl (J1 (cs:=[.bool k.1,.bool k.2.1,W.v,iV k.2.2.2]) rfl (mkP mkB (mkP mkB (mkP (mkS F0) mkI))) L1)) fun c4 w a=>q 9 rfl (y (lb_ o.v M4 e0 a R5) (bE c fun X Z c=>q 1 rfl (y (yIa Q4 e0 e0 a (rdI (mtF U)) Z) ?_)))
 obtain ⟨a0,a⟩:=iLs a (mtF U) Z
 refine y (yCt P0 e0 a F1 rfl) (y (T1 N0 e0 a (rdI F0)) (bE c fun a1 b0 c=>q 4 rfl ?_))
 refine lpN Hdr Hdr b0 [0,2,3,8,25,26] (fun (J,D) E=>[(9,E.v),(27,iV D)]) (fun (J,D) E=>St w0 (imm I1 a0.v X::mu) (row 25 rH d.v f::fam 56 iu f p::row 127 rM b.v h::famM .i64 (rP rB (rP rB (rP (rS Zt) I1))) h r::box x 132 [z.v,d.v,b.v,o.v]::row 127 rM i.v j::famM .i64 (rP rB (rP rB (rP (rS Zt) I1))) j t::box A 90 [iV s,B.v,i.v]::box I 65 [.bool false,.bool false,hnil.v,iV 0]::row 65 (rP rB (rP rB (rP (rS Zt) I1))) E.v J::rs)) (fun | a1,K=>(.exit 0,[(9,K.v)],St w0 mu (row 25 rH d.v f::fam 56 iu f p::row 127 rM b.v h::famM .i64 (rP rB (rP rB (rP (rS Zt) I1))) h r::box x 132 [z.v,d.v,b.v,o.v]::row 127 rM i.v j::famM .i64 (rP rB (rP rB (rP (rS Zt) I1))) j t::box A 90 [iV s,B.v,i.v]::box I 65 [.bool false,.bool false,hnil.v,iV 0]::row 65 (rP rB (rP rB (rP (rS Zt) I1))) K.v a1::rs))) rfl _ ((a.k28).facts (U0 F0 (M0 (M0 (M0 M1))))) rfl ?_ ?_
 ·clear a
  rintro K g w a
  refine bE c fun c5 b2 c=>q 5 rfl ?_
  replace a:=(a.k1y).fz
  refine cO (w_fc b2 F0 (mtF H) a) fun c6 w a=>?_
  replace a:=a.k29
  refine sB rfl a J3 fun w a=>q 3 rfl ?_
  cases c
  exact a8 _ _ _ (X1 results75 (V2 rfl rfl a R0 J3 rfl) ⟨_,rfl,((a.k2a).facts (U0 F0 (M0 (M0 M1))))⟩)
 rintro ⟨J,D⟩ E g w b3 a c
 refine q 6 rfl (cI c (fun b4 c=>?_) fun b4 c=>?_)
 ·refine q 6 rfl (bE c fun c7 a2 c=>y (yIa N0 e0 e0 a (rdI F0) a2) (y (yI O_3 e0 a (rdI F0) a2) (q 8 rfl (y (lb_ b.v U3 e0 a R4) (bE c fun c8 a3 c=>q 1 rfl ?_)))))
  obtain ⟨c9,gb152⟩:=a.mfI R3 a3
  refine y (yIa I5 e0 e0 a rO2 gb152) (y (yF1 k7 e0 a rO2 gb152 rfl) (bE c fun C b5 c=>q 1 rfl ?_))
  obtain ⟨d0,ly155,a⟩:=a.mlk (zs:=[.bool false,.bool false,hnil.v,iV 0]) (Gh (mtR (mtR (mtR mhR))) gb152 a3) b5 (mkP mkB (mkP mkB (mkP He mkI)))
  replace a:=a.eltP
  obtain ⟨d1,d2,rfl,a⟩:=a
  replace a:=a.eltB
  obtain ⟨rfl,a⟩:=a
  replace a:=a.eltP
  obtain ⟨d3,d4,rfl,a⟩:=a
  replace a:=a.eltB
  obtain ⟨rfl,a⟩:=a
  replace a:=a.eltP
  obtain ⟨d5,d6,rfl,a⟩:=a
  replace a:=a.eltS
  obtain ⟨a4,rfl,a⟩:=a
  replace a:=a.swf.eltI
  obtain ⟨rfl,a⟩:=a
  refine y (yMlc (u:=.agg #[.bool C.1,.bool C.2.1,a4.v,iV C.2.2.2]) ly155 I8 e0 e0) (q 3 rfl (yb (rAl a Fc) fun d7 w a=>sB rfl a J3 fun w a=>q 8 rfl ?_))
  refine jC ((List (Bool×Bool×LI×Int))×Hdr) [0,2,3,8,25,26,27] (fun (F,G)=>[(9,G.v)]) (fun (F,G) w=>St w0 (imm I1 a0.v X::mu) (row 25 rH d.v f::fam 56 iu f p::row 127 rM b.v h::famM .i64 (rP rB (rP rB (rP (rS Zt) I1))) h r::box x 132 [z.v,d.v,b.v,o.v]::row 127 rM i.v j::famM .i64 (rP rB (rP rB (rP (rS Zt) I1))) j t::box A 90 [iV s,B.v,i.v]::box I 65 [.bool false,.bool false,hnil.v,iV 0]::row 65 (rP rB (rP rB (rP (rS Zt) I1))) G.v F::rs) w∧m_kz D F=some b3) rfl ?_ ?_
  ·rintro ⟨F,G⟩ g w ⟨a,c⟩
   refine q 6 rfl ?_
   cases c
   exact ln _ a
  refine cJ c (fun b6 c=>?_) fun b6 c=>?_
  ·refine bE c fun d8 a5 c=>bE c fun L b7 c=>bE c fun d9 b8 c=>bE c fun m b9 c=>bE c fun e1 c0 c=>dS [11,12,13,14,15] 5 V0 ?_
   replace a:=a.drew
   refine D1 2047 0 11 rfl (qR 1 rfl (rQ rfl (A1 [.bool C.1,.bool C.2.1,a4.v,iV C.2.2.2] J3 e0 a R0) (qR 3 rfl (rQ rfl (lb_ b.v U3 e0 a R5) (qR 1 rfl ?_)))))
   obtain ⟨e2,gb187⟩:=a.mfI R4 a5
   refine rQ rfl (yIa I5 e0 e0 a rO3 gb187) (rQ rfl (yF1 k7 e0 a rO3 gb187 rfl) (qR 1 rfl ?_))
   obtain ⟨e3,ly190,a⟩:=a.mlk (zs:=[.bool false,.bool false,hnil.v,iV 0]) (Gh (mtR (mtR (mtR (mtR mhR)))) gb187 a5) b7 (mkP mkB (mkP mkB (mkP He mkI)))
   replace a:=a.eltP
   obtain ⟨e4,e5,rfl,a⟩:=a
   replace a:=a.eltB
   obtain ⟨rfl,a⟩:=a
   replace a:=a.eltP
   obtain ⟨e6,e7,rfl,a⟩:=a
   replace a:=a.eltB
   obtain ⟨rfl,a⟩:=a
   replace a:=a.eltP
   obtain ⟨e8,e9,rfl,a⟩:=a
   replace a:=a.eltS
   obtain ⟨c1,rfl,a⟩:=a
   replace a:=a.swf.eltI
   obtain ⟨rfl,a⟩:=a
   refine rQ rfl (yMl (u:=.agg #[.bool L.1,.bool L.2.1,c1.v,iV L.2.2.2]) ly190 I8 e0 e0) (Rn QSn (kO (Ud b8 F1 F0 (F_3 H) a) fun f0 w a=>dU (D1 0 1 12 rfl (Rn (qS rfl QSn) (kO (Td b9 F0 (F_4 H) a) fun a6 w a=>dU (D1 0 1 13 rfl (Rn (qS rfl QSn) (LH wn (rLt (n:=1) (l:=[(m.1,m.2.1,m.2.2.1,m.2.2.2)]) a N7 [.agg #[.bool m.1,.bool m.2.1,a6.v,iV m.2.2.2]] (bp1 e0) rfl rfl (J1 (cs:=[.bool m.1,.bool m.2.1,a6.v,iV m.2.2.2]) rfl (mkP mkB (mkP mkB (mkP (mkS F0) mkI))) L1)) fun f1 w a=>dU (D1 0 1 14 rfl ?_)))))))))
   refine Rn (qS rfl QSn) ?_
   replace a:=a.k2b
   exact LH wn (rAp a N7 e0 e0 rO1 c0) fun c2 w a=>dU (D1 0 0 15 rfl (Rn QSn (Ly wn (a_ c2.v e0) (dU (Dw 0 0 (Rn QSn (qx 0 rfl (jx (_,_) ⟨((a.k2c).facts (U0 F4 (M0 (M0 (M0 (M0 (M0 M1))))))),c⟩))))))))
  ·exact q 1 rfl (jx (_,_) ⟨((a.k2d).facts (U0 F1 (M0 (M0 M1)))),c⟩)
 ·refine q 2 rfl ?_
  cases c
  exact lx _ (a.fc)
instance:CL prog 75 (type_of% @Ld):=⟨@Ld⟩
theorem Dg {b d:Bool} {e:LI} {f:Int} {g:Hdr} {out:Int} (c:m_k2 b d e f=some out) (h:imm Zt g.v e∈mu) (i:globF∈mu) (a:St w0 mu rs w):
  Calls prog 43 #[.agg #[.bool b,.bool d,g.v,iV f]] w (rv w0 mu rs (iV out)):=by
 exact en func43 rfl ntmps43 fun Q j=>vx
instance:CL prog 43 (type_of% @Dg):=⟨@Dg⟩
theorem Dk {b d:Bool} {e:LI} {f:Int} {g:Hdr} {out:Bool×Bool×LI×Int} (c:m_k3 b d e f=some out) (h:imm Zt g.v e∈mu) (i:globF∈mu) (a:St w0 mu rs w):
  Calls prog 136 #[.agg #[.bool b,.bool d,g.v,iV f]] w (rd w0 mu rs out):=by
 exact en func136 rfl ntmps136 fun Q j=>vx
instance:CL prog 136 (type_of% @Dk):=⟨@Dk⟩
theorem Ck {h:LI} {i:Int} {j:Hdr} {out:LI×Int} (c:m_k5 h i=some out) (x:imm Zt j.v h∈mu) (a:St w0 mu rs w):
  Calls prog 228 #[j.v,.int .u32 i] w (fun e w=>∃ (k:Hdr),e=.returned (.tuple #[k.v,.int .u32 out.2])∧St w0 (imm Zt k.v out.1::mu) rs w):=by
 refine en func228 rfl ntmps228 fun Q p=>?_
 refine z 1 0 ?_
 refine bE c fun A r c=>yh (rMk a Y2 e0 r) fun l w a=>?_
 refine z 1 5 ?_
 obtain ⟨⟨m,n⟩,s,c⟩:=bs c
 refine lp s [0,1,6] (fun (b,d,f)=>[(7,.int .u64 d),(8,iV f)]) (fun (b,d,f)=>St w0 mu (row 108 Zt l.v b::rs)) (fun | (m,n)=>(.exit 0,[(7,.int .u64 n)],St w0 mu (row 108 Zt l.v m::rs))) rfl a rfl ?_ ?_
 ·clear a
  intro g w a
  refine z 1 7 ?_;intro B C c D w a
  cases c
  exact p _ _ _ (M3 results228 ⟨rfl,rfl⟩ ⟨rfl,rfl⟩ ⟨_,rfl,(a.facts (U0 F0 (M0 (M0 M1))))⟩)
 rintro ⟨b,d,f⟩ g w E a c
 refine q 7 rfl (cI c (fun t c=>?_) fun t c=>?_)
 ·refine z 3 1 ?_;intro F G c u H c
  refine bE c fun I o c=>y (yIs Y2 e0 e0 a rO0 o) (yt (V1 (cs:=[.int .u32 (wc .u32 u)]) a N4 rfl e0 e0 rfl mkI o) fun w a=>?_)
  refine z 1 9 ?_;intro J K c
  cases c
  exact lo a
 ·refine q 2 rfl ?_
  cases c
  exact xo a
instance:CL prog 228 (type_of% @Ck):=⟨@Ck⟩
theorem Bk {b out:Int} (c:m_k6 b=some out) (a:St w0 mu rs w):
  Calls prog 229 #[.int .u32 b] w (rv w0 mu rs (iV out)):=by
 exact en func229 rfl ntmps229 fun Q d=>vx
instance:CL prog 229 (type_of% @Bk):=⟨@Bk⟩
theorem Ak {h:LI} {D E:Int} {F:LI} {b G:Hdr} {out:LI×Int} (c:m_la h D E F=some out) (f:imm Zt G.v F∈mu) (a:St w0 mu (row 108 Zt b.v h::rs) w):
  Calls prog 230 #[(subH b 1 D E).v,G.v] w (fun e w=>e=.returned (.int .u32 out.2)∧St w0 mu (row 108 Zt b.v out.1::rs) w):=by
 refine en func230 rfl ntmps230 fun Q b7=>?_
 refine z 1 4 ?_
 refine bE c fun a1 H c=>bE c fun a2 I c=>dS [13] 1 V0 ?_
 replace a:=a.drew
 refine D1 8191 0 13 rfl (qR 2 rfl (rQ rfl (K9 Y2 e0 e0 a rO0 H) (rQ rfl (yI N4 e0 a rO0 (X9 H)) (qR 5 rfl (rQ rfl (K9 Y2 e0 e0 a rO0 I) (rQ rfl (yI N4 e0 a rO0 (X9 I)) (qR 2 rfl (Rn QSn (Ly wn (a_ (.int .u64 (wor .u64 (wslc .u64 (wc .u64 a1) 32) (wc .u64 a2))) e0) (dU ?_))))))))))
 refine z 1 2 ?_
 refine bE c fun b8 J c=>bE c fun a3 a4 c=>bE c fun b9 i c=>bE c fun a5 K c=>dS [16,17] 2 V0 ?_
 replace a:=a.drew
 refine D1 65535 0 16 rfl (qR 4 rfl (rQ rfl (yIa Y2 e0 e0 a (rdI f) J) (rQ rfl (yI N4 e0 a (rdI f) J) (qR 1 rfl (rQ rfl (cg e0 e0 a4) (qR 4 rfl (rQ rfl (yIa Y2 e0 e0 a (rdI f) i) (rQ rfl (yI N4 e0 a (rdI f) i) (qR 1 rfl (rQ rfl (Ad e0 e0 K) (Rn QSn (Ly wn (a_ (.int .u64 a3) e0) (dU ?_)))))))))))))
 refine D1 0 65280 17 rfl (Rn (qS rfl (qS rfl (qS rfl (qS rfl (sY rfl (yIa Y2 e0 e0 a (rdI f) i) (sY rfl (yI N4 e0 a (rdI f) i) (qS rfl (sY rfl (Ad e0 e0 K) QSn)))))))) (Ly wn (a_ (.int .u64 a5) e0) (dU ?_)))
 refine z 1 3 ?_
 refine bE c fun m a6 c=>?_
 refine lp a6 [0,1,5] (fun (n,o)=>[(7,.int .u64 n),(8,.int .u64 o)]) (fun (n,o)=>St w0 mu (row 108 Zt b.v h::rs)) (fun | m=>(.exit 0,[(7,.int .u64 m)],St w0 mu (row 108 Zt b.v h::rs))) rfl a rfl ?_ ?_
 ·clear a
  intro g w a
  refine z 1 4 ?_
  obtain ⟨⟨L,p,r⟩,a7,c⟩:=bs c
  refine lp a7 [0,1,5,7,84,85] (fun (s,j,k,t)=>[(9,.int .u64 j),(10,.int .u64 k),(86,iV t)]) (fun (s,j,k,t)=>St w0 mu (row 108 Zt b.v s::rs)) (fun | (L,p,r)=>(.exit 2,[(9,.int .u64 p),(10,.int .u64 r)],St w0 mu (row 108 Zt b.v L::rs))) rfl a rfl ?_ ?_
  ·clear a
   intro g w a
   refine bE c fun a8 N c=>q 6 rfl (y (K9 Y2 e0 e0 a rO0 N) (y (yI N4 e0 a rO0 (X9 N)) (bE c fun c0 O c=>q 15 rfl (y (Ed Y2 e0 e0 a rO0 O) (yt (V1 (cs:=[.int .u32 (wc .u32 (wand .u64 (ws .u64 (ws .u64 (wc .u64 a8) p) r) 4294967295))]) a N4 rfl e0 e0 rfl mkI (te O)) fun w a=>?_)))))
   refine v 0 ?_
   refine ⟨vt,fun _ c=>?_⟩
   obtain ⟨⟨R,u⟩,a9,c⟩:=bs c
   refine lp a9 [0,5,7,140,141] (fun (x,l,A)=>[(9,.int .u64 l),(142,iV A)]) (fun (x,l,A)=>St w0 mu (row 108 Zt b.v x::rs)) (fun | (R,u)=>(.exit 4,[(9,.int .u64 u)],St w0 mu (row 108 Zt b.v R::rs))) rfl a rfl ?_ ?_
   ·clear a
    intro g w a
    exact bE c fun b0 S c=>q 6 rfl (y (K9 Y2 e0 e0 a rO0 S) (y (yI N4 e0 a rO0 (X9 S)) (bE c fun c1 T c=>q 3 rfl (y (Ed Y2 e0 e0 a rO0 T) (yt (V1 (cs:=[.int .u32 (wa .u32 b0 (wc .u32 u))]) a N4 rfl e0 e0 rfl mkI (te T)) fun w a=>vx)))))
   rintro ⟨x,l,A⟩ g w c2 a c
   refine v 0 ?_
   refine ⟨fun _ _ b1 _ c=>?_,vt⟩
   exact bE c fun b2 U c=>y (K9 Y2 e0 e0 a rO0 U) (y (yI N4 e0 a rO0 (X9 U)) (bE c fun c3 V c=>q 16 rfl (y (Ed Y2 e0 e0 a rO0 V) (yt (V1 (cs:=[.int .u32 (wc .u32 (wand .u64 (wa .u64 (wa .u64 (wc .u64 b2) (wc .u64 b1)) l) 4294967295))]) a N4 rfl e0 e0 rfl mkI (te V)) fun w a=>vx))))
  rintro ⟨s,j,k,t⟩ g w c4 a c
  refine v 0 ?_
  refine ⟨fun _ _ b3 _ c=>?_,vt⟩
  exact bE c fun b4 W c=>y (K9 Y2 e0 e0 a rO0 W) (y (yI N4 e0 a rO0 (X9 W)) (bE c fun c5 X c=>q 16 rfl (y (Ed Y2 e0 e0 a rO0 X) (yt (V1 (cs:=[.int .u32 (wc .u32 (wand .u64 (ws .u64 (ws .u64 (wc .u64 b4) (wand .u64 (wa .u64 (wm .u64 m (wc .u64 b3)) j) 4294967295)) k) 4294967295))]) a N4 rfl e0 e0 rfl mkI (te X)) fun w a=>vx))))
 rintro ⟨n,o⟩ g w c6 a c
 refine bE c fun B d c=>q 2 rfl ?_
 refine jN Unit [0,1,5,7,8] (fun _=>[(71,.bool B)]) (fun _=>St w0 mu (row 108 Zt b.v h::rs)) rfl ?_ ?_
 ·rcases Z4 d with ⟨C,d⟩ | ⟨C,d⟩
  ·have b5:=U2 d
   refine dS [] 0 V0 ?_
   replace a:=a.drew
   exact Dw 4194303 0 (qR 3 rfl (rK 52 rfl (dT C) (qR 18 rfl (rQ rfl (pt_ (.bool B) e0 rfl (eqv b5 rfl)) (Rn QSn (jr () a))))))
  ·refine bE d fun c7 Z d=>bE d fun c8 a0 d=>?_
   have b6:=U2 d
   refine dS [] 0 V0 ?_
   replace a:=a.drew
   exact Dw 4194303 0 (qR 3 rfl (rK 52 rfl (dF C) (qR 4 rfl (rQ rfl (yIa Y2 e0 e0 a (rdI f) Z) (rQ rfl (yI N4 e0 a (rdI f) Z) (qR 7 rfl (rQ rfl (K9 Y2 e0 e0 a rO0 a0) (rQ rfl (yI N4 e0 a rO0 (X9 a0)) (qR 3 rfl (rQ rfl (pf_ (.bool B) e0 rfl (eqv b6 e0)) (Rn QSn (jr () a))))))))))))
 rintro _ g w a
 exact vx
instance:CL prog 230 (type_of% @Ak):=⟨@Ak⟩
theorem zk {j k:LI} {m o:Hdr} {out:LI×LI} (c:m_lc j k=some out) (O:imm Zt m.v j∈mu) (R:imm Zt o.v k∈mu) (a:St w0 mu rs w):
  Calls prog 216 #[m.v,o.v] w (fun e w=>∃ (p r:Hdr),e=.returned (.tuple #[p.v,r.v])∧St w0 (imm Zt p.v out.1::imm Zt r.v out.2::mu) rs w):=by
 refine en func216 rfl ntmps216 fun Q b=>?_
 refine z 1 3 ?_;intro S T c w a
 refine cI c (fun C c=>?_) fun C c=>?_
 ·refine z 1 6 ?_;intro U V c W w a
  cases c
  replace a:=(a.immNh Zt).fz
  exact b _ _ _ (M3 results216 ⟨rfl,rfl⟩ ⟨rfl,rfl⟩ ⟨_,_,rfl,(a.facts (U0 F1 (U0 F0 (M0 (M0 M1)))))⟩)
 ·refine z 1 3 ?_
  refine cI c (fun D c=>?_) fun D c=>?_
  ·refine z 3 11 ?_;intro X Z c d a0 c a1 w a
   refine yh (rLt (n:=1) (l:=[d.2]) a Y2 [.int .u32 d.2] (bp1 e0) rfl rfl (J1 (cs:=[.int .u32 d.2]) rfl mkI L1)) fun a2 w a=>?_
   refine z 1 6 ?_;intro a3 a4 c a5 w a
   cases c
   exact b _ _ _ (M3 results216 ⟨rfl,rfl⟩ ⟨rfl,rfl⟩ ⟨_,_,rfl,(a.facts (U0 F2 (U0 F0 (M0 (M0 (M0 M1))))))⟩)
  ·refine z 6 1 ?_;intro a6 a7 c a8 a9 c w a E b0 c F w a
   refine bE c fun b1 G c=>yh (rMk a Y2 e0 G) fun s w a=>?_
   refine z 1 0 ?_;intro b2 b3 c b4 w a
   refine bE c fun b5 H c=>YV wn rfl (rCp a Y2 rfl e0 (.inr ⟨rfl,rfl,rfl⟩) e0 (rdI F0) H) fun w a=>nf ?_
   refine z 2 2 ?_
   refine bE c fun b6 I c=>yh (rMk a Y2 e0 I) fun t w a=>?_
   refine z 1 5 ?_
   obtain ⟨⟨u,x⟩,J,c⟩:=bs c
   refine lp J [4,8,9,10,11] (fun (f,h,i)=>[(12,iV i)]) (fun (f,h,i)=>St w0 (imm Zt F.v E::mu) (row 108 Zt t.v f::row 108 Zt s.v h::rs)) (fun | (u,x)=>(.exit 0,[],St w0 mu (row 108 Zt t.v u::row 108 Zt s.v x::rs))) rfl (a.facts (U0 F1 (M0 (M0 M1)))) rfl ?_ ?_
   ·clear a
    intro g w a
    refine bE c fun b7 A c=>q 6 rfl ?_
    replace a:=(a.k10).fz
    refine y (ySl (k1:=.i64) Y2 e0 a (rdI F0) (.inr ⟨rfl,rfl⟩) (.inl (S0 some e0)) A) ?_
    replace a:=a.sub F0 A
    refine z 3 6 ?_;intro b8 b9 c c0 w a c1 c2 c c3 w a c4 c5 c c7 w a
    cases c
    exact b _ _ _ (M3 results216 ⟨rfl,rfl⟩ ⟨rfl,rfl⟩ ⟨_,_,rfl,(a.facts (U0 F0 (U0 F2 (M0 (M0 (M0 (M0 (M0 (M0 M1)))))))))⟩)
   rintro ⟨f,h,i⟩ g w c8 a c
   refine q 7 rfl (cI c (fun K c=>?_) fun K c=>?_)
   ·refine q 13 rfl (bE c fun d0 L c=>y (ySl Y2 e0 a rO1 (.inl (S0 some e0)) (.inl (S0 some e0)) L) ?_)
    refine z 1 0 ?_;intro N d1 c w a
    refine bE c fun d2 B c=>y (yIs Y2 e0 e0 a rO1 B) ?_
    replace a:=a.k10
    refine yt (V1 (cs:=[.int .u32 N.2]) a N4 rfl e0 e0 rfl mkI B) fun w a=>q 8 rfl ?_
    cases c
    exact lo a
   ·refine q 2 rfl ?_
    cases c
    exact xo (a.fc)
instance:CL prog 216 (type_of% @zk):=⟨@zk⟩
theorem yk {f:LI} {h:Hdr} {out:LI} (c:m_le f=some out) (l:imm Zt h.v f∈mu) (a:St w0 mu rs w):
  Calls prog 215 #[h.v] w (ri w0 mu rs Zt out):=by
 refine en func215 rfl ntmps215 fun Q j=>?_
 refine v 0 ?_
 refine ⟨fun _ c=>?_,fun _ _ _ _ _ _ _ _ _ _ _ _ c _ w a=>?_⟩
 ·cases c
  replace a:=a.immNh Zt
  exact j _ _ _ (X1 results215 ⟨rfl,rfl⟩ ⟨_,rfl,a⟩)
 ·refine bE c fun i k c=>?_
  refine lpN Hdr Hdr k [0] (fun d b=>[(3,b.v)]) (fun d b=>St w0 (imm Zt b.v d::mu) rs) (fun | i,e=>(.ret,[(2,e.v)],St w0 (imm Zt e.v i::mu) rs)) rfl _ (a.facts (U0 F0 (M0 (M0 M1)))) rfl ?_ ?_
  ·clear a
   rintro e g w a
   exact vx
  rintro d b g w m a c
  exact vx
instance:CL prog 215 (type_of% @yk):=⟨@yk⟩
theorem xk {b:Bool} {d:LI} {f:Hdr} {out:Bool×LI×Int} (c:m_lf b d=some out) (i:imm Zt f.v d∈mu) (a:St w0 mu rs w):
  Calls prog 189 #[.agg #[.bool b,f.v]] w (fun e w=>∃ (g:Hdr),e=.returned (.tuple #[.agg #[.bool out.1,g.v],iV out.2.2])∧St w0 (imm Zt g.v out.2.1::mu) rs w):=by
 refine en func189 rfl ntmps189 fun Q h=>?_
 refine v 0 ?_
 refine fun _ _ _ _ _ _ _ _ _ _ a=>⟨fun _ c _ a=>?_,vt⟩
 cases c
 replace a:=a.immNh Zt
 exact h _ _ _ (M3 results189 (V2 rfl rfl a R0 Q1 rfl) ⟨rfl,rfl⟩ ⟨_,rfl,(a.k19)⟩)
instance:CL prog 189 (type_of% @xk):=⟨@xk⟩
theorem wk {b:Bool} {d:LI} {e:Bool} {f:LI} {g h:Hdr} {out:Int} (c:m_lg b d e f=some out) (i:imm Zt g.v d∈mu) (j:imm Zt h.v f∈mu) (a:St w0 mu rs w):
  Calls prog 190 #[.agg #[.bool b,g.v],.agg #[.bool e,h.v]] w (rv w0 mu rs (iV out)):=by
 exact en func190 rfl ntmps190 fun Q k=>vx
instance:CL prog 190 (type_of% @wk):=⟨@wk⟩
theorem vk {b d:Bool} {f:LI} {g h:Int} {i:Hdr} {out:Bool×Bool×LI×Int×Bool} (c:m_li b d f g h=some out) (k:imm Zt i.v f∈mu) (a:St w0 mu rs w):
  Calls prog 138 #[.agg #[.bool b,.bool d,i.v,iV g],iV h] w (fun e w=>∃ (j:Hdr),e=.returned (.agg #[.bool out.1,.bool out.2.1,j.v,iV out.2.2.2.1,.bool out.2.2.2.2])∧St w0 (imm Zt j.v out.2.2.1::mu) rs w):=by
 exact en func138 rfl ntmps138 fun Q l=>vx
instance:CL prog 138 (type_of% @vk):=⟨@vk⟩
theorem uk {b d:Bool} {e:LI} {f:Int} {g:Bool} {h:Hdr} {out:Int} (c:m_lj b d e f g=some out) (i:imm Zt h.v e∈mu) (a:St w0 mu rs w):
  Calls prog 183 #[.agg #[.bool b,.bool d,h.v,iV f,.bool g]] w (rv w0 mu rs (iV out)):=by
 exact en func183 rfl ntmps183 fun Q j=>vx
instance:CL prog 183 (type_of% @uk):=⟨@uk⟩
theorem tk {b:Bool} {d:LI} {e:Bool} {f:LI} {g h:Hdr} {out:Bool×LI} (c:m_lk b d e f=some out) (i:imm Zt g.v d∈mu) (j:imm Zt h.v f∈mu) (a:St w0 mu rs w):
  Calls prog 227 #[.agg #[.bool b,g.v],.agg #[.bool e,h.v]] w (rb w0 mu rs out):=by
 exact en func227 rfl ntmps227 fun Q k=>vx
instance:CL prog 227 (type_of% @tk):=⟨@tk⟩
theorem sk {m n:Bool} {B:LI} {o:Int} {f:Bool} {C:Int} {p:Hdr} {out:Bool×LI×Int×Bool} (c:m_lm m n B o f C=some out) (J:imm Zt p.v B∈mu) (a:St w0 mu rs w):
  Calls prog 214 #[.agg #[.bool m,.bool n,p.v,iV o,.bool f],iV C] w (fun e w=>∃ (D:Hdr),e=.returned (.tuple #[.agg #[.bool out.1,D.v],iV out.2.2.1,.bool out.2.2.2])∧St w0 (imm Zt D.v out.2.1::mu) rs w):=by
 refine en func214 rfl ntmps214 fun Q E=>?_
 refine z 4 11 ?_;intro t w a s w a K L c w a
 refine cI c (fun G c=>?_) fun G c=>?_
 ·refine z 2 6 ?_;intro w a
  cases c
  replace a:=a.immNh Zt
  exact E _ _ _ (aa results214 (V2 rfl rfl a R0 Q1 rfl) ⟨rfl,rfl⟩ ⟨rfl,rfl⟩ ⟨_,rfl,(a.k19)⟩)
 ·refine z 3 3 ?_;intro b N c d w a w a
  refine bE c fun O R c=>bE c fun j S c=>?_
  refine jN (Nat×Hdr) [1,2,4] (fun (k,i)=>[(8,(pB k))]) (fun (k,i)=>St w0 (imm Zt d.v b.2::imm Zt i.v j.2::mu) (box t 183 [.bool m,.bool n,p.v,iV o,.bool f]::box s 63 [.bool b.1,d.v]::box k 63 [.bool j.1,i.v]::rs)) rfl ?_ ?_
  ·refine dS [4,5,6,7] 4 V0 ?_
   replace a:=a.drew
   exact zx
  rintro ⟨k,i⟩ g w a
  refine bE c fun T U c=>bE c fun V W c=>bE c fun H X c=>q 2 rfl (dS [1,4,5,6] 4 V0 ?_)
  replace a:=a.drew
  refine z 6 7 ?_;intro Z w a a0 w a w a
  refine jW 3 [2,4,5,8] [(37,.bool ((decide (H=0)) && f))] (St w0 (imm Zt d.v b.2::imm Zt i.v j.2::mu) (box t 183 [.bool m,.bool n,p.v,iV o,.bool f]::box s 63 [.bool b.1,d.v]::box k 63 [.bool j.1,i.v]::rs)) rfl (fun F=>?_) ?_
  ·refine gB 34 rfl (fun u=>?_) fun u=>?_
   ·refine z 1 1 ?_
    exact F _ _ (a.facts (U0 F2 (U0 F3 (M0 (M0 (M0 (M0 M1))))))) (Z0 (S0 Value.bool (j5 u)) rfl)
   ·exact q 3 rfl (F _ _ (a.facts (U0 F2 (U0 F3 (M0 (M0 (M0 (M0 M1))))))) (Z0 (S0 Value.bool (m5 u)) rfl))
  intro g w a
  refine q 2 rfl ?_
  refine jC Int [2,4,8] (fun l=>[(5,iV l)]) (fun l w=>St w0 (imm Zt d.v b.2::imm Zt i.v j.2::mu) (box t 183 [.bool m,.bool n,p.v,iV o,.bool f]::box s 63 [.bool b.1,d.v]::box k 63 [.bool j.1,i.v]::rs) w∧m_ll j f b l=some out) rfl ?_ ?_
  ·rintro l g w ⟨a,c⟩
   refine bE c fun a1 a2 c=>bE c fun h r c=>q 2 rfl ?_
   refine jN Unit [4,5] (fun _=>[(6,.bool h)]) (fun _=>St w0 (imm Zt d.v b.2::mu) (box s 63 [.bool b.1,d.v]::rs)) rfl ?_ ?_
   ·rcases Z4 r with ⟨x,r⟩ | ⟨x,r⟩
    ·have y:=U2 r
     refine dS [3,10,11,12] 4 V0 ?_
     replace a:=a.drew
     refine z 3 0 ?_;intro w a
     refine dU (D0 1008 3 10 rfl (qR 2 rfl (rK 43 rfl (dT x) (qR 1 rfl (rQ rfl (lb_ (.bool f) O_4 e0 a R0) (qR 1 rfl (rQ rfl (pt_ (.bool h) e0 rfl (eqv y e0)) (Rn (sY rfl (A1 [.bool b.1,d.v] Q1 e0 a R1) (qS rfl QSn)) ?_))))))))
     replace a:=a.k10
     exact LT wn (w5 (ru:=[.bool b.1,d.v]) (us:=[.bool b.1,d.v]) a Q1 e0 e0 rfl rfl (A5 rfl) rfl) fun w a=>D1 0 962 11 rfl (Rn (qS rfl (qS rfl (sY rfl (lb_ (.bool f) O_4 e0 a R1) (qS rfl (sY rfl (pt_ (.bool h) e0 rfl (eqv y e0)) QSn))))) (Ly wn (a_ (iV l) e0) (dU (D1 0 960 12 rfl (Rn (qS rfl (sY rfl (lb_ (.bool f) O_4 e0 a R1) (qS rfl (sY rfl (pt_ (.bool h) e0 rfl (eqv y e0)) QSn)))) (Ly wn (a_ (.bool h) e0) (dU (Dw 0 0 (Rn QSn (jr () ((a.k1l).facts (U0 F0 (M0 (M0 M1))))))))))))))
    ·have A:=U2 r
     refine dS [3,10,11,12] 4 V0 ?_
     replace a:=a.drew
     refine z 3 0 ?_;intro w a
     refine dU (D0 1008 3 10 rfl (qR 2 rfl (rK 43 rfl (dF x) (qR 3 rfl (rQ rfl (pf_ (.bool h) e0 rfl (eqv A rfl)) (Rn (sY rfl (A1 [.bool b.1,d.v] Q1 e0 a R1) (qS rfl QSn)) ?_))))))
     replace a:=a.k10
     exact LT wn (w5 (ru:=[.bool b.1,d.v]) (us:=[.bool b.1,d.v]) a Q1 e0 e0 rfl rfl (A5 rfl) rfl) fun w a=>D1 0 962 11 rfl (Rn (qS rfl (qS rfl (qS rfl (qS rfl (sY rfl (pf_ (.bool h) e0 rfl (eqv A rfl)) QSn))))) (Ly wn (a_ (iV l) e0) (dU (D1 0 960 12 rfl (Rn (qS rfl (qS rfl (qS rfl (sY rfl (pf_ (.bool h) e0 rfl (eqv A rfl)) QSn)))) (Ly wn (a_ (.bool h) e0) (dU (Dw 0 0 (Rn QSn (jr () ((a.k1l).facts (U0 F0 (M0 (M0 M1))))))))))))))
   rintro _ g w a
   refine q 2 rfl ?_
   cases c
   exact E _ _ _ (aa results214 (V2 rfl rfl a R0 Q1 rfl) ⟨rfl,rfl⟩ ⟨rfl,rfl⟩ ⟨_,rfl,(a.k14)⟩)
  refine cJ c (fun I c=>?_) fun I c=>?_
  ·exact q 3 rfl (jx _ ⟨a,c⟩)
  ·exact q 1 rfl (jx _ ⟨a,c⟩)
instance:CL prog 214 (type_of% @sk):=⟨@sk⟩
theorem rk {b h:Bool} {p:LI} {i:Int} {j:Bool} {r o:Int} {k:Hdr} {out:Bool×LI} (c:m_lu b h p i j r o=some out) (x:imm Zt k.v p∈mu) (y:globF∈mu) (a:St w0 mu rs w):
  Calls prog 186 #[.agg #[.bool b,.bool h,k.v,iV i,.bool j],iV r,iV o] w (rb w0 mu rs out):=by
 refine en func186 rfl ntmps186 fun Q A=>?_
 refine z 6 3 ?_;intro s w a t w a u w a w a
 refine jC (Bool×LI×Int×Bool×Hdr) [2,3,6,7] (fun (d,e,l,m,f)=>[(8,iV l),(9,.bool m)]) (fun (d,e,l,m,f) w=>St w0 (imm Zt f.v e::mu) (box s 183 [.bool b,.bool h,k.v,iV i,.bool j]::box t 63 [.bool false,hnil.v]::box u 63 [.bool d,f.v]::rs) w∧m_lt b o d e l m=some out) rfl ?_ ?_
 ·rintro ⟨d,e,l,m,f⟩ g w ⟨a,c⟩
  refine q 14 rfl ?_
  refine jC Bool [3,6,7] (fun n=>[(10,.bool n)]) (fun n w=>St w0 (imm Zt f.v e::mu) (box s 183 [.bool b,.bool h,k.v,iV i,.bool j]::box t 63 [.bool false,hnil.v]::box u 63 [.bool d,f.v]::rs) w∧m_lp d e b n=some out) rfl ?_ ?_
  ·rintro n g w ⟨a,c⟩
   exact vx
  exact vx
 exact vx
instance:CL prog 186 (type_of% @rk):=⟨@rk⟩
theorem D5 {b:Bool} {d:LI} {e:Hdr} {out:Bool×LI} (c:m_lv b d=some out) (f:imm Zt e.v d∈mu) (a:St w0 mu rs w):
  Calls prog 185 #[.agg #[.bool b,e.v]] w (rb w0 mu rs out):=by
 exact en func185 rfl ntmps185 fun Q g=>vx
instance:CL prog 185 (type_of% @D5):=⟨@D5⟩
theorem qk {b:Bool} {k:LI} {d:Hdr} {out:Int×Bool} (c:m_lx b k=some out) (p:imm Zt d.v k∈mu) (a:St w0 mu rs w):
  Calls prog 184 #[.agg #[.bool b,d.v]] w (rv w0 mu rs (.tuple #[iV out.1,.bool out.2])):=by
 refine en func184 rfl ntmps184 fun Q r=>?_
 refine v 0 ?_
 refine fun e _ _ m _ _ n w a=>⟨vt,fun _ c=>?_⟩
 refine bE c fun f o c=>?_
 refine lp o [1,14,15] (fun (h,i)=>[(5,.int .u64 h),(16,iV i)]) (fun (h,i)=>St w0 (imm Zt n.v m::mu) (box e 63 [.bool b,d.v]::rs)) (fun | f=>(.exit 0,[(5,.int .u64 f)],St w0 mu (box e 63 [.bool b,d.v]::rs))) rfl a rfl ?_ ?_
 ·clear a
  intro g w a
  refine z 1 1 ?_
  refine jW 3 [1,5] [(35,.bool (b && (decide ((0:Int) < f))))] (St w0 mu (box e 63 [.bool b,d.v]::rs)) rfl (fun l=>?_) ?_
  ·refine gB 32 rfl (fun j=>?_) fun j=>?_
   ·exact q 3 rfl (l _ _ a (Z0 (S0 Value.bool (j5 j)) rfl))
   ·exact q 3 rfl (l _ _ a (Z0 (S0 Value.bool (m5 j)) rfl))
  intro g w a
  exact vx
 rintro ⟨h,i⟩ g w s a c
 exact vx
instance:CL prog 184 (type_of% @qk):=⟨@qk⟩
theorem nk {b:Int} {d:Bool} {out:Int} (c:m_ly b d=some out) (a:St w0 mu rs w):
  Calls prog 187 #[.int .u64 b,.bool d] w (rv w0 mu rs (.int .u64 out)):=by
 exact en func187 rfl ntmps187 fun Q e=>vx
instance:CL prog 187 (type_of% @nk):=⟨@nk⟩
theorem jk {d:Bool} {b out:Int} (c:m_lz d b=some out) (a:St w0 mu rs w):
  Calls prog 188 #[.bool d,iV b] w (rv w0 mu rs (.int .u64 out)):=by
 refine en func188 rfl ntmps188 fun Q n=>q 11 rfl ?_
 refine jW 7 [0,1] [(14,.bool ((decide (b=3)) || ((decide (b=1)) && (!d))))] (St w0 mu rs) rfl (fun j=>?_) ?_
 ·refine gB 7 rfl (fun e=>?_) fun e=>?_
  ·exact q 7 rfl (j _ _ a (Z0 (S0 Value.bool (orT e)) rfl))
  ·refine q 3 rfl ?_
   refine jW 3 [0,1,7] [(13,.bool ((decide (b=1)) && (!d)))] (St w0 mu rs) rfl (fun k=>?_) ?_
   ·refine gB 10 rfl (fun f=>?_) fun f=>?_
    ·exact q 3 rfl (k _ _ a (Z0 (S0 Value.bool (j5 f)) rfl))
    ·exact q 3 rfl (k _ _ a (Z0 (S0 Value.bool (m5 f)) rfl))
   intro g w a
   exact q 1 rfl (j _ _ a (Z0 (S0 Value.bool (orF e)) rfl))
 intro g w a
 refine q 1 rfl ?_
 refine jW 6 [0] [(21,.bool (((decide (b=3)) || ((decide (b=1)) && (!d))) || ((decide (b=2)) && d)))] (St w0 mu rs) rfl (fun l=>?_) ?_
 ·refine gB 15 rfl (fun h=>?_) fun h=>?_
  ·exact q 6 rfl (l _ _ a (Z0 (S0 Value.bool (orT h)) rfl))
  ·refine q 3 rfl ?_
   refine jW 2 [0,15] [(20,.bool ((decide (b=2)) && d))] (St w0 mu rs) rfl (fun m=>?_) ?_
   ·refine gB 18 rfl (fun i=>?_) fun i=>?_
    ·exact q 2 rfl (m _ _ a (Z0 (S0 Value.bool (j5 i)) rfl))
    ·exact q 2 rfl (m _ _ a (Z0 (S0 Value.bool (m5 i)) rfl))
   intro g w a
   exact q 1 rfl (l _ _ a (Z0 (S0 Value.bool (orF h)) rfl))
 intro g w a
 exact vx
instance:CL prog 188 (type_of% @jk):=⟨@jk⟩
theorem sb {p:Prop}(h:p:=by
  replace a:=a.k10
  exact LT wn (w5 (ru:=[.bool b.2.2.1,f.v]) (us:=[.bool b.2.2.1,f.v]) a Q1 e0 e0 rfl rfl (A5 rfl) rfl) fun w a=>D1 0 4096 17 rfl (Rn (qS rfl QSn) (Ly wn (a_ (iV b.2.2.2.2) e0) (dU (Dw 0 0 (Rn QSn (jr (_,_,_,_) ((a.k2g).facts (U0 F0 (U0 F1 (M0 (M0 (M0 (M0 (M0 M1))))))))))))))):p:=h
theorem ba {p:Prop}(h:p:=by
  refine LT wn (w5 (ru:=[.bool b.1,d.v]) (us:=[.bool b.1,d.v]) a Q1 e0 e0 rfl rfl (A5 rfl) rfl) fun w a=>D0 0 6144 16 rfl (Rn (qS rfl (qS rfl QSn)) ?_)
  exact sb):p:=h
theorem Pq {p:Prop}(h:p:=by
  obtain ⟨s,b⟩:=V5 (u:=some j) k (a.mfL (mtR (mtR (mtR (mtR (mtR mhR))))))
  refine rQ rfl (yIs I5 e0 e0 a rO4 b) (Rn (qS rfl (qS rfl QSn)) ?_)
  replace a:=a.k1o
  refine LT wn (V1 (cs:=[.map (some j)]) a k7 rfl e0 e0 rfl (mkF rfl) b) fun w a=>?_
  replace a:=(a.k2j).mfput b k
  exact Dw 0 0 (Rn QSn (jr (_,_) ((a.k2k).fc)))):p:=h
theorem nb {p:Prop}(h:p:=by
  refine LT wn (Be (cs:=[.bool f.1,.bool f.2.1,r.v,iV f.2.2.2]) a I8 e0 e0 e0 (mkP mkB (mkP mkB (mkP (mkS F0) mkI)))) fun w a=>D0 131072 263167 19 rfl (qR 1 rfl (Rn (qS rfl (qS rfl (qS rfl (sY rfl (lb_ h.v C4 e0 a R7) (qS rfl (qS rfl (qS rfl (qS rfl (sY rfl (lb_ i.v U3 e0 a R7) (qS rfl (sY rfl (yIs J5 e0 e0 a rO3 d) QSn))))))))))) ?_))
  replace a:=a.k1d
  refine LT wn (V1 (cs:=[m.v]) a T3 rfl e0 e0 rfl (mkF rfl) d) fun w a=>?_
  replace a:=(a.k2i).fput d o
  refine D0 1048576 131584 21 rfl ?_
  exact Pq):p:=h
theorem Oq {p:Prop}(h:p:=by
  obtain ⟨s,b⟩:=V5 (u:=some j) k (a.mfL (mtR (mtR (mtR (mtR (mtR mhR))))))
  refine rQ rfl (yIs I5 e0 e0 a rO4 b) (Rn (qS rfl QSn) ?_)
  replace a:=a.k1o
  refine LT wn (V1 (cs:=[.map (some j)]) a k7 rfl e0 e0 rfl (mkF rfl) b) fun w a=>?_
  replace a:=(a.k2l).mfput b k
  exact Dw 0 0 (Rn QSn (jr (_,_) ((a.k2k).fc)))):p:=h
theorem ir {p:Prop}(h:p:=by
  refine D0 0 8704 16 rfl (Rn (qS rfl (qS rfl QSn)) ?_)
  replace a:=a.k16
  refine LT wn (Be (cs:=[.bool f.1,.bool f.2.1,r.v,iV f.2.2.2]) a I8 e0 e0 e0 (mkP mkB (mkP mkB (mkP (mkS F0) mkI)))) fun w a=>D0 1179648 512 21 rfl (qR 1 rfl ?_)
  exact Oq):p:=h
theorem ff {p:Prop}(h:p:=by
  refine kT_ (W6 j F1 F0 a) fun d f w a=>dU (D1 7680 0 13 rfl (qR 4 rfl (Rn QSn (LB wn (rAl a L4) fun m w a=>dU (D0 0 7680 15 rfl (Rn (qS rfl (qS rfl (qS rfl (qS rfl QSn)))) (LT wn (w5 (ru:=[.bool b.1,d.v]) (us:=[.bool b.1,d.v]) a Q1 e0 e0 rfl rfl (A5 rfl) rfl) fun w a=>D0 0 6144 16 rfl (Rn (qS rfl (qS rfl QSn)) ?_))))))))
  exact sb):p:=h
theorem ef {p:Prop}(h:p:=by
  refine LB wn (rAl a L4) fun m w a=>dU (D1 0 0 8 rfl (Rn QSn (kT_ (W6 j F1 F0 a) fun d f w a=>dU (D0 7680 0 15 rfl (qR 4 rfl (Rn QSn (LT wn (w5 (ru:=[.bool b.1,d.v]) (us:=[.bool b.1,d.v]) a Q1 e0 e0 rfl rfl (A5 rfl) rfl) fun w a=>D0 0 6144 16 rfl (Rn (qS rfl (qS rfl QSn)) ?_))))))))
  exact sb):p:=h
theorem df {p:Prop}(h:p:=by
  refine kT_ (W6 j F1 F0 a) fun d f w a=>dU (D1 7680 0 14 rfl (qR 4 rfl (Rn QSn (LB wn (rAl a L4) fun n w a=>dU (D0 0 7680 15 rfl (Rn (qS rfl (qS rfl (qS rfl (qS rfl QSn)))) ?_))))))
  replace a:=a.k10
  exact ba):p:=h
theorem zi {p:Prop}(h:p:=by
  refine LB wn (rAl a L4) fun n w a=>dU (D1 0 96 7 rfl (Rn (qS rfl (sY rfl (A1 [.bool h,i.v] Q1 e0 a R3) QSn)) (kO (D5 l (F_2 k) a) fun o w a=>dU (D1 0 0 8 rfl (Rn QSn (kT_ (W6 j F1 F0 a) fun d f w a=>dU (D0 7680 0 15 rfl (qR 4 rfl (Rn QSn ?_)))))))))
  replace a:=a.k10
  exact ba):p:=h
theorem gr {p:Prop}(h:p:=by
  refine LB wn (rAl a L4) fun m w a=>dU (D1 0 104 4 rfl (Rn (qS rfl (qS rfl (sY rfl (A1 [.bool h,i.v] Q1 e0 a R3) QSn))) (kO (K7 s F0 a) fun y w a=>dU (D1 0 96 7 rfl (Rn (qS rfl (sY rfl (A1 [.bool h,i.v] Q1 e0 a R3) QSn)) (kO (D5 l (F_2 k) a) fun o w a=>dU (D1 0 0 8 rfl (Rn QSn (kT_ (W6 j F1 F0 a) fun d f w a=>?_)))))))))
  refine dU (D0 7680 0 15 rfl (qR 4 rfl (Rn QSn (LT wn (w5 (ru:=[.bool b.1,d.v]) (us:=[.bool b.1,d.v]) a Q1 e0 e0 rfl rfl (A5 rfl) rfl) fun w a=>D0 0 6144 16 rfl (Rn (qS rfl (qS rfl QSn)) ?_)))))
  exact sb):p:=h
theorem xi {p:Prop}(h:p:=by
  refine LB wn (rAl a L4) fun m w a=>dU (D1 0 96 7 rfl (Rn (qS rfl (sY rfl (A1 [.bool h,i.v] Q1 e0 a R3) QSn)) (kO (D5 l (F_2 k) a) fun o w a=>dU (D1 0 0 8 rfl (Rn QSn (kT_ (W6 j F1 F0 a) fun d f w a=>dU (D0 7680 0 15 rfl (qR 4 rfl (Rn QSn ?_)))))))))
  exact ba):p:=h
theorem cf {p:Prop}(h:p:=by
  refine LB wn (rAl a L4) fun n w a=>dU (D1 0 0 8 rfl (Rn QSn (kT_ (W6 j F1 F0 a) fun d f w a=>dU (D0 7680 0 15 rfl (qR 4 rfl (Rn QSn ?_))))))
  replace a:=a.k10
  exact ba):p:=h
theorem er {p:Prop}(h:p:=by
  replace a:=a.k16
  refine LT wn (V1 (cs:=[m.v]) a T3 rfl e0 e0 rfl (mkF rfl) d) fun w a=>?_
  replace a:=(a.k2m).fput d o
  refine D1 0 8704 12 rfl (Rn (qS rfl (qS rfl QSn)) (LG wn (rMm (ik:=.i64) (E:=(rP rB (rP rB (rP (rS Zt) I1)))) a) fun j w a=>dU (D0 0 8704 16 rfl (Rn (qS rfl (qS rfl QSn)) (LT wn (Be (cs:=[.bool f.1,.bool f.2.1,r.v,iV f.2.2.2]) a I8 e0 e0 e0 (mkP mkB (mkP mkB (mkP (mkS F0) mkI)))) fun w a=>D0 1179648 512 21 rfl (qR 1 rfl ?_))))))
  exact Oq):p:=h
theorem dr {p:Prop}(h:p:=by
  refine LB wn (rAl a L4) fun n w a=>dU (D1 0 104 4 rfl (Rn (qS rfl (qS rfl (sY rfl (A1 [.bool h,i.v] Q1 e0 a R3) QSn))) (kO (K7 s F0 a) fun y w a=>dU (D1 0 96 7 rfl (Rn (qS rfl (sY rfl (A1 [.bool h,i.v] Q1 e0 a R3) QSn)) (kO (D5 l (F_2 k) a) fun o w a=>dU (D1 0 0 8 rfl (Rn QSn (kT_ (W6 j F1 F0 a) fun d f w a=>?_)))))))))
  refine dU (D0 7680 0 15 rfl (qR 4 rfl (Rn QSn ?_)))
  replace a:=a.k10
  exact ba):p:=h
theorem uB {p:Prop}(h:p:=by
  refine rQ rfl (yIs J5 e0 e0 a rO3 d) (Rn (qS rfl (qS rfl (qS rfl (sY rfl (lb_ h.v C4 e0 a R7) (qS rfl (qS rfl (qS rfl (qS rfl (sY rfl (lb_ i.v U3 e0 a R7) (qS rfl (qS rfl QSn))))))))))) ?_)
  replace a:=a.k1d
  refine LT wn (V1 (cs:=[m.v]) a T3 rfl e0 e0 rfl (mkF rfl) d) fun w a=>?_
  replace a:=(a.k1g).fput d o
  refine D0 1048576 131584 21 rfl ?_
  exact Pq):p:=h
theorem br {p:Prop}(h:p:=by
  refine LT wn (Be (cs:=[.bool f.1,.bool f.2.1,r.v,iV f.2.2.2]) a I8 e0 e0 e0 (mkP mkB (mkP mkB (mkP (mkS F0) mkI)))) fun w a=>D1 131072 2047 11 rfl (qR 1 rfl (Rn (qS rfl (qS rfl (qS rfl (sY rfl (lb_ h.v C4 e0 a R6) (qS rfl (qS rfl (qS rfl (qS rfl (sY rfl (lb_ i.v U3 e0 a R6) (qS rfl (qS rfl QSn))))))))))) (LH wn (rLt (n:=1) (l:=[p]) a E2 [.int .u64 p] (bp1 e0) rfl rfl (J1 (cs:=[.int .u64 p]) rfl mkI L1)) fun m w a=>dU (D0 262144 132095 19 rfl ?_))))
  obtain ⟨J,d⟩:=V5 (u:=m) o (a.famL (mtR (mtR (mtR (mtR mhR)))))
  exact uB):p:=h
theorem wi {p:Prop}(h:p:=by
  replace a:=a.k1d
  refine LT wn (V1 (cs:=[m.v]) a T3 rfl e0 e0 rfl (mkF rfl) d) fun w a=>?_
  replace a:=(a.k2i).fput d o
  exact ir):p:=h
theorem vi {p:Prop}(h:p:=by
  replace a:=a.k1d
  refine LT wn (V1 (cs:=[m.v]) a T3 rfl e0 e0 rfl (mkF rfl) d) fun w a=>?_
  replace a:=(a.k1g).fput d o
  exact ir):p:=h
theorem ui {p:Prop}(h:p:=by
  cases c
  exact N _ _ _ (X1 results35 ⟨rfl,rfl⟩ ⟨_,_,rfl,a⟩)):p:=h
theorem Zq {p:Prop}(h:p:=by
  replace a:=a.k29
  refine sB rfl a P5 fun w a=>q 8 rfl ?_
  cases c
  exact lx ([],[]) ((a.k30).fc)):p:=h
theorem Yq {p:Prop}(h:p:=by
  refine q 7 rfl ?_
  cases c
  exact N _ _ _ (X1 results35 ⟨rfl,rfl⟩ ⟨_,_,rfl,((a.k2a).fc)⟩)):p:=h
theorem si {p:Prop}(h:p:=by
  refine q 2 rfl ?_
  cases c
  exact xo (a.k14)):p:=h
theorem gk {b f:Bool} {l:LI} {h:Int} {i:Bool} {j:Int} {k:Hdr} {out:Int} (c:m_l1 b f l h i j=some out) (n:imm Zt k.v l∈mu) (o:globF∈mu) (a:St w0 mu rs w):
  Calls prog 137 #[.agg #[.bool b,.bool f,k.v,iV h,.bool i],iV j] w (rv w0 mu rs (.int .u64 out)):=by
 refine en func137 rfl ntmps137 fun Q p=>?_
 refine z 7 21 ?_;intro m w a q r c w a s t c u w a x y c A w a B C c w a
 refine jC (Int×Int) [1,2] (fun (d,e)=>[(5,iV d),(8,.int .u64 e)]) (fun (d,e) w=>St w0 mu (box m 183 [.bool b,.bool f,k.v,iV h,.bool i]::rs) w∧m_l0 b j d e=some out) rfl ?_ ?_
 ·rintro ⟨d,e⟩ g w ⟨a,c⟩
  exact vx
 exact vx
instance:CL prog 137 (type_of% @gk):=⟨@gk⟩
theorem Cg {b d:Bool} {e:LI} {f g:Int} {h:Hdr} {out:Int} (c:m_l2 b d e f g=some out) (i:imm Zt h.v e∈mu) (j:globF∈mu) (a:St w0 mu rs w):
  Calls prog 76 #[.agg #[.bool b,.bool d,h.v,iV f],iV g] w (rv w0 mu rs (.int .u64 out)):=by
 exact en func76 rfl ntmps76 fun Q k=>vx
instance:CL prog 76 (type_of% @Cg):=⟨@Cg⟩
theorem Ag {b out:Int} (c:m_l3 b=some out) (a:St w0 mu rs w):
  Calls prog 77 #[.int .u64 b] w (rv w0 mu rs (iV out)):=by
 exact en func77 rfl ntmps77 fun Q d=>vx
instance:CL prog 77 (type_of% @Ag):=⟨@Ag⟩
theorem W6 {b:Bool} {o:LI} {d:Bool} {p:LI} {f h:Hdr} {out:Bool×LI×Bool×LI×Int} (c:m_l5 b o d p=some out) (H:imm Zt f.v o∈mu) (I:imm Zt h.v p∈mu) (a:St w0 mu rs w):
  Calls prog 191 #[.agg #[.bool b,f.v],.agg #[.bool d,h.v]] w (fun e w=>∃ (r s:Hdr),e=.returned (.tuple #[.agg #[.bool out.1,r.v],.agg #[.bool out.2.2.1,s.v],iV out.2.2.2.2])∧St w0 (imm Zt r.v out.2.1::imm Zt s.v out.2.2.2.1::mu) rs w):=by
 refine en func191 rfl ntmps191 fun Q C=>?_
 refine v 29 ?_
 refine fun t _ _ u _ _ x _ _ A _ _ D _ _ E w a=>⟨fun _ c _ _ _ a=>?_,fun _ _ _ _ _ _ _ _ m _ c F G w a=>?_⟩
 ·cases c
  replace a:=a.immNh Zt
  exact C _ _ _ (aa results191 (V2 rfl rfl a R1 Q1 rfl) (V2 rfl rfl a R0 Q1 rfl) ⟨rfl,rfl⟩ ⟨_,_,rfl,((a.k1a).facts (U0 F0 (U0 F0 (M0 (M0 M1)))))⟩)
 ·refine jW 4 [2,3,4,5,7,8,9] [(32,.bool (b && (decide ((0:Int) < (m.2.length:Int)))))] (St w0 (imm Zt E.v D::imm Zt F.v m.1::imm Zt G.v m.2::mu) (box t 63 [.bool b,f.v]::box u 63 [.bool d,h.v]::box x 63 [.bool false,hnil.v]::box A 63 [.bool false,hnil.v]::rs)) rfl (fun B=>?_) ?_
  ·refine gB 28 rfl (fun n=>?_) fun n=>?_
   ·refine z 1 2 ?_
    exact B _ _ ((a.k2f).facts (U0 F3 (U0 F0 (U0 F1 (M0 (M0 (M0 (M0 M1)))))))) (Z0 (S0 Value.bool (j5 n)) rfl)
   ·exact q 4 rfl (B _ _ ((a.k2f).facts (U0 F3 (U0 F0 (U0 F1 (M0 (M0 (M0 (M0 M1)))))))) (Z0 (S0 Value.bool (m5 n)) rfl))
  intro g w a
  refine q 2 rfl ?_
  refine jC (LI×LI×Hdr×Hdr) [2,3,4,5] (fun (i,j,k,l)=>[(8,k.v),(9,l.v)]) (fun (i,j,k,l) w=>St w0 (imm Zt k.v i::imm Zt l.v j::mu) (box t 63 [.bool b,f.v]::box u 63 [.bool d,h.v]::box x 63 [.bool false,hnil.v]::box A 63 [.bool false,hnil.v]::rs) w∧m_l4 b d i j=some out) rfl ?_ ?_
  ·rintro ⟨i,j,k,l⟩ g w ⟨a,c⟩
   refine z 2 0 ?_
   exact y (Cd H0 e0 e0) vx
  exact vx
instance:CL prog 191 (type_of% @W6):=⟨@W6⟩
theorem Ik {F p:Bool} {L:LI} {t:Int} {G h:Bool} {N:LI} {u z:Int} {r i:Hdr} {out:Bool×Bool×LI×Int×Bool} (c:m_l6 F p L t G h N u z=some out) (A:imm Zt r.v L∈mu) (k:imm Zt i.v N∈mu) (a:St w0 mu rs w):
  Calls prog 139 #[.agg #[.bool F,.bool p,r.v,iV t],.agg #[.bool G,.bool h,i.v,iV u],iV z] w (fun e w=>∃ (O:Hdr),e=.returned (.agg #[.bool out.1,.bool out.2.1,O.v,iV out.2.2.2.1,.bool out.2.2.2.2])∧St w0 (imm Zt O.v out.2.2.1::mu) rs w):=by
 refine en func139 rfl ntmps139 fun Q R=>q 2 rfl (yb (W5 (vals:=[.bool F,.bool p,r.v,iV t]) a e0 rfl) fun S w a=>yb (W5 (vals:=[.bool G,.bool h,i.v,iV u]) a e0 rfl) fun T w a=>yb (rAl a Js) fun U w a=>bE c fun B V c=>bE c fun C W c=>q 3 rfl (dS [4,8,11] 3 V0 ?_))
 replace a:=a.drew
 refine D1 207 0 4 rfl (qR 3 rfl (rQ rfl (A1 [.bool h,i.v] Q1 e0 a R1) (qR 1 rfl (rQ rfl (A1 [.bool p,r.v] Q1 e0 a R2) (Rn QSn (kZ (Sd V k a) fun w a=>dU (D1 32 195 8 rfl (qR 1 rfl (Rn (qS rfl (qS rfl (qS rfl (sY rfl (A1 [.bool p,r.v] Q1 e0 a R2) QSn)))) (kZ (Sd W A a) fun w a=>dU (D1 1536 35 11 rfl ?_)))))))))))
 refine qR 2 rfl (Rn (qS rfl (qS rfl (qS rfl QSn))) (Ly wn (a_ (iV (imax 0 (ws .i64 (wa .i64 (wa .i64 z 3) B) C))) e0) (dU (Dw 0 0 (Rn QSn (bE c fun Z D c=>bE c fun a0 s c=>bE c fun a1 l c=>bE c fun b j c=>qx 2 rfl ?_))))))
 refine jN (Nat×Hdr×Nat×Hdr) [3,4,6,7] (fun (H,x,I,E)=>[(8,(pB H)),(9,(pB I))]) (fun (H,x,I,E)=>St w0 (imm Zt x.v b.2.1::imm Zt E.v b.2.2.2.1::mu) (box S 65 [.bool F,.bool p,r.v,iV t]::box T 65 [.bool G,.bool h,i.v,iV u]::box U 183 [.bool false,.bool false,hnil.v,iV 0,.bool false]::box H 63 [.bool b.1,x.v]::box I 63 [.bool b.2.2.1,E.v]::rs)) rfl ?_ ?_
 ·refine dS [2,4,7,8,13,14,15,16,17] 9 V0 ?_
  replace a:=a.drew
  refine Dm 107 0 [2,13,14] (qR 1 rfl (rQ rfl (A1 [.bool p,r.v] Q1 e0 a R2) (qR 2 rfl (rQ rfl (A1 [.bool h,i.v] Q1 e0 a R1) (Rn QSn ?_)))))
  refine La1 rfl ?_ (La1 rfl ?_ (La1 rfl ?_ LAn))
  ·refine kO (D5 D A a) fun J w a=>dU (Dm 0 104 [4,13,14] (Rn (qS rfl (qS rfl (sY rfl (A1 [.bool h,i.v] Q1 e0 a R1) QSn))) ?_))
   refine La1 rfl ?_ (La1 rfl ?_ (La1 rfl ?_ LAn))
   ·refine kO (K7 s F0 a) fun y w a=>dU (Dm 0 96 [7,13,14] (Rn (qS rfl (sY rfl (A1 [.bool h,i.v] Q1 e0 a R1) QSn)) ?_))
    refine La1 rfl ?_ (La1 rfl ?_ (La1 rfl ?_ LAn))
    ·refine kO (D5 l (F_2 k) a) fun o w a=>dU (Dm 0 0 [8,13,14] (Rn QSn ?_))
     refine La1 rfl ?_ (La1 rfl ?_ (La1 rfl ?_ LAn))
     ·refine kT_ (W6 j F1 F0 a) fun d f w a=>dU (Dm 7680 0 [13,14] (qR 4 rfl (Rn QSn ?_)))
      refine La1 rfl ?_ (La1 rfl ?_ LAn)
      ·refine LB wn (rAl a L4) fun m w a=>dU (D1 0 7680 14 rfl (Rn (qS rfl (qS rfl (qS rfl (qS rfl QSn)))) (LB wn (rAl a L4) fun n w a=>dU (D0 0 7680 15 rfl (Rn (qS rfl (qS rfl (qS rfl (qS rfl QSn)))) ?_)))))
       replace a:=a.k10
       exact ba
      ·refine LB wn (rAl a L4) fun n w a=>dU (D1 0 7680 13 rfl (Rn (qS rfl (qS rfl (qS rfl (qS rfl QSn)))) (LB wn (rAl a L4) fun m w a=>dU (D0 0 7680 15 rfl (Rn (qS rfl (qS rfl (qS rfl (qS rfl QSn)))) (LT wn (w5 (ru:=[.bool b.1,d.v]) (us:=[.bool b.1,d.v]) a Q1 e0 e0 rfl rfl (A5 rfl) rfl) fun w a=>D0 0 6144 16 rfl (Rn (qS rfl (qS rfl QSn)) ?_)))))))
       exact sb
     ·refine LB wn (rAl a L4) fun m w a=>dU (Dm 0 0 [8,14] (Rn QSn ?_))
      refine La1 rfl ?_ (La1 rfl ?_ LAn)
      ·exact df
      ·exact cf
     ·refine LB wn (rAl a L4) fun n w a=>dU (Dm 0 0 [8,13] (Rn QSn ?_))
      refine La1 rfl ?_ (La1 rfl ?_ LAn)
      ·exact ff
      ·exact ef
    ·refine LB wn (rAl a L4) fun m w a=>dU (Dm 0 96 [7,14] (Rn (qS rfl (sY rfl (A1 [.bool h,i.v] Q1 e0 a R2) QSn)) ?_))
     refine La1 rfl ?_ (La1 rfl ?_ LAn)
     ·refine kO (D5 l (F_2 k) a) fun o w a=>dU (Dm 0 0 [8,14] (Rn QSn ?_))
      refine La1 rfl ?_ (La1 rfl ?_ LAn)
      ·exact df
      ·exact cf
     ·exact zi
    ·refine LB wn (rAl a L4) fun n w a=>dU (Dm 0 96 [7,13] (Rn (qS rfl (sY rfl (A1 [.bool h,i.v] Q1 e0 a R2) QSn)) ?_))
     refine La1 rfl ?_ (La1 rfl ?_ LAn)
     ·refine kO (D5 l (F_2 k) a) fun o w a=>dU (Dm 0 0 [8,13] (Rn QSn ?_))
      refine La1 rfl ?_ (La1 rfl ?_ LAn)
      ·exact ff
      ·exact ef
     ·exact xi
   ·refine LB wn (rAl a L4) fun m w a=>dU (Dm 0 104 [4,14] (Rn (qS rfl (qS rfl (sY rfl (A1 [.bool h,i.v] Q1 e0 a R2) QSn))) ?_))
    refine La1 rfl ?_ (La1 rfl ?_ LAn)
    ·refine kO (K7 s F0 a) fun y w a=>dU (Dm 0 96 [7,14] (Rn (qS rfl (sY rfl (A1 [.bool h,i.v] Q1 e0 a R2) QSn)) ?_))
     refine La1 rfl ?_ (La1 rfl ?_ LAn)
     ·refine kO (D5 l (F_2 k) a) fun o w a=>dU (Dm 0 0 [8,14] (Rn QSn ?_))
      refine La1 rfl ?_ (La1 rfl ?_ LAn)
      ·exact df
      ·exact cf
     ·exact zi
    ·exact dr
   ·refine LB wn (rAl a L4) fun n w a=>dU (Dm 0 104 [4,13] (Rn (qS rfl (qS rfl (sY rfl (A1 [.bool h,i.v] Q1 e0 a R2) QSn))) ?_))
    refine La1 rfl ?_ (La1 rfl ?_ LAn)
    ·refine kO (K7 s F0 a) fun y w a=>dU (Dm 0 96 [7,13] (Rn (qS rfl (sY rfl (A1 [.bool h,i.v] Q1 e0 a R2) QSn)) ?_))
     refine La1 rfl ?_ (La1 rfl ?_ LAn)
     ·refine kO (D5 l (F_2 k) a) fun o w a=>dU (Dm 0 0 [8,13] (Rn QSn ?_))
      refine La1 rfl ?_ (La1 rfl ?_ LAn)
      ·exact ff
      ·exact ef
     ·exact xi
    ·exact gr
  ·refine LB wn (rAl a L4) fun m w a=>dU (Dm 0 107 [2,14] (Rn (qS rfl (sY rfl (A1 [.bool p,r.v] Q1 e0 a R3) (qS rfl (qS rfl (sY rfl (A1 [.bool h,i.v] Q1 e0 a R2) QSn))))) ?_))
   refine La1 rfl ?_ (La1 rfl ?_ LAn)
   ·refine kO (D5 D A a) fun J w a=>dU (Dm 0 104 [4,14] (Rn (qS rfl (qS rfl (sY rfl (A1 [.bool h,i.v] Q1 e0 a R2) QSn))) ?_))
    refine La1 rfl ?_ (La1 rfl ?_ LAn)
    ·refine kO (K7 s F0 a) fun y w a=>dU (Dm 0 96 [7,14] (Rn (qS rfl (sY rfl (A1 [.bool h,i.v] Q1 e0 a R2) QSn)) ?_))
     refine La1 rfl ?_ (La1 rfl ?_ LAn)
     ·refine kO (D5 l (F_2 k) a) fun o w a=>dU (Dm 0 0 [8,14] (Rn QSn ?_))
      refine La1 rfl ?_ (La1 rfl ?_ LAn)
      ·exact df
      ·exact cf
     ·exact zi
    ·exact dr
   ·refine LB wn (rAl a L4) fun n w a=>dU (D1 0 107 2 rfl (Rn (qS rfl (sY rfl (A1 [.bool p,r.v] Q1 e0 a R4) (qS rfl (qS rfl (sY rfl (A1 [.bool h,i.v] Q1 e0 a R3) QSn))))) (kO (D5 D A a) fun J w a=>dU (D1 0 104 4 rfl (Rn (qS rfl (qS rfl (sY rfl (A1 [.bool h,i.v] Q1 e0 a R3) QSn))) (kO (K7 s F0 a) fun y w a=>dU (D1 0 96 7 rfl (Rn (qS rfl (sY rfl (A1 [.bool h,i.v] Q1 e0 a R3) QSn)) (kO (D5 l (F_2 k) a) fun o w a=>?_)))))))))
    refine dU (D1 0 0 8 rfl (Rn QSn (kT_ (W6 j F1 F0 a) fun d f w a=>dU (D0 7680 0 15 rfl (qR 4 rfl (Rn QSn ?_))))))
    replace a:=a.k10
    exact ba
  ·refine LB wn (rAl a L4) fun n w a=>dU (Dm 0 107 [2,13] (Rn (qS rfl (sY rfl (A1 [.bool p,r.v] Q1 e0 a R3) (qS rfl (qS rfl (sY rfl (A1 [.bool h,i.v] Q1 e0 a R2) QSn))))) ?_))
   refine La1 rfl ?_ (La1 rfl ?_ LAn)
   ·refine kO (D5 D A a) fun J w a=>dU (Dm 0 104 [4,13] (Rn (qS rfl (qS rfl (sY rfl (A1 [.bool h,i.v] Q1 e0 a R2) QSn))) ?_))
    refine La1 rfl ?_ (La1 rfl ?_ LAn)
    ·refine kO (K7 s F0 a) fun y w a=>dU (Dm 0 96 [7,13] (Rn (qS rfl (sY rfl (A1 [.bool h,i.v] Q1 e0 a R2) QSn)) ?_))
     refine La1 rfl ?_ (La1 rfl ?_ LAn)
     ·refine kO (D5 l (F_2 k) a) fun o w a=>dU (Dm 0 0 [8,13] (Rn QSn ?_))
      refine La1 rfl ?_ (La1 rfl ?_ LAn)
      ·exact ff
      ·exact ef
     ·exact xi
    ·exact gr
   ·refine LB wn (rAl a L4) fun m w a=>dU (D1 0 107 2 rfl (Rn (qS rfl (sY rfl (A1 [.bool p,r.v] Q1 e0 a R4) (qS rfl (qS rfl (sY rfl (A1 [.bool h,i.v] Q1 e0 a R3) QSn))))) (kO (D5 D A a) fun J w a=>dU (D1 0 104 4 rfl (Rn (qS rfl (qS rfl (sY rfl (A1 [.bool h,i.v] Q1 e0 a R3) QSn))) (kO (K7 s F0 a) fun y w a=>dU (D1 0 96 7 rfl (Rn (qS rfl (sY rfl (A1 [.bool h,i.v] Q1 e0 a R3) QSn)) (kO (D5 l (F_2 k) a) fun o w a=>?_)))))))))
    refine dU (D1 0 0 8 rfl (Rn QSn (kT_ (W6 j F1 F0 a) fun d f w a=>dU (D0 7680 0 15 rfl (qR 4 rfl (Rn QSn (LT wn (w5 (ru:=[.bool b.1,d.v]) (us:=[.bool b.1,d.v]) a Q1 e0 e0 rfl rfl (A5 rfl) rfl) fun w a=>D0 0 6144 16 rfl (Rn (qS rfl (qS rfl QSn)) ?_))))))))
    exact sb
 rintro ⟨H,x,I,E⟩ g w a
 refine bE c fun K X c=>q 2 rfl (dS [16,19] 2 V0 ?_)
 replace a:=a.drew
 refine D1 65535 0 16 rfl (qR 2 rfl (rQ rfl (lb_ (.bool p) O_4 e0 a R0) (qR 2 rfl (rQ rfl (lb_ (.bool h) O_4 e0 a R1) (rQ rfl (Cd H0 e0 e0) (rQ rfl (A1 [.bool b.1,x.v] Q1 e0 a R3) (qR 1 rfl (rQ rfl (lb_ (iV t) O_3 e0 a R0) (qR 3 rfl (rQ rfl (lb_ (iV u) O_3 e0 a R1) (qR 1 rfl (rQ rfl (A1 [.bool b.2.2.1,E.v] Q1 e0 a R4) (Rn QSn ?_)))))))))))))
 refine kZ (Mg X F1 a) fun w a=>dU (D0 393216 32767 19 rfl (qR 1 rfl (rQ rfl (D6 (us:=[.bool (!(p == h)),.bool b.1,x.v,iV (ws .i64 (ws .i64 t (imax 0 (ws .i64 (wa .i64 (wa .i64 z 3) B) C))) u),.bool (!(decide (K=0)))]) [(0,.bool (!(p == h))),(1,.agg #[.bool b.1,x.v]),(2,iV (ws .i64 (ws .i64 t (imax 0 (ws .i64 (wa .i64 (wa .i64 z 3) B) C))) u)),(3,.bool (!(decide (K=0))))] Ps (bp4 e0 e0 e0 e0) rfl) (Rn (qS rfl (qS rfl (sY rfl (lb_ (.bool p) O_4 e0 a R0) (qS rfl (qS rfl (sY rfl (lb_ (.bool h) O_4 e0 a R1) (sY rfl (Cd H0 e0 e0) (sY rfl (A1 [.bool b.1,x.v] Q1 e0 a R3) (qS rfl (sY rfl (lb_ (iV t) O_3 e0 a R0) (qS rfl (qS rfl (qS rfl (sY rfl (lb_ (iV u) O_3 e0 a R1) (qS rfl QSn))))))))))))))) ?_))))
 replace a:=a.k16
 refine LT wn (w5 (ru:=[.bool (!(p == h)),.bool b.1,x.v,iV (ws .i64 (ws .i64 t (imax 0 (ws .i64 (wa .i64 (wa .i64 z 3) B) C))) u),.bool (!(decide (K=0)))]) (us:=[.bool (!(p == h)),.bool b.1,x.v,iV (ws .i64 (ws .i64 t (imax 0 (ws .i64 (wa .i64 (wa .i64 z 3) B) C))) u),.bool (!(decide (K=0)))]) a Ui e0 e0 rfl rfl (A5 rfl) rfl) fun w a=>Dw 0 0 (Rn QSn (qx 2 rfl ?_))
 cases c
 exact R _ _ _ (X1 results139 (V2 rfl rfl a R0 Ui rfl) ⟨_,rfl,((a.k2h).facts (U0 F0 (M0 (M0 M1))))⟩)
instance:CL prog 139 (type_of% @Ik):=⟨@Ik⟩
theorem Pb {j k:Bool} {l:LI} {m:Int} {n o:Bool} {p:LI} {r s:Int} {t u:Hdr} {out:Int} (c:m_l7 j k l m n o p r s=some out) (E:imm Zt t.v l∈mu) (F:imm Zt u.v p∈mu) (G:globF∈mu) (a:St w0 mu rs w):
  Calls prog 78 #[.agg #[.bool j,.bool k,t.v,iV m],.agg #[.bool n,.bool o,u.v,iV r],iV s] w (rv w0 mu rs (.int .u64 out)):=by
 refine en func78 rfl ntmps78 fun Q H=>?_
 refine z 2 4 ?_;intro x w a y w a
 refine bE c fun b I c=>bE c fun d J c=>dS [1,3,4,5] 4 V0 ?_
 replace a:=a.drew
 refine z 8 1 ?_;intro f w a h w a w a w a
 refine jW 3 [2,3,4] [(17,.bool (b.1 || d.1))] (St w0 (imm Zt f.v b.2.2.1::imm Zt h.v d.2.2.1::mu) (box x 65 [.bool b.1,.bool b.2.1,f.v,iV b.2.2.2]::box y 65 [.bool d.1,.bool d.2.1,h.v,iV d.2.2.2]::rs)) rfl (fun A=>?_) ?_
 ·refine gB 14 rfl (fun i=>?_) fun i=>?_
  ·exact q 3 rfl (A _ _ ((a.k10).facts (U0 F1 (U0 F0 (M0 (M0 M1))))) (Z0 (S0 Value.bool (orT i)) rfl))
  ·refine z 1 1 ?_
   exact A _ _ ((a.k10).facts (U0 F1 (U0 F0 (M0 (M0 M1))))) (Z0 (S0 Value.bool (orF i)) rfl)
 intro g w a
 refine bE c fun C e c=>q 1 rfl ?_
 refine jW 4 [2,3,4] [(22,.bool C)] (St w0 (imm Zt f.v b.2.2.1::imm Zt h.v d.2.2.1::mu) (box x 65 [.bool b.1,.bool b.2.1,f.v,iV b.2.2.2]::box y 65 [.bool d.1,.bool d.2.1,h.v,iV d.2.2.2]::rs)) rfl (fun B=>?_) ?_
 ·refine gJ 18 e rfl (fun D e=>?_) fun D e=>?_
  ·refine q 4 rfl ?_
   cases e
   exact B _ _ a rfl
  ·refine z 1 0 ?_
   refine bE e fun K L e=>?_
   refine z 1 2 ?_;intro w a
   cases e
   exact B _ _ a rfl
 intro g w a
 exact vx
instance:CL prog 78 (type_of% @Pb):=⟨@Pb⟩
theorem Ig {a3 a4:L2} {a5:List (Option (List (Int×(Bool×Bool×LI×Int))))} {a6:L2} {C:Int} {a7:L2} {D:List (Option (List (Int×(Bool×Bool×LI×Int))))} {a8:Int} {F:Nat} {B h:Hdr} {a9:List Hdr} {i:Hdr} {b0:MH} {G:Hdr} {H:Nat} {I t:Hdr} {x:MH} {out:L2×(List (Option (List (Int×(Bool×Bool×LI×Int)))))×Int} (c:m_l9 a3 a4 a5 a6 C a7 D a8=some out) (R:imm S1 B.v a3∈mu) (b2:imm S1 G.v a6∈mu) (b3:imm S1 I.v a7∈mu) (z:globF∈mu) (a:St w0 mu (box F 132 [B.v,h.v,i.v,G.v]::row 25 rH h.v a9::fam 56 iu a9 a4::row 127 rM i.v b0::famM .i64 (rP rB (rP rB (rP (rS Zt) I1))) b0 a5::box H 90 [iV C,I.v,t.v]::row 127 rM t.v x::famM .i64 (rP rB (rP rB (rP (rS Zt) I1))) x D::rs) w):
  Calls prog 35 #[(pB F),(pB H),iV a8] w (fun e w=>∃ (b4:List Hdr) (b5:MH),e=.returned (iV out.2.2)∧St w0 mu (row 25 rH h.v b4::fam 56 iu b4 out.1::row 127 rM i.v b5::famM .i64 (rP rB (rP rB (rP (rS Zt) I1))) b5 out.2.1::box F 132 [B.v,h.v,i.v,G.v]::row 127 rM t.v x::famM .i64 (rP rB (rP rB (rP (rS Zt) I1))) x D::box H 90 [iV C,I.v,t.v]::rs) w):=by
 refine en func35 rfl ntmps35 fun Q N=>bE c fun K c8 c=>q 11 rfl (cO (Ld c8 R b2 b3 z a) fun b6 w a=>yb (rAl a Fc) fun f4 w a=>sB rfl a J3 fun w a=>q 5 rfl (y (A1 [.bool K.1,.bool K.2.1,b6.v,iV K.2.2.2] J3 e0 a R0) (bE c fun f5 c9 c=>cZ (Dg c9 F0 (mtF z) a) fun w a=>q 3 rfl (cI c (fun d0 c=>?_) fun d0 c=>?_))))
 ·exact Yq
 ·refine q 4 rfl (y (A1 [.bool K.1,.bool K.2.1,b6.v,iV K.2.2.2] J3 e0 a R0) (bE c fun p d1 c=>cZ (Cg d1 F0 (mtF z) a) fun w a=>bE c fun f6 d2 c=>q 7 rfl (cZ (Ag d2 a) fun w a=>q 3 rfl (cI c (fun d3 c=>?_) fun d3 c=>?_))))
  ·exact Yq
  ·refine q 3 rfl (bE c fun f O c=>bE c fun d4 o c=>bE c fun d5 k c=>?_)
   refine jN ((List Hdr)×MH) [0,1,2,8] (fun (S,A)=>[]) (fun (S,A)=>St w0 mu (row 25 rH h.v S::fam 56 iu S d4::row 127 rM i.v A::famM .i64 (rP rB (rP rB (rP (rS Zt) I1))) A d5::box F 132 [B.v,h.v,i.v,G.v]::row 127 rM t.v x::famM .i64 (rP rB (rP rB (rP (rS Zt) I1))) x D::box H 90 [iV C,I.v,t.v]::rs)) rfl ?_ ?_
   ·refine dS [11,12,15,16,19,21] 6 V0 ?_
    replace a:=a.drew
    refine Dm 26623 0 [11,12,15] (qR 3 rfl (rQ rfl (lb_ h.v C4 e0 a R5) (qR 4 rfl (rQ rfl (lb_ i.v U3 e0 a R5) (qR 4 rfl (Rn QSn ?_))))))
    refine La1 rfl ?_ (La1 rfl ?_ (La1 rfl ?_ LAn))
    ·refine LH wn (rLt (n:=1) (l:=[p]) a E2 [.int .u64 p] (bp1 e0) rfl rfl (J1 (cs:=[.int .u64 p]) rfl mkI L1)) fun m w a=>dU (Dm 0 25599 [12,15] (Rn (qS rfl (qS rfl (qS rfl (sY rfl (lb_ h.v C4 e0 a R6) (qS rfl (qS rfl (qS rfl (qS rfl (sY rfl (lb_ i.v U3 e0 a R6) (qS rfl (qS rfl (qS rfl QSn)))))))))))) ?_))
     refine La1 rfl ?_ (La1 rfl ?_ LAn)
     ·refine LG wn (rMm (ik:=.i64) (E:=(rP rB (rP rB (rP (rS Zt) I1)))) a) fun j w a=>dU (D1 0 25599 15 rfl (Rn (qS rfl (qS rfl (qS rfl (sY rfl (lb_ h.v C4 e0 a R7) (qS rfl (qS rfl (qS rfl (qS rfl (sY rfl (lb_ i.v U3 e0 a R7) (qS rfl (qS rfl (qS rfl QSn)))))))))))) (kO (E6 O (mtF z) a) fun r w a=>dU (Dm 262144 9215 [16,19] ?_))))
      obtain ⟨J,d⟩:=V5 (u:=m) o (a.famL (mtR (mtR (mtR (mtR mhR)))))
      refine rQ rfl (yIs J5 e0 e0 a rO3 d) (Rn (qS rfl (qS rfl (qS rfl (sY rfl (lb_ h.v C4 e0 a R7) (qS rfl (qS rfl (qS rfl (qS rfl (sY rfl (lb_ i.v U3 e0 a R7) (qS rfl (qS rfl QSn))))))))))) ?_)
      refine La0 rfl ?_ (La0 rfl ?_ LAn)
      ·exact nb
      ·exact wi
     ·refine kO (E6 O (mtF z) a) fun r w a=>dU (Dm 262144 9215 [12,19] ?_)
      obtain ⟨J,d⟩:=V5 (u:=m) o (a.famL (mtR (mtR (mtR mhR))))
      refine rQ rfl (yIs J5 e0 e0 a rO2 d) (Rn (qS rfl (qS rfl (qS rfl (sY rfl (lb_ h.v C4 e0 a R6) (qS rfl (qS rfl (qS rfl (qS rfl (sY rfl (lb_ i.v U3 e0 a R6) (qS rfl (qS rfl QSn))))))))))) ?_)
      refine La1 rfl ?_ (La0 rfl ?_ LAn)
      ·refine LG wn (rMm (ik:=.i64) (E:=(rP rB (rP rB (rP (rS Zt) I1)))) a) fun j w a=>dU (Dm 0 271359 [16,19] (Rn (qS rfl (qS rfl (qS rfl (sY rfl (lb_ h.v C4 e0 a R7) (qS rfl (qS rfl (qS rfl (qS rfl (sY rfl (lb_ i.v U3 e0 a R7) (qS rfl (qS rfl (sY rfl (yIs J5 e0 e0 a rO3 d) QSn)))))))))))) ?_))
       refine La0 rfl ?_ (La0 rfl ?_ LAn)
       ·exact nb
       ·exact wi
      ·exact er
    ·refine LG wn (rMm (ik:=.i64) (E:=(rP rB (rP rB (rP (rS Zt) I1)))) a) fun j w a=>dU (Dm 0 26623 [11,15] (Rn (qS rfl (qS rfl (qS rfl (sY rfl (lb_ h.v C4 e0 a R6) (qS rfl (qS rfl (qS rfl (qS rfl (sY rfl (lb_ i.v U3 e0 a R6) (qS rfl (qS rfl (qS rfl (qS rfl QSn))))))))))))) ?_))
     refine La1 rfl ?_ (La1 rfl ?_ LAn)
     ·refine LH wn (rLt (n:=1) (l:=[p]) a E2 [.int .u64 p] (bp1 e0) rfl rfl (J1 (cs:=[.int .u64 p]) rfl mkI L1)) fun m w a=>dU (D1 0 25599 15 rfl (Rn (qS rfl (qS rfl (qS rfl (sY rfl (lb_ h.v C4 e0 a R7) (qS rfl (qS rfl (qS rfl (qS rfl (sY rfl (lb_ i.v U3 e0 a R7) (qS rfl (qS rfl (qS rfl QSn)))))))))))) (kO (E6 O (mtF z) a) fun r w a=>dU (Dm 262144 9215 [16,19] ?_))))
      obtain ⟨J,d⟩:=V5 (u:=m) o (a.famL (mtR (mtR (mtR (mtR mhR)))))
      refine rQ rfl (yIs J5 e0 e0 a rO3 d) (Rn (qS rfl (qS rfl (qS rfl (sY rfl (lb_ h.v C4 e0 a R7) (qS rfl (qS rfl (qS rfl (qS rfl (sY rfl (lb_ i.v U3 e0 a R7) (qS rfl (qS rfl QSn))))))))))) ?_)
      refine La0 rfl ?_ (La0 rfl ?_ LAn)
      ·replace a:=a.k10
       exact nb
      ·exact vi
     ·refine kO (E6 O (mtF z) a) fun r w a=>dU (Dm 0 10239 [11,16] (Rn (qS rfl (qS rfl (qS rfl (sY rfl (lb_ h.v C4 e0 a R6) (qS rfl (qS rfl (qS rfl (qS rfl (sY rfl (lb_ i.v U3 e0 a R6) (qS rfl (qS rfl (qS rfl QSn)))))))))))) ?_))
      refine La1 rfl ?_ (La0 rfl ?_ LAn)
      ·refine LH wn (rLt (n:=1) (l:=[p]) a E2 [.int .u64 p] (bp1 e0) rfl rfl (J1 (cs:=[.int .u64 p]) rfl mkI L1)) fun m w a=>dU (Dm 262144 9215 [16,19] ?_)
       obtain ⟨J,d⟩:=V5 (u:=m) o (a.famL (mtR (mtR (mtR (mtR mhR)))))
       refine rQ rfl (yIs J5 e0 e0 a rO3 d) (Rn (qS rfl (qS rfl (qS rfl (sY rfl (lb_ h.v C4 e0 a R7) (qS rfl (qS rfl (qS rfl (qS rfl (sY rfl (lb_ i.v U3 e0 a R7) (qS rfl (qS rfl QSn))))))))))) ?_)
       refine La0 rfl ?_ (La0 rfl ?_ LAn)
       ·replace a:=a.k10
        exact nb
       ·exact vi
      ·exact br
    ·refine kO (E6 O (mtF z) a) fun r w a=>dU (Dm 0 10239 [11,12] (Rn (qS rfl (qS rfl (qS rfl (sY rfl (lb_ h.v C4 e0 a R5) (qS rfl (qS rfl (qS rfl (qS rfl (sY rfl (lb_ i.v U3 e0 a R5) (qS rfl (qS rfl (qS rfl QSn)))))))))))) ?_))
     refine La1 rfl ?_ (La1 rfl ?_ LAn)
     ·refine LH wn (rLt (n:=1) (l:=[p]) a E2 [.int .u64 p] (bp1 e0) rfl rfl (J1 (cs:=[.int .u64 p]) rfl mkI L1)) fun m w a=>dU (Dm 262144 9215 [12,19] ?_)
      obtain ⟨J,d⟩:=V5 (u:=m) o (a.famL (mtR (mtR (mtR mhR))))
      refine rQ rfl (yIs J5 e0 e0 a rO2 d) (Rn (qS rfl (qS rfl (qS rfl (sY rfl (lb_ h.v C4 e0 a R6) (qS rfl (qS rfl (qS rfl (qS rfl (sY rfl (lb_ i.v U3 e0 a R6) (qS rfl (qS rfl QSn))))))))))) ?_)
      refine La1 rfl ?_ (La0 rfl ?_ LAn)
      ·refine LG wn (rMm (ik:=.i64) (E:=(rP rB (rP rB (rP (rS Zt) I1)))) a) fun j w a=>dU (Dm 0 271359 [16,19] (Rn (qS rfl (qS rfl (qS rfl (sY rfl (lb_ h.v C4 e0 a R7) (qS rfl (qS rfl (qS rfl (qS rfl (sY rfl (lb_ i.v U3 e0 a R7) (qS rfl (qS rfl (sY rfl (yIs J5 e0 e0 a rO3 d) QSn)))))))))))) ?_))
       refine La0 rfl ?_ (La0 rfl ?_ LAn)
       ·exact nb
       ·exact wi
      ·exact er
     ·refine LG wn (rMm (ik:=.i64) (E:=(rP rB (rP rB (rP (rS Zt) I1)))) a) fun j w a=>dU (Dm 0 10239 [11,16] (Rn (qS rfl (qS rfl (qS rfl (sY rfl (lb_ h.v C4 e0 a R6) (qS rfl (qS rfl (qS rfl (qS rfl (sY rfl (lb_ i.v U3 e0 a R6) (qS rfl (qS rfl (qS rfl QSn)))))))))))) ?_))
      refine La1 rfl ?_ (La0 rfl ?_ LAn)
      ·refine LH wn (rLt (n:=1) (l:=[p]) a E2 [.int .u64 p] (bp1 e0) rfl rfl (J1 (cs:=[.int .u64 p]) rfl mkI L1)) fun m w a=>dU (Dm 262144 9215 [16,19] ?_)
       obtain ⟨J,d⟩:=V5 (u:=m) o (a.famL (mtR (mtR (mtR (mtR mhR)))))
       refine rQ rfl (yIs J5 e0 e0 a rO3 d) (Rn (qS rfl (qS rfl (qS rfl (sY rfl (lb_ h.v C4 e0 a R7) (qS rfl (qS rfl (qS rfl (qS rfl (sY rfl (lb_ i.v U3 e0 a R7) (qS rfl (qS rfl QSn))))))))))) ?_)
       refine La0 rfl ?_ (La0 rfl ?_ LAn)
       ·replace a:=a.k10
        exact nb
       ·exact vi
      ·exact br
   rintro ⟨S,A⟩ g w a
   refine bE c fun f7 d6 c=>q 5 rfl (cZ (Na d6 a) fun w a=>q 3 rfl ?_)
   refine cJn c (fun d7 c=>?_) fun d7 c=>?_
   ·refine q 8 rfl (y (lb_ B.v M4 e0 a R4) (bE c fun d8 b7 c=>q 1 rfl (y (yIa Q4 e0 e0 a (rdI R) b7) ?_)))
    obtain ⟨d9,a⟩:=iLs a R b7
    refine y (yCt P0 e0 a F1 rfl) (bE c fun e1 b8 c=>y (ySl (k2:=.i64) N0 e0 a (rdI F0) (.inl (S0 some rfl)) (.inr ⟨rfl,rfl⟩) b8) ?_)
    replace a:=a.sub F0 b8
    refine y (T1 N0 e0 a (rdI F0)) (bE c fun e2 e3 c=>q 4 rfl ?_)
    refine lpN (List Hdr) ((List Hdr)×(List Hdr)) e3 [0,1,2,8,54,55] (fun (U,V,W) T=>[(56,iV W)]) (fun (U,V,W) T=>St w0 (imm I1 (subH d9 1 1 (d8.length:Int)).v e1::mu) (row 25 rH h.v T::fam 56 iu T U::row 127 rM i.v A::famM .i64 (rP rB (rP rB (rP (rS Zt) I1))) A V::box F 132 [B.v,h.v,i.v,G.v]::row 127 rM t.v x::famM .i64 (rP rB (rP rB (rP (rS Zt) I1))) x D::box H 90 [iV C,I.v,t.v]::rs)) (fun | .inl (b9,c0),(X,_)=>(.exit 0,[],St w0 mu (row 25 rH h.v X::fam 56 iu X b9::row 127 rM i.v A::famM .i64 (rP rB (rP rB (rP (rS Zt) I1))) A c0::box F 132 [B.v,h.v,i.v,G.v]::row 127 rM t.v x::famM .i64 (rP rB (rP rB (rP (rS Zt) I1))) x D::box H 90 [iV C,I.v,t.v]::rs)) | .inr (c1,c2),(_,Z)=>(.ret,[(6,iV 233)],St w0 mu (row 25 rH h.v Z::fam 56 iu Z c1::row 127 rM i.v A::famM .i64 (rP rB (rP rB (rP (rS Zt) I1))) A c2::box F 132 [B.v,h.v,i.v,G.v]::row 127 rM t.v x::famM .i64 (rP rB (rP rB (rP (rS Zt) I1))) x D::box H 90 [iV C,I.v,t.v]::rs))) rfl _ (a.facts (U0 F0 (M0 (M0 (M0 M1))))) rfl ?_ ?_
    ·clear a
     rintro ⟨X,Z⟩ g w a
     rcases e2 with ⟨b9,c0⟩ | ⟨c1,c2⟩
     ·refine q 8 rfl ?_
      exact ui
     ·refine q 2 rfl ?_
      exact ui
    rintro ⟨U,V,W⟩ T g w f8 a c
    refine q 6 rfl (cI c (fun e4 c=>?_) fun e4 c=>?_)
    ·refine q 6 rfl (bE c fun f9 c3 c=>y (yIa N0 e0 e0 a (rdI F0) c3) (y (yI O_3 e0 a (rdI F0) c3) (bE c fun g0 e5 c=>q 9 rfl ?_)))
     replace a:=a.k2n
     refine cO (Ld e5 (mtF R) (mtF b2) (mtF b3) (mtF z) a) fun g1 w a=>bE c fun g2 e6 c=>q 1 rfl (cO (E6 e6 (F_2 z) a) fun g3 w a=>bE c fun a0 e7 c=>cZ (Pb e7 F1 F0 (F_3 z) a) fun w a=>bE c fun g4 e8 c=>q 7 rfl (cZ (Na e8 a) fun w a=>q 3 rfl ?_))
     refine cJn c (fun e9 c=>?_) fun e9 c=>?_
     ·refine q 2 rfl (bE c fun g5 c4 c=>bE c fun g6 c5 c=>bE c fun g7 f0 c=>bE c fun a1 f1 c=>bE c fun g8 c6 c=>bE c fun g9 f2 c=>dS [21,22,24,26,27,29] 6 V0 ?_)
      replace a:=a.drew
      refine D1 10485759 0 21 rfl (qR 3 rfl (rQ rfl (lb_ h.v C4 e0 a R4) (qR 4 rfl (rQ rfl (lb_ i.v U3 e0 a R4) (qR 1 rfl ?_)))))
      obtain ⟨h0,gb112⟩:=a.mfI R3 c4
      refine rQ rfl (yIa I5 e0 e0 a rO2 gb112) (rQ rfl (yF1 k7 e0 a rO2 gb112 rfl) (qR 4 rfl (rQ rfl (lb_ h.v C4 e0 a R4) (qR 1 rfl ?_))))
      obtain ⟨h1,L⟩:=a.famI R1 c5
      refine rQ rfl (yIa J5 e0 e0 a rO0 L) (rQ rfl (yF1 T3 e0 a rO0 L rfl) (qR 2 rfl (Rn QSn (LH wn (rLt (n:=1) (l:=[a0]) a E2 [.int .u64 a0] (bp1 e0) rfl rfl (J1 (cs:=[.int .u64 a0]) rfl mkI L1)) fun h2 w a=>dU (D1 0 9437183 22 rfl (Rn (qS rfl (qS rfl (qS rfl (sY rfl (lb_ h.v C4 e0 a R5) (qS rfl (qS rfl (qS rfl (qS rfl (sY rfl (lb_ i.v U3 e0 a R5) (qS rfl (sY rfl (yIa I5 e0 e0 a rO3 gb112) (sY rfl (yF1 k7 e0 a rO3 gb112 rfl) (qS rfl (qS rfl (qS rfl (qS rfl (sY rfl (lb_ h.v C4 e0 a R5) (qS rfl (sY rfl (yIa J5 e0 e0 a rO1 L) (sY rfl (yF1 T3 e0 a rO1 L rfl) (qS rfl QSn))))))))))))))))))))) ?_))))))
      replace a:=(a.k16).foc L c5
      refine LH wn (rAp a E2 e0 e0 rO2 f0) fun c7 w a=>dU (D1 0 8396799 24 rfl (Rn (qS rfl (qS rfl (qS rfl (sY rfl (lb_ h.v C4 e0 a R6) (qS rfl (qS rfl (qS rfl (qS rfl (sY rfl (lb_ i.v U3 e0 a R6) (qS rfl (sY rfl (yIa I5 e0 e0 a rO4 gb112) (sY rfl (yF1 k7 e0 a rO4 gb112 rfl) (qS rfl (qS rfl QSn)))))))))))))) (kO (E6 f1 (F_3 z) a) fun f3 w a=>dU (D0 33554432 8191 26 rfl ?_))))
      obtain ⟨h4,a2⟩:=V5 (u:=c7) c6 (a.famLx (mtR mhR))
      refine rQ rfl (yIs J5 e0 e0 a rO3 a2) (Rn (qS rfl (qS rfl (qS rfl (sY rfl (lb_ h.v C4 e0 a R6) (qS rfl (qS rfl (qS rfl (qS rfl (sY rfl (lb_ i.v U3 e0 a R6) (qS rfl (sY rfl (yIa I5 e0 e0 a rO4 gb112) (sY rfl (yF1 k7 e0 a rO4 gb112 rfl) (qS rfl QSn))))))))))))) ?_)
      replace a:=a.k1d
      refine LT wn (V1 (cs:=[c7.v]) a T3 rfl e0 e0 rfl (mkF rfl) a2) fun w a=>?_
      replace a:=(a.k1i).unfS L a2 c6
      refine D1 0 4096 27 rfl (Rn (qS rfl QSn) ?_)
      replace a:=a.k1o
      refine LG wn (rMen (zs:=[.bool false,.bool false,hnil.v,iV 0]) (a.mfoc gb112 c4) I8 e0 e0 (mkP mkB (mkP mkB (mkP He mkI)))) fun h6 w a=>dU (D0 268435456 0 29 rfl (qR 1 rfl (Rn QSn (LT wn (rEs (cs:=[.bool a1.1,.bool a1.2.1,f3.v,iV a1.2.2.2]) a e0 e0 e0 (mkP mkB (mkP mkB (mkP (mkS F0) mkI)))) fun w a=>?_))))
      replace a:=a.munf gb112 f2
      refine Dw 0 0 (Rn QSn (qx 6 rfl ?_))
      cases c
      exact ln _ ((a.k2o).facts (U0 F3 (M0 (M0 (M0 (M0 M1))))))
     ·refine q 9 rfl ?_
      cases c
      exact lx ([],_) (a.fc)
    ·refine q 2 rfl ?_
     cases c
     exact lx (_,[]) (a.fc)
   ·refine q 7 rfl ?_
    exact ui
instance:CL prog 35 (type_of% @Ig):=⟨@Ig⟩
theorem Hk {e:LI} {d:Hdr} {out:LI} (c:m_ma e=some out) (f:imm I1 d.v e∈mu) (a:St w0 mu rs w):
  Calls prog 79 #[d.v] w (ro w0 mu rs 3 I1 out):=by
 refine en func79 rfl ntmps79 fun Q g=>q 9 rfl (y (gg N0 e0 rfl) (q 2 rfl ?_))
 rcases Bh d with b | b
 ·refine kT b ?_
  obtain rfl:=Dh b f a
  replace c:=Ch c
  refine q 7 rfl ?_
  cases c
  replace a:=a.rowNh 3 I1
  exact g _ _ _ (X1 results79 ⟨rfl,rfl⟩ ⟨_,rfl,a⟩)
 ·exact kF b (q 4 rfl (yh (rLt (n:=0) (l:=[]) a N0 [] bp0 rfl rfl L1) fun h w a=>vx))
instance:CL prog 79 (type_of% @Hk):=⟨@Hk⟩
theorem Hg {G j:L2} {k:List (Option (List (Int×(Bool×Bool×LI×Int))))} {H:L2} {I:LI} {m:Nat} {i b:Hdr} {d:List Hdr} {f:Hdr} {h:MH} {o J:Hdr} {out:LI×LI×LI×LI} (c:m_mc G j k H I=some out) (K:imm S1 i.v G∈mu) (a6:imm S1 o.v H∈mu) (a7:imm I1 J.v I∈mu) (a:St w0 mu (box m 132 [i.v,b.v,f.v,o.v]::row 25 rH b.v d::fam 56 iu d j::row 127 rM f.v h::famM .i64 (rP rB (rP rB (rP (rS Zt) I1))) h k::rs) w):
  Calls prog 36 #[(pB m),J.v] w (fun e w=>∃ (L N O R:Hdr),e=.returned (.agg #[L.v,N.v,O.v,R.v])∧St w0 mu (row 25 rH b.v d::fam 56 iu d j::row 127 rM f.v h::famM .i64 (rP rB (rP rB (rP (rS Zt) I1))) h k::box m 132 [i.v,b.v,f.v,o.v]::row 3 I1 L.v out.1::row 3 I1 N.v out.2.1::row 3 I1 O.v out.2.2.1::row 56 iu R.v out.2.2.2::rs) w):=by
 refine en func36 rfl ntmps36 fun Q a1=>?_
 refine z 2 0 ?_;intro S w a T a8 c s w a
 refine yh (rLt (n:=1) (l:=[0]) a N0 [iV 0] (bp1 rfl) rfl rfl (J1 (cs:=[iV 0]) rfl mkI L1)) fun a9 w a=>?_
 refine z 5 4 ?_;intro U w a w a
 obtain ⟨⟨V,W,X⟩,a2,c⟩:=bs c
 replace a:=(a.rowNh 3 I1).rowNh 56 iu
 refine lpN (Hdr×Hdr×Hdr) (Hdr×Hdr×Hdr) a2 [0,4,5,15] (fun (u,x,y,A) (t,p,r)=>[(16,iV A)]) (fun (u,x,y,A) (t,p,r)=>St w0 mu (row 25 rH b.v d::fam 56 iu d j::row 127 rM f.v h::famM .i64 (rP rB (rP rB (rP (rS Zt) I1))) h k::box m 132 [i.v,b.v,f.v,o.v]::box S 43 [hnil.v,hnil.v,hnil.v,hnil.v]::row 3 I1 s.v T::row 3 I1 t.v u::row 3 I1 p.v x::row 56 iu r.v y::box U 43 [s.v,t.v,p.v,r.v]::rs)) (fun | (V,W,X),(B,C,D)=>(.exit 0,[],St w0 mu (row 25 rH b.v d::fam 56 iu d j::row 127 rM f.v h::famM .i64 (rP rB (rP rB (rP (rS Zt) I1))) h k::box m 132 [i.v,b.v,f.v,o.v]::box S 43 [hnil.v,hnil.v,hnil.v,hnil.v]::row 3 I1 s.v T::row 3 I1 B.v V::row 3 I1 C.v W::row 56 iu D.v X::box U 43 [s.v,B.v,C.v,D.v]::rs))) rfl (_,_,_) (a.k2p) rfl ?_ ?_
 ·clear a
  rintro ⟨B,C,D⟩ g w a
  refine z 2 3 ?_;intro w a
  cases c
  exact a1 _ _ _ (X1 results36 (V2 rfl rfl a R0 P5 rfl) ⟨_,_,_,_,rfl,(a.k2r)⟩)
 rintro ⟨u,x,y,A⟩ ⟨t,p,r⟩ g w b0 a c
 refine q 6 rfl (cI c (fun a3 c=>?_) fun a3 c=>?_)
 ·refine q 11 rfl (bE c fun b2 Z c=>bE c fun E a4 c=>dS [9,11] 2 V0 ?_)
  replace a:=a.drew
  refine D1 511 0 9 rfl (qR 1 rfl (rQ rfl (lb_ p.v P0 e0 a R10) (qR 3 rfl (rQ rfl (lb_ i.v M4 e0 a R4) (qR 1 rfl (rQ rfl (yIa Q4 e0 e0 a (rdI K) Z) ?_))))))
  obtain ⟨b3,a⟩:=iLs a K Z
  refine rQ rfl (yCt P0 e0 a F1 rfl) (Rn QSn ?_)
  replace a:=a.k29
  refine LH wn (rAp a N0 e0 e0 (rdI F0) a4) fun b4 w a=>dU ?_
  refine z 2 2 ?_;intro w a
  refine bE c fun b5 a0 c=>bE c fun b6 a5 c=>dS [9,11] 2 V0 ?_
  replace a:=a.drew
  refine D1 511 0 9 rfl (qR 1 rfl (rQ rfl (lb_ r.v T3 e0 a R0) (qR 3 rfl (rQ rfl (lb_ b.v C4 e0 a R6) (qR 1 rfl ?_)))))
  obtain ⟨b7,F⟩:=a.famI R3 a0
  refine rQ rfl (yIa J5 e0 e0 a rO2 F) (rQ rfl (yF1 T3 e0 a rO2 F rfl) (Rn QSn ?_))
  replace a:=a.k1z
  refine LH wn (rAp a E2 e0 e0 (rdF R4 F a0) a5) fun b8 w a=>dU ?_
  refine z 5 0 ?_;intro w a
  refine yh (rLt (n:=1) (l:=[(E.length:Int)]) a N0 [iV (E.length:Int)] (bp1 e0) rfl rfl (J1 (cs:=[iV (E.length:Int)]) rfl mkI L1)) fun b9 w a=>?_
  refine z 2 7 ?_;intro c0 c1 c c2 w a w a
  cases c
  exact ln (_,_,_) ((a.k2s).fc)
 ·refine q 2 rfl ?_
  cases c
  exact lx (_,_,_) a
instance:CL prog 36 (type_of% @Hg):=⟨@Hg⟩
theorem Nd {d b:Int} {F G H I:LI} {f h i J:Hdr} {out:LI×LI×LI×LI×Int×Int} (c:m_me d b F G H I=some out) (a6:imm I1 f.v F∈mu) (a7:imm I1 h.v G∈mu) (a8:imm iu i.v H∈mu) (K:imm I1 J.v I∈mu) (L:globF∈mu) (a:St w0 mu rs w):
  Calls prog 10 #[.agg #[iV d,iV b,f.v,h.v,i.v],J.v] w (fun e w=>∃ (N O R S:Hdr),e=.returned (.tuple #[.agg #[N.v,O.v,R.v,S.v],iV out.2.2.2.2.1,iV out.2.2.2.2.2])∧St w0 mu (row 3 I1 N.v out.1::row 3 I1 O.v out.2.1::row 3 I1 R.v out.2.2.1::row 56 iu S.v out.2.2.2.1::rs) w):=by
 refine en func10 rfl ntmps10 fun Q x=>q 2 rfl (yb (W5 (vals:=[iV d,iV b,f.v,h.v,i.v]) a e0 rfl) fun b9 w a=>yb (rAl a Bf) fun z w a=>q 6 rfl (y (A1 [iV d,iV b,f.v,h.v,i.v] E5 e0 a R1) (bE c fun j a9 c=>q 1 rfl (yC (S7 uD (a2 e0 e0)) (Kg a9 a6 a7 a8 K L a) ?_))))
 rintro _ w ⟨T,k,l,m,rfl,a⟩
 refine ⟨_,rfl,?_⟩
 refine nf (q 14 rfl ?_)
 refine cIn c (fun b0 c=>?_) fun b0 c=>?_
 ·refine q 5 rfl (bE c fun n b1 c=>?_)
  replace a:=a.k16
  refine yC (S7 tD (a1 e0)) (Jg b1 F0 a) ?_
  rintro _ w ⟨U,o,p,c0,r,c1,s,c2,rfl,a⟩
  refine ⟨_,rfl,?_⟩
  refine nf (q 9 rfl (y (lb_ (iV b) O_3 e0 a R2) (bE c fun b2 b3 c=>q 4 rfl ?_)))
  replace a:=(a.k2t).ffz
  refine lpN ((List Hdr)×MH) ((List Hdr)×MH) b3 [1,4,7,9,27] (fun (A,B,C) (t,u)=>[(28,iV C)]) (fun (A,B,C) (t,u)=>St w0 (imm S1 k.v j.1::imm S1 o.v n.1::imm S1 s.v n.2.2.2::mu) (box z 43 [hnil.v,hnil.v,hnil.v,hnil.v]::row 127 rM l.v m::famM .i64 (rP rB (rP rB (rP (rS Zt) I1))) m j.2.1::box T 90 [iV b,k.v,l.v]::row 25 rH p.v t::fam 56 iu t A::row 127 rM r.v u::famM .i64 (rP rB (rP rB (rP (rS Zt) I1))) u B::box U 132 [o.v,p.v,r.v,s.v]::rs)) (fun | .inl (V,W),(D,E)=>(.exit 0,[],St w0 (imm S1 k.v j.1::imm S1 o.v n.1::imm S1 s.v n.2.2.2::mu) (box z 43 [hnil.v,hnil.v,hnil.v,hnil.v]::row 127 rM l.v m::famM .i64 (rP rB (rP rB (rP (rS Zt) I1))) m j.2.1::box T 90 [iV b,k.v,l.v]::row 25 rH p.v D::fam 56 iu D V::row 127 rM r.v E::famM .i64 (rP rB (rP rB (rP (rS Zt) I1))) E W::box U 132 [o.v,p.v,r.v,s.v]::rs)) | .inr (X,Z),(_,_)=>(.ret,[(5,iV X),(6,iV Z)],St w0 mu (box z 43 [hnil.v,hnil.v,hnil.v,hnil.v]::rs))) rfl (_,_) ((a.k2u).facts (U0 F2 (U0 F1 (U0 F0 (M0 (M0 (M0 M1))))))) rfl ?_ ?_
  ·clear a
   rintro ⟨D,E⟩ g w a
   rcases b2 with ⟨V,W⟩ | ⟨X,Z⟩
   ·refine q 3 rfl (bE c fun c3 b4 c=>dS [2,7,8,9] 4 V0 ?_)
    replace a:=a.drew
    refine D1 123 0 2 rfl (qR 5 rfl (rQ rfl (lb_ (iV b) O_3 e0 a R3) (Rn QSn ?_)))
    replace a:=a.k2v
    refine Lk wn (S7 sD (a2 e0 e0)) (Hg b4 F1 F2 (F_3 K) a) ?_
    rintro _ w ⟨a0,a3,a4,a5,rfl,a⟩
    refine ⟨_,rfl,?_⟩
    refine dU (D0 0 120 7 rfl (Rn (qS rfl (qS rfl (qS rfl (sY rfl (lb_ (iV b) O_3 e0 a R12) QSn)))) ?_))
    replace a:=a.k1y
    refine LT wn (w5 (ru:=[a0.v,a3.v,a4.v,a5.v]) (us:=[a0.v,a3.v,a4.v,a5.v]) a P5 e0 e0 rfl rfl (A5 rfl) rfl) fun w a=>D1 0 120 8 rfl (Rn (qS rfl (qS rfl (qS rfl (sY rfl (lb_ (iV b) O_3 e0 a R12) QSn)))) (Ly wn (a_ (iV b) e0) (dU (D1 0 0 9 rfl (Rn QSn (Ly wn (a_ (iV 0) rfl) (dU (Dw 0 0 (Rn QSn (qx 2 rfl ?_))))))))))
    cases c
    exact x _ _ _ (aa results10 (V2 rfl rfl a R0 P5 rfl) ⟨rfl,rfl⟩ ⟨rfl,rfl⟩ ⟨_,_,_,_,rfl,((a.k2w).fc)⟩)
   ·refine q 2 rfl ?_
    cases c
    replace a:=(((a.rowNh 3 I1).rowNh 3 I1).rowNh 3 I1).rowNh 56 iu
    exact x _ _ _ (aa results10 (V2 rfl rfl a R4 P5 rfl) ⟨rfl,rfl⟩ ⟨rfl,rfl⟩ ⟨_,_,_,_,rfl,(a.k2x)⟩)
  rintro ⟨A,B,C⟩ ⟨t,u⟩ g w c4 a c
  refine q 6 rfl (cI c (fun b5 c=>?_) fun b5 c=>?_)
  ·refine q 15 rfl (bE c fun c5 b6 c=>?_)
   replace a:=a.k2y
   refine cT_ (Ig b6 F1 F2 F0 (F_3 L) a) fun c6 c7 w a=>q 15 rfl (cI c (fun b7 c=>?_) fun b7 c=>?_)
   ·refine q 8 rfl ?_
    cases c
    exact ln (_,_) (a.k2z)
   ·refine q 6 rfl (cI c (fun b8 c=>?_) fun b8 c=>?_)
    ·refine q 2 rfl (y (D6 (us:=[hnil.v,hnil.v,hnil.v,hnil.v]) [] Ff bp0 rfl) (q 2 rfl ?_))
     exact Zq
    ·refine q 2 rfl (y (D6 (us:=[hnil.v,hnil.v,hnil.v,hnil.v]) [] Ff bp0 rfl) (q 1 rfl ?_))
     exact Zq
  ·refine q 2 rfl ?_
   cases c
   exact lx (_,_) a
 ·refine q 2 rfl (y (D6 (us:=[hnil.v,hnil.v,hnil.v,hnil.v]) [] Ff bp0 rfl) (q 1 rfl ?_))
  replace a:=a.k1d
  refine sB rfl a P5 fun w a=>q 6 rfl ?_
  cases c
  replace a:=(((a.rowNh 3 I1).rowNh 3 I1).rowNh 3 I1).rowNh 56 iu
  exact x _ _ _ (aa results10 (V2 rfl rfl a R4 P5 rfl) ⟨rfl,rfl⟩ ⟨rfl,rfl⟩ ⟨_,_,_,_,rfl,((a.k31).fc)⟩)
instance:CL prog 10 (type_of% @Nd):=⟨@Nd⟩
theorem Gg {n:L2} {b:Hdr} {out:LI×Int} (c:m_mh n=some out) (o:imm S1 b.v n∈mu) (a:St w0 mu rs w):
  Calls prog 38 #[.agg #[b.v]] w (fun e w=>∃ (p:Hdr),e=.returned (.tuple #[p.v,iV out.2])∧St w0 mu (row 3 I1 p.v out.1::rs) w):=by
 refine en func38 rfl ntmps38 fun Q r=>q 2 rfl (yb (W5 (vals:=[b.v]) a e0 rfl) fun f w a=>q 6 rfl (y (A1 [b.v] Z3 e0 a R0) (bE c fun h A c=>cO (Qd A o a) fun i w a=>q 14 rfl ?_)))
 refine cIn c (fun B c=>?_) fun B c=>?_
 ·refine q 5 rfl (y (T1 N0 e0 a rO0) (bE c fun L C c=>yh (rMk a N0 e0 C) fun d w a=>q 7 rfl (y (T1 N0 e0 a rO1) (bE c fun s D c=>q 4 rfl ?_))))
  replace a:=(a.k10).fz
  refine lp D [1,4,6,22] (fun (j,k)=>[(23,iV k)]) (fun (j,k)=>St w0 (imm I1 i.v h.1::mu) (box f 32 [b.v]::row 3 I1 d.v j::rs)) (fun | s=>(.exit 0,[],St w0 mu (row 3 I1 d.v s::rs))) rfl (a.k10) rfl ?_ ?_
  ·clear a
   intro g w a
   refine q 10 rfl ?_
   cases c
   exact r _ _ _ (M3 results38 ⟨rfl,rfl⟩ ⟨rfl,rfl⟩ ⟨_,rfl,a⟩)
  rintro ⟨j,k⟩ g w N a c
  refine q 6 rfl (cI c (fun E c=>?_) fun E c=>?_)
  ·refine q 12 rfl (y (A1 [b.v] Z3 e0 a R0) (bE c fun F G c=>q 2 rfl (cO (Od G (mtF o) F0 a) fun H w a=>y (T1 N0 e0 a rO0) (bE c fun t I c=>q 4 rfl ?_))))
   refine lp I [1,4,6,22,23,29,30] (fun (l,m)=>[(31,iV m)]) (fun (l,m)=>St w0 (imm I1 i.v h.1::mu) (box f 32 [b.v]::row 3 I1 d.v l::row 3 I1 H.v F::rs)) (fun | t=>(.exit 2,[],St w0 (imm I1 i.v h.1::mu) (box f 32 [b.v]::row 3 I1 d.v t::rs))) rfl (a.k1i) rfl ?_ ?_
   ·clear a
    intro g w a
    refine q 7 rfl ?_
    cases c
    exact lo a
   rintro ⟨l,m⟩ g w O a c
   refine q 6 rfl (cI c (fun J c=>?_) fun J c=>?_)
   ·refine q 6 rfl (bE c fun R u c=>y (yIa N0 e0 e0 a rO2 u) (y (yI O_3 e0 a rO2 u) (bE c fun K x c=>q 6 rfl (y (yIa N0 e0 e0 a rO1 x) (y (yI O_3 e0 a rO1 x) (bE c fun S z c=>q 1 rfl (y (yIs N0 e0 e0 a rO1 z) ?_)))))))
    replace a:=a.k10
    refine yt (V1 (cs:=[iV (wa .i64 K 1)]) a O_3 rfl e0 e0 rfl mkI z) fun w a=>q 7 rfl ?_
    cases c
    exact lo (a.k1j)
   ·refine q 2 rfl ?_
    cases c
    exact xo (a.k24)
  ·refine q 2 rfl ?_
   cases c
   exact xo ((a.k12).fc)
 ·refine q 9 rfl ?_
  cases c
  replace a:=a.rowNh 3 I1
  exact r _ _ _ (M3 results38 ⟨rfl,rfl⟩ ⟨rfl,rfl⟩ ⟨_,rfl,(a.k1l)⟩)
instance:CL prog 38 (type_of% @Gg):=⟨@Gg⟩
theorem Fg {f:L2} {h:LI} {b i:Hdr} {out:Int×Int} (c:m_mj f h=some out) (m:imm S1 b.v f∈mu) (n:imm I1 i.v h∈mu) (a:St w0 mu rs w):
  Calls prog 11 #[.agg #[b.v],i.v] w (rv w0 mu rs (.tuple #[iV out.1,iV out.2])):=by
 refine en func11 rfl ntmps11 fun Q j=>q 2 rfl (yb (W5 (vals:=[b.v]) a e0 rfl) fun A w a=>q 6 rfl (y (A1 [b.v] Z3 e0 a R0) (bE c fun B o c=>q 1 rfl (cO (Vd o m n a) fun p w a=>q 3 rfl (yb (rAl a Df) fun C w a=>sB rfl a Z3 fun w a=>?_)))))
 refine q 10 rfl ?_
 refine cIn c (fun r c=>?_) fun r c=>?_
 ·refine q 4 rfl (y (A1 [p.v] Z3 e0 a R0) (bE c fun s t c=>?_))
  replace a:=(a.k10).fz
  refine cO (Gg t F0 a) fun u w a=>q 16 rfl (y (T1 N0 e0 a rO0) (bE c fun k x c=>q 4 rfl ?_))
  refine lp x [7,26,27] (fun (d,e)=>[(9,iV d),(28,iV e)]) (fun (d,e)=>St w0 mu (row 3 I1 u.v s.1::rs)) (fun | k=>(.exit 0,[(9,iV k)],St w0 mu rs)) rfl ((a.k1l).fc) rfl ?_ ?_
  ·clear a
   intro g w a
   refine q 11 rfl ?_
   cases c
   exact zb j results11 ⟨rfl,a⟩
  rintro ⟨d,e⟩ g w D a c
  refine q 6 rfl (cI c (fun z c=>?_) fun z c=>?_)
  ·refine q 6 rfl (bE c fun E l c=>y (yIa N0 e0 e0 a rO0 l) (y (yI O_3 e0 a rO0 l) (q 15 rfl ?_)))
   cases c
   exact lo a
  ·exact si
 ·refine q 9 rfl ?_
  cases c
  exact zb j results11 ⟨rfl,(a.k1b)⟩
instance:CL prog 11 (type_of% @Fg):=⟨@Fg⟩
theorem Eg {j:LI} {k:Int} {l:Hdr} {out:Bool} (c:m_ml j k=some out) (F:imm I1 l.v j∈mu) (a:St w0 mu rs w):
  Calls prog 12 #[l.v,iV k] w (rv w0 mu rs (.bool out)):=by
 refine en func12 rfl ntmps12 fun Q f=>?_
 refine z 1 4 ?_
 refine cIn c (fun p c=>?_) fun p c=>?_
 ·refine q 5 rfl (bE c fun G r c=>yh (rMk a K3 e0 r) fun h w a=>bE c fun s t c=>q 10 rfl ?_)
  refine lp t [0,1,5] (fun (e,i)=>[(6,iV i)]) (fun (e,i)=>St w0 mu (row 4 rB h.v e::rs)) (fun | .inl ()=>(.exit 0,[],St w0 mu rs) | .inr ()=>(.ret,[(4,.bool false)],St w0 mu rs)) rfl a rfl ?_ ?_
  ·clear a
   intro g w a
   rcases s with ⟨⟩ | ⟨⟩
   ·refine q 8 rfl ?_
    cases c
    exact za f results12 ⟨rfl,a⟩
   ·refine q 2 rfl ?_
    cases c
    exact za f results12 ⟨rfl,a⟩
  rintro ⟨e,i⟩ g w H a c
  refine q 8 rfl (cI c (fun u c=>?_) fun u c=>?_)
  ·refine z 2 2 ?_;intro I J c
   refine bE c fun x d c=>?_
   refine jW 7 [0,1,5,6] [(30,.bool x)] (St w0 mu (row 4 rB h.v e::rs)) rfl (fun m=>?_) ?_
   ·refine gI 23 d rfl (fun A d=>?_) fun A d=>?_
    ·refine q 7 rfl ?_
     cases d
     exact m _ _ a rfl
    ·refine q 2 rfl (bE d fun K L d=>?_)
     refine z 2 3 ?_
     cases d
     exact m _ _ a rfl
   intro g w a
   refine bE c fun B b c=>q 1 rfl ?_
   refine jW 8 [0,1,5,6] [(39,.bool B)] (St w0 mu (row 4 rB h.v e::rs)) rfl (fun n=>?_) ?_
   ·refine gJ 31 b rfl (fun C b=>?_) fun C b=>?_
    ·refine q 8 rfl ?_
     cases b
     exact n _ _ a rfl
    ·refine q 3 rfl (bE b fun N O b=>?_)
     refine z 2 0 ?_
     refine bE b fun R D b=>?_
     refine z 1 0 ?_
     refine y (yB O_4 e0 a rO0 D) (q 1 rfl ?_)
     cases b
     exact n _ _ a rfl
   intro g w a
   refine q 2 rfl ?_
   refine cJ c (fun E c=>?_) fun E c=>?_
   ·refine q 9 rfl ?_
    cases c
    exact xo (a.k14)
   ·refine z 2 0 ?_;intro S T c
    refine bE c fun U o c=>y (yIs K3 e0 e0 a rO0 o) (yt (V1 (cs:=[.bool true]) a O_4 rfl e0 rfl rfl mkB o) fun w a=>q 8 rfl ?_)
    cases c
    exact lo a
  ·exact si
 ·refine q 7 rfl ?_
  cases c
  exact za f results12 ⟨rfl,a⟩
instance:CL prog 12 (type_of% @Eg):=⟨@Eg⟩
theorem Gk {e:LI} {j:Hdr} {out:Bool} (c:m_mn e=some out) (C:imm I1 j.v e∈mu) (a:St w0 mu rs w):
  Calls prog 40 #[j.v] w (rv w0 mu rs (.bool out)):=by
 refine en func40 rfl ntmps40 fun Q k=>?_
 refine z 1 0 ?_
 refine bE c fun D p c=>yh (rMk a K3 e0 p) fun f w a=>?_
 refine z 1 4 ?_
 refine bE c fun r s c=>?_
 refine lp s [0,3,9,10] (fun (d,h)=>[(11,iV h)]) (fun (d,h)=>St w0 mu (row 4 rB f.v d::rs)) (fun | .inl ()=>(.exit 0,[],St w0 mu rs) | .inr ()=>(.ret,[(2,.bool false)],St w0 mu rs)) rfl a rfl ?_ ?_
 ·clear a
  intro g w a
  rcases r with ⟨⟩ | ⟨⟩
  ·refine q 8 rfl ?_
   cases c
   exact za k results40 ⟨rfl,a⟩
  ·refine q 2 rfl ?_
   cases c
   exact za k results40 ⟨rfl,a⟩
 rintro ⟨d,h⟩ g w E a c
 refine q 6 rfl (cI c (fun t c=>?_) fun t c=>?_)
 ·refine z 2 9 ?_;intro l F c
  refine jW 5 [0,3,5,9,10,11] [(22,.bool ((decide (l < 0)) || (decide ((e.length:Int)≤l))))] (St w0 mu (row 4 rB f.v d::rs)) rfl (fun m=>?_) ?_
  ·refine gB 17 rfl (fun i=>?_) fun i=>?_
   ·exact q 5 rfl (m _ _ a (Z0 (S0 Value.bool (orT i)) rfl))
   ·refine z 1 2 ?_
    exact m _ _ a (Z0 (S0 Value.bool (orF i)) rfl)
  intro g w a
  refine bE c fun u b c=>q 1 rfl ?_
  refine jW 5 [0,3,5,9,10,11] [(28,.bool u)] (St w0 mu (row 4 rB f.v d::rs)) rfl (fun n=>?_) ?_
  ·refine gJ 23 b rfl (fun x b=>?_) fun x b=>?_
   ·refine q 5 rfl ?_
    cases b
    exact n _ _ a rfl
   ·refine q 2 rfl (bE b fun G A b=>?_)
    refine z 1 0 ?_
    refine y (yB O_4 e0 a rO0 A) (q 1 rfl ?_)
    cases b
    exact n _ _ a rfl
  intro g w a
  refine q 2 rfl ?_
  refine cJ c (fun B c=>?_) fun B c=>?_
  ·refine q 9 rfl ?_
   cases c
   exact xo (a.k14)
  ·refine q 5 rfl (bE c fun H o c=>y (yIs K3 e0 e0 a rO0 o) (yt (V1 (cs:=[.bool true]) a O_4 rfl e0 rfl rfl mkB o) fun w a=>q 7 rfl ?_))
   cases c
   exact lo a
 ·exact si
instance:CL prog 40 (type_of% @Gk):=⟨@Gk⟩
end Go.Proofs.YtoahkigijbeegaaGreatDoor
