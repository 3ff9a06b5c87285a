/- Walks: each function computes its model, printed. -/
import Derived.Test.YthekfonboblioacGreatDoorW1
namespace Go.Proofs.YthekfonboblioacGreatDoor
open Go Sx M Go.Proofs.Tryz
set_option maxRecDepth 100000
set_option maxHeartbeats 40000000
set_option linter.unusedVariables false
attribute [local irreducible] wpList Code.wp Calls DR QR QS LA LS St row box fam imm rowS loop
variable {w0:World} {ros:List Fact} {rs:List Res} {w:World}
theorem w_2 {b:Bool} {d:LI} {e:Int} {f:Hdr} {out:Bool} (c:m_bm b d e=some out) (g:imm (rI .u32) f.v d∈ros) (a:St w0 ros rs w):
  Calls prog 176 #[.agg #[.bool b,f.v],iV e] w (rv w0 ros rs (.bool out)):=by
 exact en func176 rfl ntmps176 fun Q h=>vx
instance:CL prog 176 (type_of% @w_2):=⟨@w_2⟩
theorem w_3 {b:Bool} {d:Int} {e:Bool} {f:Int} {out:Bool} (c:m_bn b d e f=some out) (a:St w0 ros rs w):
  Calls prog 177 #[.bool b,iV d,.bool e,iV f] w (rv w0 ros rs (.bool out)):=by
 exact en func177 rfl ntmps177 fun Q g=>vx
instance:CL prog 177 (type_of% @w_3):=⟨@w_3⟩
theorem w_4 {k m:Bool} {A:LI} {B:Int} {x:Bool} {l:Int} {n:Hdr} {out:Bool×LI} (c:m_bs k m A B x l=some out) (X:imm (rI .u32) n.v A∈ros) (Z:globF∈ros) (a:St w0 ros rs w):
  Calls prog 138 #[.bool k,.agg #[.bool m,n.v],iV B,.bool x,iV l] w (rb w0 ros rs out):=by
 refine en func138 rfl ntmps138 fun Q C=>?_
 refine z 8 9 ?_;intro D w a e w a b a0 c d w a f w a w a I a1 c w a
 refine jW 3 [0,2,3,4,6,10,11] [(27,.bool ((!I) && (!x)))] (St w0 ros (box D 52 [.bool m,n.v]::box e 52 [.bool false,hnil.v]::row 93 (rI .u32) d.v b.2::box f 52 [.bool b.1,d.v]::rs)) rfl (fun E=>?_) ?_
 ·refine gB 24 rfl (fun y=>?_) fun y=>?_
  ·exact q 3 rfl (E _ _ (a.k33) (J1 (Z0 Value.bool (J5 y)) rfl))
  ·exact q 3 rfl (E _ _ (a.k33) (J1 (Z0 Value.bool (K5 y)) rfl))
 intro g w a
 refine q 2 rfl ?_
 refine cJ c (fun J c=>?_) fun J c=>?_
 ·refine z 2 4 ?_;intro w a
  cases c
  replace a:=(a.k16).fz
  exact C _ _ _ (I3 results138 (A4 rfl rfl a R0 P0 rfl) ⟨_,rfl,(a.k1b)⟩)
 ·refine q 14 rfl ?_
  refine jC Int [0,4,10,11] (fun o=>[(13,iV o)]) (fun o w=>St w0 ros (box e 52 [.bool false,hnil.v]::row 93 (rI .u32) d.v b.2::box f 52 [.bool b.1,d.v]::rs) w∧m_bp b k l o=some out) rfl ?_ ?_
  ·rintro o g w ⟨a,c⟩
   refine z 2 2 ?_;intro a2 a3 c w a
   refine bE c fun K h c=>?_
   refine jW 4 [0,4,10,11,13] [(57,.bool K)] (St w0 (imm (rI .u32) d.v b.2::ros) (box e 52 [.bool false,hnil.v]::box f 52 [.bool b.1,d.v]::rs)) rfl (fun F=>?_) ?_
   ·refine gIn 53 h rfl (fun L h=>?_) fun L h=>?_
    ·refine q 4 rfl ?_
     cases h
     exact F _ _ a rfl
    ·refine z 1 0 ?_
     refine bE h fun a4 a5 h=>?_
     refine z 1 2 ?_;intro w a
     cases h
     exact F _ _ a rfl
   intro g w a
   refine z 1 2 ?_;intro a6 a7 c w a
   refine jC (Bool×LI×Hdr) [10,11] (fun (p,r,s)=>[]) (fun (p,r,s) w=>St w0 (imm (rI .u32) s.v r::ros) (box e 52 [.bool false,hnil.v]::box f 52 [.bool p,s.v]::rs) w∧m_bo p r=some out) rfl ?_ ?_
   ·rintro ⟨p,r,s⟩ g w ⟨a,c⟩
    refine z 2 3 ?_;intro w a
    cases c
    exact C _ _ _ (I3 results138 (A4 rfl rfl a R0 P0 rfl) ⟨_,rfl,(a.k19)⟩)
   refine cJ c (fun N c=>?_) fun N c=>?_
   ·refine bE c fun a8 a9 c=>bE c fun b0 b1 c=>dS [1,2,3] 3 C1 ?_
    replace a:=a.drew
    refine z 5 0 ?_;intro b2 w a b3 w a w a
    replace a:=(a.k10).fz
    exact jx (_,_,_) ⟨((a.k10).facts (S0 F0 (N0 (N0 (N0 E1))))),c⟩
   ·exact q 1 rfl (jx (_,_,_) ⟨a,c⟩)
  refine cI c (fun O c=>?_) fun O c=>?_
  ·refine z 6 2 ?_;intro b4 b5 c b6 w a b7 w a w a c0 c1 c w a
   refine bE c fun R i c=>?_
   refine jW 4 [0,2,3,4,6,10,11,13] [(42,.bool R)] (St w0 ros (box D 52 [.bool m,n.v]::box e 52 [.bool false,hnil.v]::row 93 (rI .u32) d.v b.2::box f 52 [.bool b.1,d.v]::rs)) rfl (fun G=>?_) ?_
   ·refine gI 38 i rfl (fun S i=>?_) fun S i=>?_
    ·refine z 1 0 ?_
     refine bE i fun c2 c3 i=>?_
     refine z 1 2 ?_;intro w a
     cases i
     exact G _ _ ((a.k34).fc) rfl
    ·refine q 4 rfl ?_
     cases i
     exact G _ _ ((a.k34).fc) rfl
   intro g w a
   refine q 2 rfl ?_
   refine jC Int [0,4,10,11] (fun t=>[(13,iV t)]) (fun t w=>St w0 ros (box e 52 [.bool false,hnil.v]::row 93 (rI .u32) d.v b.2::box f 52 [.bool b.1,d.v]::rs) w∧m_bq b k l t=some out) rfl ?_ ?_
   ·rintro t g w ⟨a,c⟩
    exact jx _ ⟨a,c⟩
   refine cJ c (fun T c=>?_) fun T c=>?_
   ·refine q 9 rfl (bE c fun U j c=>?_)
    refine jW 5 [0,4,10,11,13] [(49,.bool U)] (St w0 ros (box e 52 [.bool false,hnil.v]::row 93 (rI .u32) d.v b.2::box f 52 [.bool b.1,d.v]::rs)) rfl (fun H=>?_) ?_
    ·refine gJ 44 j rfl (fun V j=>?_) fun V j=>?_
     ·refine q 5 rfl ?_
      cases j
      exact H _ _ (a.k1h) rfl
     ·refine z 1 2 ?_
      refine bE j fun c4 c5 j=>?_
      refine z 1 1 ?_;intro w a
      cases j
      exact H _ _ (a.k1h) rfl
    intro g w a
    refine q 2 rfl ?_
    refine jC Int [0,4,10,11] (fun u=>[(13,iV u)]) (fun u w=>St w0 ros (box e 52 [.bool false,hnil.v]::row 93 (rI .u32) d.v b.2::box f 52 [.bool b.1,d.v]::rs) w∧m_br b k l u=some out) rfl ?_ ?_
    ·rintro u g w ⟨a,c⟩
     exact jx _ ⟨a,c⟩
    refine cJ c (fun W c=>?_) fun W c=>?_
    ·exact q 3 rfl (jx _ ⟨a,c⟩)
    ·exact q 1 rfl (jx _ ⟨a,c⟩)
   ·exact q 1 rfl (jx _ ⟨(a.k1h),c⟩)
  ·exact q 1 rfl (jx _ ⟨(a.k1h),c⟩)
instance:CL prog 138 (type_of% @w_4):=⟨@w_4⟩
theorem w_5 {h:Bool} {i:LI} {j:Hdr} {out:Int×Bool} (c:m_bu h i=some out) (n:imm (rI .u32) j.v i∈ros) (a:St w0 ros rs w):
  Calls prog 104 #[.agg #[.bool h,j.v]] w (rv w0 ros rs (.tuple #[iV out.1,.bool out.2])):=by
 refine en func104 rfl ntmps104 fun Q o=>?_
 refine v 0 ?_
 refine fun k _ _ b _ _ d _ _ w a=>⟨vt,fun _ c=>?_⟩
 refine bE c fun l m c=>?_
 refine lp m [1] (fun (e,f)=>[(4,.int .u64 e),(5,iV f)]) (fun (e,f)=>St w0 ros (row 93 (rI .u32) d.v b.2::box k 52 [.bool b.1,d.v]::rs)) (fun | l=>(.exit 0,[(4,.int .u64 l)],St w0 ros (row 93 (rI .u32) d.v b.2::box k 52 [.bool b.1,d.v]::rs))) rfl (a.k10) rfl ?_ ?_
 ·clear a
  intro g w a
  exact vx
 rintro ⟨e,f⟩ g w p a c
 exact vx
instance:CL prog 104 (type_of% @w_5):=⟨@w_5⟩
theorem w_6 {e n:Bool} {o:LI} {l:Int} {p:Bool} {f:Int} {r:Hdr} {out:Int} (c:m_bx e n o l p f=some out) (D:imm (rI .u32) r.v o∈ros) (E:globF∈ros) (a:St w0 ros rs w):
  Calls prog 93 #[.bool e,.agg #[.bool n,r.v],iV l,.bool p,iV f] w (rv w0 ros rs (.int .u64 out)):=by
 refine en func93 rfl ntmps93 fun Q h=>?_
 refine z 3 12 ?_;intro F w a t G c w a
 refine cI c (fun u c=>?_) fun u c=>?_
 ·refine z 1 5 ?_;intro H I c w a
  cases c
  exact za h results93 ⟨rfl,(a.k14)⟩
 ·refine z 1 10 ?_;intro x w a
  refine jC (Bool×LI×Hdr) [0,4,12,13] (fun (i,j,k)=>[]) (fun (i,j,k) w=>St w0 (imm (rI .u32) k.v j::ros) (box x 52 [.bool i,k.v]::rs) w∧m_bw e f l t i j=some out) rfl ?_ ?_
  ·rintro ⟨i,j,k⟩ g w ⟨a,c⟩
   refine z 2 14 ?_;intro J K c w a
   refine jC (Int×Int) [0,4] (fun (b,d)=>[(12,iV b),(14,iV d)]) (fun (b,d) w=>St w0 ros rs w∧m_bv e f b d=some out) rfl ?_ ?_
   ·rintro ⟨b,d⟩ g w ⟨a,c⟩
    refine q 8 rfl ?_
    refine jW 4 [0,4,12,14] [(61,.bool ((decide ((4503599627370496:Int)≤d)) && (decide ((1024:Int) < (wa .i64 b 53)))))] (St w0 ros rs) rfl (fun s=>?_) ?_
    ·refine gB 57 rfl (fun m=>?_) fun m=>?_
     ·exact q 4 rfl (s _ _ a (J1 (Z0 Value.bool (J5 m)) rfl))
     ·exact q 4 rfl (s _ _ a (J1 (Z0 Value.bool (K5 m)) rfl))
    intro g w a
    refine q 3 rfl ?_
    refine cJ c (fun y c=>?_) fun y c=>?_
    ·refine z 1 6 ?_;intro L N c w a
     cases c
     exact za h results93 ⟨rfl,a⟩
    ·refine q 7 rfl (cI c (fun A c=>?_) fun A c=>?_)
     ·refine z 1 6 ?_;intro O R c w a
      cases c
      exact za h results93 ⟨rfl,a⟩
     ·refine z 1 4 ?_;intro S T c w a
      cases c
      exact za h results93 ⟨rfl,a⟩
   refine cI c (fun B c=>?_) fun B c=>?_
   ·exact q 10 rfl (jx (_,_) ⟨((a.k14).fc),c⟩)
   ·exact q 1 rfl (jx (_,_) ⟨((a.k14).fc),c⟩)
  refine cI c (fun C c=>?_) fun C c=>?_
  ·refine z 3 1 ?_;intro U V c W w a w a
   exact jx (_,_,_) ⟨(a.k11),c⟩
  ·refine z 3 1 ?_;intro X Z c a0 w a w a
   replace a:=(a.k10).fz
   exact jx (_,_,_) ⟨(a.k11),c⟩
instance:CL prog 93 (type_of% @w_6):=⟨@w_6⟩
theorem w_7 {b d:Bool} {e:LI} {f g:Int} {h:Hdr} {out:Int} (c:m_by b d e f g=some out) (i:imm (rI .u32) h.v e∈ros) (j:globF∈ros) (a:St w0 ros rs w):
  Calls prog 42 #[.agg #[.bool b,.bool d,h.v,iV f],iV g] w (rv w0 ros rs (.int .u64 out)):=by
 exact en func42 rfl ntmps42 fun Q k=>vx
instance:CL prog 42 (type_of% @w_7):=⟨@w_7⟩
theorem w_8 {b d out:Int} (c:m_bz b d=some out) (e:globF∈ros) (a:St w0 ros rs w):
  Calls prog 34 #[iV b,iV d] w (rv w0 ros rs (.int .u64 out)):=by
 exact en func34 rfl ntmps34 fun Q f=>vx
instance:CL prog 34 (type_of% @w_8):=⟨@w_8⟩
theorem w_9 {b out:Int} (c:m_b0 b=some out) (d:globF∈ros) (a:St w0 ros rs w):
  Calls prog 92 #[.int .u64 b] w (rv w0 ros rs (.int .u64 out)):=by
 exact en func92 rfl ntmps92 fun Q e=>vx
instance:CL prog 92 (type_of% @w_9):=⟨@w_9⟩
theorem Ap {b d out:Int} (c:m_b1 b d=some out) (e:globF∈ros) (a:St w0 ros rs w):
  Calls prog 39 #[.int .u64 b,iV d] w (rv w0 ros rs (.int .u64 out)):=by
 exact en func39 rfl ntmps39 fun Q f=>vx
instance:CL prog 39 (type_of% @Ap):=⟨@Ap⟩
theorem vp {L:LI} {d f N:Int} {O:Hdr} {out:Int×Int×LI×LI×LI} (c:m_b5 L d f N=some out) (a6:imm (rI .u64) O.v L∈ros) (a7:globF∈ros) (a:St w0 ros rs w):
  Calls prog 11 #[O.v,iV d,iV f,iV N] w (fun e w=>∃ (R S T:Hdr),e=.returned (.agg #[iV out.1,iV out.2.1,R.v,S.v,T.v])∧St w0 ros (row 3 I1 R.v out.2.2.1::row 3 I1 S.v out.2.2.2.1::row 46 (rI .u64) T.v out.2.2.2.2::rs) w):=by
 refine en func11 rfl ntmps11 fun Q Z=>?_
 refine z 1 6 ?_;intro j w a
 refine yh (rLt (n:=1) (l:=[0]) a W0 [iV 0] (bp1 rfl) rfl rfl (N1 (cs:=[iV 0]) rfl mkI Y1)) fun a8 w a=>?_
 refine z 3 9 ?_;intro k w a w a
 obtain ⟨⟨U,V,W⟩,a0,c⟩:=bs c
 replace a:=(a.rowNh 3 I1).rowNh 46 (rI .u64)
 refine lpN (Hdr×Hdr×Hdr) (Hdr×Hdr×Hdr) a0 [0,1,2,3,8,9] (fun (i,A,B,C) (b,p,r)=>[(10,iV C)]) (fun (i,A,B,C) (b,p,r)=>St w0 ros (box j 27 [iV 0,iV 0,hnil.v,hnil.v,hnil.v]::row 3 I1 b.v i::row 3 I1 p.v A::row 46 (rI .u64) r.v B::box k 27 [iV d,iV f,b.v,p.v,r.v]::rs)) (fun | (U,V,W),(D,E,F)=>(.exit 0,[],St w0 ros (box j 27 [iV 0,iV 0,hnil.v,hnil.v,hnil.v]::row 3 I1 D.v U::row 3 I1 E.v V::row 46 (rI .u64) F.v W::box k 27 [iV d,iV f,D.v,E.v,F.v]::rs))) rfl (_,_,_) (a.k35) rfl ?_ ?_
 ·clear a
  rintro ⟨D,E,F⟩ g w a
  refine z 2 3 ?_;intro w a
  cases c
  exact Z _ _ _ (I3 results11 (A4 rfl rfl a R0 L9 rfl) ⟨_,_,_,rfl,(a.k1y)⟩)
 rintro ⟨i,A,B,C⟩ ⟨b,p,r⟩ g w a9 a c
 refine q 8 rfl (cI c (fun a1 c=>?_) fun a1 c=>?_)
 ·refine q 11 rfl ?_
  obtain ⟨⟨m,X⟩,a2,c⟩:=bs c
  refine lpN (Hdr×Hdr) (Hdr×Hdr) a2 [0,1,2,3,8,9,10] (fun (G,H,h) (s,o)=>[(11,iV h)]) (fun (G,H,h) (s,o)=>St w0 ros (box j 27 [iV 0,iV 0,hnil.v,hnil.v,hnil.v]::row 3 I1 b.v i::row 3 I1 s.v G::row 46 (rI .u64) o.v H::box k 27 [iV d,iV f,b.v,s.v,o.v]::rs)) (fun | (m,X),(I,J)=>(.exit 2,[],St w0 ros (box j 27 [iV 0,iV 0,hnil.v,hnil.v,hnil.v]::row 3 I1 b.v i::row 3 I1 I.v m::row 46 (rI .u64) J.v X::box k 27 [iV d,iV f,b.v,I.v,J.v]::rs))) rfl (_,_) a rfl ?_ ?_
  ·clear a
   rintro ⟨I,J⟩ g w a
   refine z 3 0 ?_
   refine yh (rLt (n:=1) (l:=[(m.length:Int)]) a W0 [iV (m.length:Int)] (bp1 e0) rfl rfl (N1 (cs:=[iV (m.length:Int)]) rfl mkI Y1)) fun b0 w a=>?_
   refine z 2 8 ?_;intro b1 b2 c b3 w a w a
   cases c
   exact ln (_,_,_) (a.k36)
  rintro ⟨G,H,h⟩ ⟨s,o⟩ g w a3 a c
  refine q 8 rfl (cI c (fun a4 c=>?_) fun a4 c=>?_)
  ·refine z 1 11 ?_;intro b4 b5 c w a
   refine jC (LI×LI×Hdr×Hdr) [0,1,2,3,8,9,10,11] (fun (t,u,x,y)=>[]) (fun (t,u,x,y) w=>St w0 ros (box j 27 [iV 0,iV 0,hnil.v,hnil.v,hnil.v]::row 3 I1 b.v i::row 3 I1 x.v t::row 46 (rI .u64) y.v u::box k 27 [iV d,iV f,b.v,x.v,y.v]::rs) w∧m_b2 h t u=some a3) rfl ?_ ?_
   ·rintro ⟨t,u,x,y⟩ g w ⟨a,c⟩
    refine q 7 rfl ?_
    cases c
    exact ln (_,_) a
   refine cI c (fun a5 c=>?_) fun a5 c=>?_
   ·refine z 1 1 ?_
    refine yh (rLt (n:=1) (l:=[h]) a W0 [iV h] (bp1 e0) rfl rfl (N1 (cs:=[iV h]) rfl mkI Y1)) fun b7 w a=>?_
    refine z 2 2 ?_;intro b9 c0 c c1 w a w a
    refine bE c fun K c2 c=>bE c fun c3 c4 c=>dS [4,5,6,8] 4 C1 ?_
    replace a:=a.drew
    refine z 2 0 ?_;intro w a
    refine dU (D1 0 3 5 rfl (Rn (qS rfl (sY rfl (lb_ o.v Oa e0 a R0) QSn)) (LH wn (rLt (n:=1) (l:=[K]) a ka [.int .u64 K] (bp1 e0) rfl rfl (N1 (cs:=[.int .u64 K]) rfl mkI Y1)) fun c5 w a=>dU ?_)))
    refine z 3 0 ?_;intro c6 w a w a
    exact jx (_,_,_,_) ⟨(a.k37),c⟩
   ·exact q 1 rfl (jx (_,_,_,_) ⟨a,c⟩)
  ·refine q 2 rfl ?_
   cases c
   exact lx (_,_) a
 ·refine q 2 rfl ?_
  cases c
  exact lx (_,_,_) a
instance:CL prog 11 (type_of% @vp):=⟨@vp⟩
theorem rp {d:LI} {e:Hdr} {out:Bool} (c:m_b7 d=some out) (i:imm (rI .u64) e.v d∈ros) (a:St w0 ros rs w):
  Calls prog 44 #[e.v] w (rv w0 ros rs (.bool out)):=by
 refine en func44 rfl ntmps44 fun Q j=>bE c fun f h c=>q 12 rfl ?_
 refine lp h [0] (fun b=>[(3,iV b)]) (fun b=>St w0 ros rs) (fun | .inl ()=>(.exit 0,[],St w0 ros rs) | .inr ()=>(.ret,[(2,.bool false)],St w0 ros rs)) rfl a rfl ?_ ?_
 ·clear a
  intro g w a
  rcases f with ⟨⟩ | ⟨⟩
  ·exact vx
  ·exact vx
 rintro b g w k a c
 exact vx
instance:CL prog 44 (type_of% @rp):=⟨@rp⟩
theorem qp {b e:Int} {D y E:LI} {f d i:Hdr} {out:Int} (c:m_cb b e D y E=some out) (A:imm I1 f.v D∈ros) (h:imm I1 d.v y∈ros) (c9:imm (rI .u64) i.v E∈ros) (a:St w0 ros rs w):
  Calls prog 15 #[.agg #[iV b,iV e,f.v,d.v,i.v]] w (rv w0 ros rs (iV out)):=by
 refine en func15 rfl ntmps15 fun Q r=>?_
 refine z 2 2 ?_;intro j w a
 refine jW 4 [1] [(14,.bool ((decide (b < 0)) || (decide ((200:Int) < b))))] (St w0 ros (box j 27 [iV b,iV e,f.v,d.v,i.v]::rs)) rfl (fun S=>?_) ?_
 ·refine gB 10 rfl (fun F=>?_) fun F=>?_
  ·exact q 4 rfl (S _ _ a (J1 (Z0 Value.bool (orT F)) rfl))
  ·refine z 1 2 ?_
   exact S _ _ a (J1 (Z0 Value.bool (orF F)) rfl)
 intro g w a
 refine q 1 rfl ?_
 refine jW 4 [1] [(19,.bool (((decide (b < 0)) || (decide ((200:Int) < b))) || (decide (e < 0))))] (St w0 ros (box j 27 [iV b,iV e,f.v,d.v,i.v]::rs)) rfl (fun T=>?_) ?_
 ·refine gB 15 rfl (fun G=>?_) fun G=>?_
  ·exact q 4 rfl (T _ _ a (J1 (Z0 Value.bool (orT G)) rfl))
  ·refine z 1 2 ?_
   exact T _ _ a (J1 (Z0 Value.bool (orF G)) rfl)
 intro g w a
 refine q 1 rfl ?_
 refine jW 4 [1] [(24,.bool ((((decide (b < 0)) || (decide ((200:Int) < b))) || (decide (e < 0))) || (decide ((200:Int) < e))))] (St w0 ros (box j 27 [iV b,iV e,f.v,d.v,i.v]::rs)) rfl (fun U=>?_) ?_
 ·refine gB 20 rfl (fun H=>?_) fun H=>?_
  ·exact q 4 rfl (U _ _ a (J1 (Z0 Value.bool (orT H)) rfl))
  ·refine z 1 2 ?_
   exact U _ _ a (J1 (Z0 Value.bool (orF H)) rfl)
 intro g w a
 refine q 1 rfl ?_
 refine jW 5 [1] [(30,.bool (((((decide (b < 0)) || (decide ((200:Int) < b))) || (decide (e < 0))) || (decide ((200:Int) < e))) || (decide ((10000:Int) < (y.length:Int)))))] (St w0 ros (box j 27 [iV b,iV e,f.v,d.v,i.v]::rs)) rfl (fun V=>?_) ?_
 ·refine gB 25 rfl (fun I=>?_) fun I=>?_
  ·exact q 5 rfl (V _ _ a (J1 (Z0 Value.bool (orT I)) rfl))
  ·refine z 2 2 ?_
   exact V _ _ a (J1 (Z0 Value.bool (orF I)) rfl)
 intro g w a
 refine q 2 rfl ?_
 refine cJ c (fun a6 c=>?_) fun a6 c=>?_
 ·refine q 7 rfl ?_
  cases c
  exact za r results15 ⟨rfl,(a.k14)⟩
 ·refine z 4 3 ?_
  refine jW 8 [1,3] [(47,.bool ((!(decide ((E.length:Int)=(y.length:Int)))) || (!(decide ((D.length:Int)=(wa .i64 e 1))))))] (St w0 ros (box j 27 [iV b,iV e,f.v,d.v,i.v]::rs)) rfl (fun W=>?_) ?_
  ·refine gB 39 rfl (fun J=>?_) fun J=>?_
   ·exact q 8 rfl (W _ _ a (J1 (Z0 Value.bool (orT J)) rfl))
   ·refine z 3 3 ?_
    exact W _ _ a (J1 (Z0 Value.bool (orF J)) rfl)
  intro g w a
  refine bE c fun a7 n c=>q 1 rfl ?_
  refine jW 6 [1,3] [(54,.bool a7)] (St w0 ros (box j 27 [iV b,iV e,f.v,d.v,i.v]::rs)) rfl (fun X=>?_) ?_
  ·refine gJ 48 n rfl (fun a8 n=>?_) fun a8 n=>?_
   ·refine q 6 rfl ?_
    cases n
    exact X _ _ a rfl
   ·refine z 1 0 ?_
    refine bE n fun d0 d1 n=>?_
    refine z 2 2 ?_
    cases n
    exact X _ _ a rfl
  intro g w a
  refine bE c fun a9 o c=>q 1 rfl ?_
  refine jW 9 [1] [(64,.bool a9)] (St w0 ros (box j 27 [iV b,iV e,f.v,d.v,i.v]::rs)) rfl (fun Z=>?_) ?_
  ·refine gJ 55 o rfl (fun b0 o=>?_) fun b0 o=>?_
   ·refine q 9 rfl ?_
    cases o
    exact Z _ _ a rfl
   ·refine z 2 0 ?_
    refine bE o fun d2 d3 o=>?_
    refine z 2 3 ?_
    cases o
    exact Z _ _ a rfl
  intro g w a
  refine q 2 rfl ?_
  refine cJ c (fun b1 c=>?_) fun b1 c=>?_
  ·refine q 7 rfl ?_
   cases c
   exact za r results15 ⟨rfl,(a.k14)⟩
  ·refine q 9 rfl (bE c fun b2 b3 c=>?_)
   refine lp b3 [1] (fun K=>[(4,iV K)]) (fun K=>St w0 ros (box j 27 [iV b,iV e,f.v,d.v,i.v]::rs)) (fun | .inl ()=>(.exit 0,[],St w0 ros (box j 27 [iV b,iV e,f.v,d.v,i.v]::rs)) | .inr ()=>(.ret,[(2,iV 1)],St w0 ros rs)) rfl a rfl ?_ ?_
   ·clear a
    intro g w a
    rcases b2 with ⟨⟩ | ⟨⟩
    ·refine q 9 rfl (bE c fun b4 b5 c=>?_)
     refine lp b5 [1] (fun L=>[(5,iV L)]) (fun L=>St w0 ros (box j 27 [iV b,iV e,f.v,d.v,i.v]::rs)) (fun | .inl ()=>(.exit 2,[],St w0 ros (box j 27 [iV b,iV e,f.v,d.v,i.v]::rs)) | .inr ()=>(.ret,[(2,iV 1)],St w0 ros rs)) rfl a rfl ?_ ?_
     ·clear a
      intro g w a
      rcases b4 with ⟨⟩ | ⟨⟩
      ·refine z 2 3 ?_;intro d4 d5 c w a
       refine cJn c (fun b6 c=>?_) fun b6 c=>?_
       ·refine q 8 rfl ?_
        cases c
        exact za r results15 ⟨rfl,(a.k14)⟩
       ·refine q 7 rfl ?_
        cases c
        exact za r results15 ⟨rfl,(a.k14)⟩
      ·refine q 2 rfl ?_
       cases c
       exact za r results15 ⟨rfl,a⟩
     rintro L g w d6 a c
     refine z 1 3 ?_
     refine cI c (fun b7 c=>?_) fun b7 c=>?_
     ·refine z 3 4 ?_;intro d7 d8 c
      refine bE c fun b8 c0 c=>?_
      refine lp c0 [1,5] (fun N=>[(6,iV N)]) (fun N=>St w0 ros (box j 27 [iV b,iV e,f.v,d.v,i.v]::rs)) (fun | .inl ()=>(.exit 4,[],St w0 ros (box j 27 [iV b,iV e,f.v,d.v,i.v]::rs)) | .inr ()=>(.ret,[(2,iV 1)],St w0 ros rs)) rfl a rfl ?_ ?_
      ·clear a
       intro g w a
       rcases b8 with ⟨⟩ | ⟨⟩
       ·refine q 8 rfl ?_
        cases c
        exact lo a
       ·refine q 3 rfl ?_
        cases c
        exact xo a
      rintro N g w d9 a c
      refine z 3 3 ?_;intro e1 e2 c
      refine cI c (fun c1 c=>?_) fun c1 c=>?_
      ·refine q 5 rfl (bE c fun e3 m c=>bE c fun t p c=>bE c fun u k c=>?_)
       refine jN Unit [1,5,6] (fun _=>[(142,.bool u)]) (fun _=>St w0 ros (box j 27 [iV b,iV e,f.v,d.v,i.v]::rs)) rfl ?_ ?_
       ·rcases Z5 p with ⟨x,p⟩ | ⟨x,p⟩
        ·have a0:=U1 p
         have a1:t=true:=a0.symm
         rw [M0 a1] at k
         have c2:=U1 k
         refine dS [] 0 C1 ?_
         replace a:=a.drew
         refine Dw 549755813887 0 (qR 1 rfl (rQ rfl (lb_ d.v M1 e0 a R0) (qR 1 rfl (rQ rfl (yIa W0 e0 e0 a (rdI h) m) (rQ rfl (yI O_3 e0 a (rdI h) m) (qR 2 rfl (rK 110 rfl (dT x) (qR 8 rfl (rQ rfl (pt_ (.bool t) e0 rfl (eqv a0 rfl)) (qR 1 rfl (rK 120 rfl a1 (qR 21 rfl (rQ rfl (pt_ (.bool u) e0 rfl (eqv c2 rfl)) ?_)))))))))))))
         exact Rn QSn (jr () a)
        ·refine bE p fun e4 s p=>?_
         have O:=U1 p
         rcases Z5 k with ⟨B,k⟩ | ⟨B,k⟩
         ·have c3:=U1 k
          refine dS [] 0 C1 ?_
          replace a:=a.drew
          refine Dw 549755813887 0 (qR 1 rfl (rQ rfl (lb_ d.v M1 e0 a R0) (qR 1 rfl (rQ rfl (yIa W0 e0 e0 a (rdI h) m) (rQ rfl (yI O_3 e0 a (rdI h) m) (qR 2 rfl (rK 110 rfl (dF x) (qR 1 rfl (rQ rfl (lb_ d.v M1 e0 a R0) (qR 1 rfl (rQ rfl (yIa W0 e0 e0 a (rdI h) s) (rQ rfl (yI O_3 e0 a (rdI h) s) (qR 1 rfl ?_)))))))))))))
          exact rQ rfl (lb_ (iV b) O_3 e0 a R0) (qR 1 rfl (rQ rfl (pf_ (.bool t) e0 rfl (eqv O e0)) (qR 1 rfl (rK 120 rfl B (qR 21 rfl (rQ rfl (pt_ (.bool u) e0 rfl (eqv c3 rfl)) (Rn QSn (jr () a))))))))
         ·refine bE k fun e5 C k=>bE k fun a2 l k=>?_
          have a3:=U1 k
          rcases Z5 l with ⟨R,l⟩ | ⟨R,l⟩
          ·refine bE l fun e6 a4 l=>bE l fun e7 a5 l=>?_
           have c4:=U1 l
           refine dS [] 0 C1 ?_
           replace a:=a.drew
           refine Dw 549755813887 0 (qR 1 rfl (rQ rfl (lb_ d.v M1 e0 a R0) (qR 1 rfl (rQ rfl (yIa W0 e0 e0 a (rdI h) m) (rQ rfl (yI O_3 e0 a (rdI h) m) (qR 2 rfl (rK 110 rfl (dF x) (qR 1 rfl (rQ rfl (lb_ d.v M1 e0 a R0) (qR 1 rfl (rQ rfl (yIa W0 e0 e0 a (rdI h) s) (rQ rfl (yI O_3 e0 a (rdI h) s) (qR 1 rfl ?_)))))))))))))
           refine rQ rfl (lb_ (iV b) O_3 e0 a R0) (qR 1 rfl (rQ rfl (pf_ (.bool t) e0 rfl (eqv O e0)) (qR 1 rfl (rK 120 rfl (J3 B) (qR 2 rfl (rQ rfl (lb_ f.v M1 e0 a R0) (qR 1 rfl (rQ rfl (yIa W0 e0 e0 a (rdI A) C) (rQ rfl (yI O_3 e0 a (rdI A) C) (qR 2 rfl (rK 128 rfl (dT R) (qR 1 rfl (rQ rfl (lb_ d.v M1 e0 a R0) ?_)))))))))))))
           exact qR 1 rfl (rQ rfl (yIa W0 e0 e0 a (rdI h) a4) (rQ rfl (yI O_3 e0 a (rdI h) a4) (qR 1 rfl (rQ rfl (lb_ d.v M1 e0 a R0) (qR 2 rfl (rQ rfl (yIa W0 e0 e0 a (rdI h) a5) (rQ rfl (yI O_3 e0 a (rdI h) a5) (qR 1 rfl (rQ rfl (pt_ (.bool a2) e0 rfl (eqv c4 e0)) (rQ rfl (pf_ (.bool u) e0 rfl (eqv a3 e0)) (Rn QSn (jr () a))))))))))))
          ·have c5:=U1 l
           refine dS [] 0 C1 ?_
           replace a:=a.drew
           refine Dw 549755813887 0 (qR 1 rfl (rQ rfl (lb_ d.v M1 e0 a R0) (qR 1 rfl (rQ rfl (yIa W0 e0 e0 a (rdI h) m) (rQ rfl (yI O_3 e0 a (rdI h) m) (qR 2 rfl (rK 110 rfl (dF x) (qR 1 rfl (rQ rfl (lb_ d.v M1 e0 a R0) (qR 1 rfl (rQ rfl (yIa W0 e0 e0 a (rdI h) s) (rQ rfl (yI O_3 e0 a (rdI h) s) (qR 1 rfl ?_)))))))))))))
           refine rQ rfl (lb_ (iV b) O_3 e0 a R0) (qR 1 rfl (rQ rfl (pf_ (.bool t) e0 rfl (eqv O e0)) (qR 1 rfl (rK 120 rfl (J3 B) (qR 2 rfl (rQ rfl (lb_ f.v M1 e0 a R0) (qR 1 rfl (rQ rfl (yIa W0 e0 e0 a (rdI A) C) (rQ rfl (yI O_3 e0 a (rdI A) C) (qR 2 rfl (rK 128 rfl (dF R) (qR 12 rfl (rQ rfl (pf_ (.bool a2) e0 rfl (eqv c5 rfl)) ?_)))))))))))))
           exact rQ rfl (pf_ (.bool u) e0 rfl (eqv a3 e0)) (Rn QSn (jr () a))
       rintro _ g w a
       refine q 1 rfl ?_
       refine cJ c (fun c6 c=>?_) fun c6 c=>?_
       ·refine q 8 rfl ?_
        cases c
        exact xo (a.k14)
       ·refine q 8 rfl ?_
        cases c
        exact lo a
      ·refine q 2 rfl ?_
       cases c
       exact xo a
     ·refine q 2 rfl ?_
      cases c
      exact xo a
    ·refine q 2 rfl ?_
     cases c
     exact za r results15 ⟨rfl,a⟩
   rintro K g w e8 a c
   refine z 1 3 ?_
   refine cI c (fun c7 c=>?_) fun c7 c=>?_
   ·refine q 5 rfl (bE c fun e9 f0 c=>bE c fun f1 f2 c=>dS [] 0 C1 ?_)
    replace a:=a.drew
    refine z 7 1 ?_
    refine cI c (fun c8 c=>?_) fun c8 c=>?_
    ·refine q 8 rfl ?_
     cases c
     exact xo (a.k14)
    ·refine q 8 rfl ?_
     cases c
     exact lo a
   ·refine q 2 rfl ?_
    cases c
    exact xo a
instance:CL prog 15 (type_of% @qp):=⟨@qp⟩
theorem np {d b:Int} {n o p:LI} {r e:Int} {f h i:Hdr} {out:Int} (c:m_cd d b n o p r e=some out) (B:imm I1 f.v n∈ros) (C:imm I1 h.v o∈ros) (D:imm (rI .u64) i.v p∈ros) (a:St w0 ros rs w):
  Calls prog 14 #[.agg #[iV d,iV b,f.v,h.v,i.v],iV r,iV e] w (rv w0 ros rs (.int .u64 out)):=by
 refine en func14 rfl ntmps14 fun Q E=>?_
 refine z 3 2 ?_;intro j w a s F c w a
 refine jW 3 [1,2,3] [(14,.bool ((!(decide (s=0))) || (decide (e < 0))))] (St w0 ros (box j 27 [iV d,iV b,f.v,h.v,i.v]::rs)) rfl (fun t=>?_) ?_
 ·refine gB 11 rfl (fun k=>?_) fun k=>?_
  ·exact q 3 rfl (t _ _ a (J1 (Z0 Value.bool (orT k)) rfl))
  ·exact q 3 rfl (t _ _ a (J1 (Z0 Value.bool (orF k)) rfl))
 intro g w a
 refine q 1 rfl ?_
 refine jW 5 [1,2,3] [(20,.bool (((!(decide (s=0))) || (decide (e < 0))) || (decide (b≤e))))] (St w0 ros (box j 27 [iV d,iV b,f.v,h.v,i.v]::rs)) rfl (fun u=>?_) ?_
 ·refine gB 15 rfl (fun l=>?_) fun l=>?_
  ·exact q 5 rfl (u _ _ a (J1 (Z0 Value.bool (orT l)) rfl))
  ·refine z 1 2 ?_
   exact u _ _ a (J1 (Z0 Value.bool (orF l)) rfl)
 intro g w a
 refine v 0 ?_
 refine ⟨vt,fun _ _ _ _ c=>?_⟩
 refine bE c fun y A c=>?_
 refine lp A [1,2,3] (fun m=>[(7,iV m)]) (fun m=>St w0 ros (box j 27 [iV d,iV b,f.v,h.v,i.v]::rs)) (fun | .inl ()=>(.exit 0,[],St w0 ros rs) | .inr x=>(.ret,[(6,.int .u64 x)],St w0 ros rs)) rfl a rfl ?_ ?_
 ·clear a
  intro g w a
  rcases y with ⟨⟩ | x
  ·exact vx
  ·exact vx
 rintro m g w G a c
 exact vx
instance:CL prog 14 (type_of% @np):=⟨@np⟩
theorem kp {b out:Int} (c:m_ce b=some out) (a:St w0 ros rs w):
  Calls prog 41 #[.int .u64 b] w (rv w0 ros rs (iV out)):=by
 refine en func41 rfl ntmps41 fun Q i=>q 23 rfl ?_
 refine jW 3 [3,4] [(16,.bool ((decide ((wand .u64 (wsrc .u64 b 52) 2047)=2047)) && (!(decide ((wand .u64 b 4503599627370495)=0)))))] (St w0 ros rs) rfl (fun f=>?_) ?_
 ·refine gB 13 rfl (fun d=>?_) fun d=>?_
  ·exact q 3 rfl (f _ _ a (J1 (Z0 Value.bool (J5 d)) rfl))
  ·exact q 3 rfl (f _ _ a (J1 (Z0 Value.bool (K5 d)) rfl))
 intro g w a
 refine v 24 ?_
 refine ⟨vt,fun _ _=>⟨vt,fun _ c=>?_⟩⟩
 refine jW 3 [] [(26,.bool ((decide ((wand .u64 (wsrc .u64 b 52) 2047)=0)) && (decide ((wand .u64 b 4503599627370495)=0))))] (St w0 ros rs) rfl (fun h=>?_) ?_
 ·refine gB 23 rfl (fun e=>?_) fun e=>?_
  ·exact q 3 rfl (h _ _ a (J1 (Z0 Value.bool (J5 e)) rfl))
  ·exact q 3 rfl (h _ _ a (J1 (Z0 Value.bool (K5 e)) rfl))
 intro g w a
 exact vx
instance:CL prog 41 (type_of% @kp):=⟨@kp⟩
end Go.Proofs.YthekfonboblioacGreatDoor
