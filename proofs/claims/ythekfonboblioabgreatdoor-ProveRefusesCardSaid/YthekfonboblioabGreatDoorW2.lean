/- Walks: each function computes its model, printed. -/
import Derived.Test.YthekfonboblioabGreatDoorW1
namespace Go.Proofs.YthekfonboblioabGreatDoor
open Go Sx M Go.Proofs.Tryz
set_option maxRecDepth 100000
set_option maxHeartbeats 40000000
set_option linter.unusedVariables false
attribute [local irreducible] wpList Code.wp Calls DR QR QS LA LS St row box fam imm rowS loop
variable {w0:World} {ax:List Fact} {rs:List Res} {w:World}
theorem w_2 {b:Bool} {d:LI} {e:Int} {f:Hdr} {out:Bool} (c:m_bm b d e=some out) (g:imm xw f.v d∈ax) (a:St w0 ax rs w):
  Calls prog 195 #[.agg #[.bool b,f.v],iV e] w (rv w0 ax rs (.bool out)):=by
 exact en func195 rfl ntmps195 fun Q h=>vx
instance:CL prog 195 (type_of% @w_2):=⟨@w_2⟩
theorem w_3 {b:Bool} {d:Int} {e:Bool} {f:Int} {out:Bool} (c:m_bn b d e f=some out) (a:St w0 ax rs w):
  Calls prog 196 #[.bool b,iV d,.bool e,iV f] w (rv w0 ax rs (.bool out)):=by
 exact en func196 rfl ntmps196 fun Q g=>vx
instance:CL prog 196 (type_of% @w_3):=⟨@w_3⟩
theorem w_4 {k m:Bool} {A:LI} {B:Int} {x:Bool} {l:Int} {n:Hdr} {out:Bool×LI} (c:m_bs k m A B x l=some out) (X:imm xw n.v A∈ax) (Z:globF∈ax) (a:St w0 ax rs w):
  Calls prog 180 #[.bool k,.agg #[.bool m,n.v],iV B,.bool x,iV l] w (rb w0 ax rs out):=by
 refine en func180 rfl ntmps180 fun Q C=>?_
 refine z 8 9 ?_;intro D w a e w a b a0 c d w a f w a w a I a1 c w a
 refine jW 3 [0,2,3,4,6,10,11] [(27,.bool ((!I) && (!x)))] (St w0 ax (box D 62 [.bool m,n.v]::box e 62 [.bool false,hnil.v]::row 126 xw d.v b.2::box f 62 [.bool b.1,d.v]::rs)) rfl (fun E=>?_) ?_
 ·refine gB 24 rfl (fun y=>?_) fun y=>?_
  ·exact q 3 rfl (E _ _ (a.k1v) (O1 (C1 Value.bool (B6 y)) rfl))
  ·exact q 3 rfl (E _ _ (a.k1v) (O1 (C1 Value.bool (C6 y)) rfl))
 intro g w a
 refine q 2 rfl ?_
 refine cJ c (fun J c=>?_) fun J c=>?_
 ·refine z 2 4 ?_;intro w a
  cases c
  replace a:=(a.k16).fz
  exact C _ _ _ (M3 results180 (C4 rfl rfl a R0 P0 rfl) ⟨_,rfl,(a.k1b)⟩)
 ·refine q 14 rfl ?_
  refine jC Int [0,4,10,11] (fun o=>[(13,iV o)]) (fun o w=>St w0 ax (box e 62 [.bool false,hnil.v]::row 126 xw d.v b.2::box f 62 [.bool b.1,d.v]::rs) w∧m_bp b k l o=some out) rfl ?_ ?_
  ·rintro o g w ⟨a,c⟩
   refine z 2 2 ?_;intro a2 a3 c w a
   refine bE c fun K h c=>?_
   refine jW 4 [0,4,10,11,13] [(57,.bool K)] (St w0 (imm xw d.v b.2::ax) (box e 62 [.bool false,hnil.v]::box f 62 [.bool b.1,d.v]::rs)) rfl (fun F=>?_) ?_
   ·refine gIn 53 h rfl (fun L h=>?_) fun L h=>?_
    ·refine q 4 rfl ?_
     cases h
     exact F _ _ a rfl
    ·refine z 1 0 ?_
     refine bE h fun a4 a5 h=>?_
     refine z 1 2 ?_;intro w a
     cases h
     exact F _ _ a rfl
   intro g w a
   refine z 1 2 ?_;intro a6 a7 c w a
   refine jC (Bool×LI×Hdr) [10,11] (fun (p,r,s)=>[]) (fun (p,r,s) w=>St w0 (imm xw s.v r::ax) (box e 62 [.bool false,hnil.v]::box f 62 [.bool p,s.v]::rs) w∧m_bo p r=some out) rfl ?_ ?_
   ·rintro ⟨p,r,s⟩ g w ⟨a,c⟩
    refine z 2 3 ?_;intro w a
    cases c
    exact C _ _ _ (M3 results180 (C4 rfl rfl a R0 P0 rfl) ⟨_,rfl,(a.k19)⟩)
   refine cJ c (fun N c=>?_) fun N c=>?_
   ·refine bE c fun a8 a9 c=>bE c fun b0 b1 c=>dS [1,2,3] 3 A1 ?_
    replace a:=a.drew
    refine z 5 0 ?_;intro b2 w a b3 w a w a
    replace a:=(a.k10).fz
    exact jx (_,_,_) ⟨((a.k10).facts (S0 F0 (N0 (N0 (N0 E1))))),c⟩
   ·exact q 1 rfl (jx (_,_,_) ⟨a,c⟩)
  refine cI c (fun O c=>?_) fun O c=>?_
  ·refine z 6 2 ?_;intro b4 b5 c b6 w a b7 w a w a c0 c1 c w a
   refine bE c fun R i c=>?_
   refine jW 4 [0,2,3,4,6,10,11,13] [(42,.bool R)] (St w0 ax (box D 62 [.bool m,n.v]::box e 62 [.bool false,hnil.v]::row 126 xw d.v b.2::box f 62 [.bool b.1,d.v]::rs)) rfl (fun G=>?_) ?_
   ·refine gI 38 i rfl (fun S i=>?_) fun S i=>?_
    ·refine z 1 0 ?_
     refine bE i fun c2 c3 i=>?_
     refine z 1 2 ?_;intro w a
     cases i
     exact G _ _ ((a.k2p).fc) rfl
    ·refine q 4 rfl ?_
     cases i
     exact G _ _ ((a.k2p).fc) rfl
   intro g w a
   refine q 2 rfl ?_
   refine jC Int [0,4,10,11] (fun t=>[(13,iV t)]) (fun t w=>St w0 ax (box e 62 [.bool false,hnil.v]::row 126 xw d.v b.2::box f 62 [.bool b.1,d.v]::rs) w∧m_bq b k l t=some out) rfl ?_ ?_
   ·rintro t g w ⟨a,c⟩
    exact jx _ ⟨a,c⟩
   refine cJ c (fun T c=>?_) fun T c=>?_
   ·refine q 9 rfl (bE c fun U j c=>?_)
    refine jW 5 [0,4,10,11,13] [(49,.bool U)] (St w0 ax (box e 62 [.bool false,hnil.v]::row 126 xw d.v b.2::box f 62 [.bool b.1,d.v]::rs)) rfl (fun H=>?_) ?_
    ·refine gJ 44 j rfl (fun V j=>?_) fun V j=>?_
     ·refine q 5 rfl ?_
      cases j
      exact H _ _ (a.k2w) rfl
     ·refine z 1 2 ?_
      refine bE j fun c4 c5 j=>?_
      refine z 1 1 ?_;intro w a
      cases j
      exact H _ _ (a.k2w) rfl
    intro g w a
    refine q 2 rfl ?_
    refine jC Int [0,4,10,11] (fun u=>[(13,iV u)]) (fun u w=>St w0 ax (box e 62 [.bool false,hnil.v]::row 126 xw d.v b.2::box f 62 [.bool b.1,d.v]::rs) w∧m_br b k l u=some out) rfl ?_ ?_
    ·rintro u g w ⟨a,c⟩
     exact jx _ ⟨a,c⟩
    refine cJ c (fun W c=>?_) fun W c=>?_
    ·exact q 3 rfl (jx _ ⟨a,c⟩)
    ·exact q 1 rfl (jx _ ⟨a,c⟩)
   ·exact q 1 rfl (jx _ ⟨(a.k2w),c⟩)
  ·exact q 1 rfl (jx _ ⟨(a.k2w),c⟩)
instance:CL prog 180 (type_of% @w_4):=⟨@w_4⟩
theorem w_5 {h:Bool} {i:LI} {j:Hdr} {out:Int×Bool} (c:m_bu h i=some out) (n:imm xw j.v i∈ax) (a:St w0 ax rs w):
  Calls prog 128 #[.agg #[.bool h,j.v]] w (rv w0 ax rs (.tuple #[iV out.1,.bool out.2])):=by
 refine en func128 rfl ntmps128 fun Q o=>?_
 refine v 0 ?_
 refine fun k _ _ b _ _ d _ _ w a=>⟨vt,fun _ c=>?_⟩
 refine bE c fun l m c=>?_
 refine lp m [1] (fun (e,f)=>[(4,.int .u64 e),(5,iV f)]) (fun (e,f)=>St w0 ax (row 126 xw d.v b.2::box k 62 [.bool b.1,d.v]::rs)) (fun | l=>(.exit 0,[(4,.int .u64 l)],St w0 ax (row 126 xw d.v b.2::box k 62 [.bool b.1,d.v]::rs))) rfl (a.k10) rfl ?_ ?_
 ·clear a
  intro g w a
  exact vx
 rintro ⟨e,f⟩ g w p a c
 exact vx
instance:CL prog 128 (type_of% @w_5):=⟨@w_5⟩
theorem w_6 {e n:Bool} {o:LI} {l:Int} {p:Bool} {f:Int} {r:Hdr} {out:Int} (c:m_bx e n o l p f=some out) (D:imm xw r.v o∈ax) (E:globF∈ax) (a:St w0 ax rs w):
  Calls prog 143 #[.bool e,.agg #[.bool n,r.v],iV l,.bool p,iV f] w (rv w0 ax rs (.int .u64 out)):=by
 refine en func143 rfl ntmps143 fun Q h=>?_
 refine z 3 12 ?_;intro F w a t G c w a
 refine cI c (fun u c=>?_) fun u c=>?_
 ·refine z 1 5 ?_;intro H I c w a
  cases c
  exact za h results143 ⟨rfl,(a.k14)⟩
 ·refine z 1 10 ?_;intro x w a
  refine jC (Bool×LI×Hdr) [0,4,12,13] (fun (i,j,k)=>[]) (fun (i,j,k) w=>St w0 (imm xw k.v j::ax) (box x 62 [.bool i,k.v]::rs) w∧m_bw e f l t i j=some out) rfl ?_ ?_
  ·rintro ⟨i,j,k⟩ g w ⟨a,c⟩
   refine z 2 14 ?_;intro J K c w a
   refine jC (Int×Int) [0,4] (fun (b,d)=>[(12,iV b),(14,iV d)]) (fun (b,d) w=>St w0 ax rs w∧m_bv e f b d=some out) rfl ?_ ?_
   ·rintro ⟨b,d⟩ g w ⟨a,c⟩
    refine q 8 rfl ?_
    refine jW 4 [0,4,12,14] [(61,.bool ((decide ((4503599627370496:Int)≤d)) && (decide ((1024:Int) < (wa .i64 b 53)))))] (St w0 ax rs) rfl (fun s=>?_) ?_
    ·refine gB 57 rfl (fun m=>?_) fun m=>?_
     ·exact q 4 rfl (s _ _ a (O1 (C1 Value.bool (B6 m)) rfl))
     ·exact q 4 rfl (s _ _ a (O1 (C1 Value.bool (C6 m)) rfl))
    intro g w a
    refine q 3 rfl ?_
    refine cJ c (fun y c=>?_) fun y c=>?_
    ·refine z 1 6 ?_;intro L N c w a
     cases c
     exact za h results143 ⟨rfl,a⟩
    ·refine q 7 rfl (cI c (fun A c=>?_) fun A c=>?_)
     ·refine z 1 6 ?_;intro O R c w a
      cases c
      exact za h results143 ⟨rfl,a⟩
     ·refine z 1 4 ?_;intro S T c w a
      cases c
      exact za h results143 ⟨rfl,a⟩
   refine cI c (fun B c=>?_) fun B c=>?_
   ·exact q 10 rfl (jx (_,_) ⟨((a.k14).fc),c⟩)
   ·exact q 1 rfl (jx (_,_) ⟨((a.k14).fc),c⟩)
  refine cI c (fun C c=>?_) fun C c=>?_
  ·refine z 3 1 ?_;intro U V c W w a w a
   exact jx (_,_,_) ⟨(a.k11),c⟩
  ·refine z 3 1 ?_;intro X Z c a0 w a w a
   replace a:=(a.k10).fz
   exact jx (_,_,_) ⟨(a.k11),c⟩
instance:CL prog 143 (type_of% @w_6):=⟨@w_6⟩
theorem w_7 {b d:Bool} {e:LI} {f g:Int} {h:Hdr} {out:Int} (c:m_by b d e f g=some out) (i:imm xw h.v e∈ax) (j:globF∈ax) (a:St w0 ax rs w):
  Calls prog 86 #[.agg #[.bool b,.bool d,h.v,iV f],iV g] w (rv w0 ax rs (.int .u64 out)):=by
 exact en func86 rfl ntmps86 fun Q k=>vx
instance:CL prog 86 (type_of% @w_7):=⟨@w_7⟩
theorem w_8 {b d out:Int} (c:m_bz b d=some out) (e:globF∈ax) (a:St w0 ax rs w):
  Calls prog 44 #[iV b,iV d] w (rv w0 ax rs (.int .u64 out)):=by
 exact en func44 rfl ntmps44 fun Q f=>vx
instance:CL prog 44 (type_of% @w_8):=⟨@w_8⟩
theorem w_9 {b out:Int} (c:m_b0 b=some out) (d:globF∈ax) (a:St w0 ax rs w):
  Calls prog 47 #[.int .u64 b] w (rv w0 ax rs (.int .u64 out)):=by
 exact en func47 rfl ntmps47 fun Q e=>vx
instance:CL prog 47 (type_of% @w_9):=⟨@w_9⟩
theorem jq {b d out:Int} (c:m_b1 b d=some out) (e:globF∈ax) (a:St w0 ax rs w):
  Calls prog 16 #[.int .u64 b,iV d] w (rv w0 ax rs (.int .u64 out)):=by
 exact en func16 rfl ntmps16 fun Q f=>vx
instance:CL prog 16 (type_of% @jq):=⟨@jq⟩
theorem gj {L:LI} {d f N:Int} {O:Hdr} {out:Int×Int×LI×LI×LI} (c:m_b5 L d f N=some out) (a6:imm Ow O.v L∈ax) (a7:globF∈ax) (a:St w0 ax rs w):
  Calls prog 4 #[O.v,iV d,iV f,iV N] w (fun e w=>∃ (R S T:Hdr),e=.returned (.agg #[iV out.1,iV out.2.1,R.v,S.v,T.v])∧St w0 ax (row 3 I1 R.v out.2.2.1::row 3 I1 S.v out.2.2.2.1::row 30 Ow T.v out.2.2.2.2::rs) w):=by
 refine en func4 rfl ntmps4 fun Q Z=>?_
 refine z 1 6 ?_;intro j w a
 refine yh (rLt (n:=1) (l:=[0]) a V0 [iV 0] (bp1 rfl) rfl rfl (U1 (cs:=[iV 0]) rfl mkI E2)) fun a8 w a=>?_
 refine z 3 9 ?_;intro k w a w a
 obtain ⟨⟨U,V,W⟩,a0,c⟩:=bs c
 replace a:=(a.rowNh 3 I1).rowNh 30 Ow
 refine lpN (Hdr×Hdr×Hdr) (Hdr×Hdr×Hdr) a0 [0,1,2,3,8,9] (fun (i,A,B,C) (b,p,r)=>[(10,iV C)]) (fun (i,A,B,C) (b,p,r)=>St w0 ax (box j 26 [iV 0,iV 0,hnil.v,hnil.v,hnil.v]::row 3 I1 b.v i::row 3 I1 p.v A::row 30 Ow r.v B::box k 26 [iV d,iV f,b.v,p.v,r.v]::rs)) (fun | (U,V,W),(D,E,F)=>(.exit 0,[],St w0 ax (box j 26 [iV 0,iV 0,hnil.v,hnil.v,hnil.v]::row 3 I1 D.v U::row 3 I1 E.v V::row 30 Ow F.v W::box k 26 [iV d,iV f,D.v,E.v,F.v]::rs))) rfl (_,_,_) (a.k2x) rfl ?_ ?_
 ·clear a
  rintro ⟨D,E,F⟩ g w a
  refine z 2 3 ?_;intro w a
  cases c
  exact Z _ _ _ (M3 results4 (C4 rfl rfl a R0 J7 rfl) ⟨_,_,_,rfl,(a.k2y)⟩)
 rintro ⟨i,A,B,C⟩ ⟨b,p,r⟩ g w a9 a c
 refine q 8 rfl (cI c (fun a1 c=>?_) fun a1 c=>?_)
 ·refine q 11 rfl ?_
  obtain ⟨⟨m,X⟩,a2,c⟩:=bs c
  refine lpN (Hdr×Hdr) (Hdr×Hdr) a2 [0,1,2,3,8,9,10] (fun (G,H,h) (s,o)=>[(11,iV h)]) (fun (G,H,h) (s,o)=>St w0 ax (box j 26 [iV 0,iV 0,hnil.v,hnil.v,hnil.v]::row 3 I1 b.v i::row 3 I1 s.v G::row 30 Ow o.v H::box k 26 [iV d,iV f,b.v,s.v,o.v]::rs)) (fun | (m,X),(I,J)=>(.exit 2,[],St w0 ax (box j 26 [iV 0,iV 0,hnil.v,hnil.v,hnil.v]::row 3 I1 b.v i::row 3 I1 I.v m::row 30 Ow J.v X::box k 26 [iV d,iV f,b.v,I.v,J.v]::rs))) rfl (_,_) a rfl ?_ ?_
  ·clear a
   rintro ⟨I,J⟩ g w a
   refine z 3 0 ?_
   refine yh (rLt (n:=1) (l:=[(m.length:Int)]) a V0 [iV (m.length:Int)] (bp1 e0) rfl rfl (U1 (cs:=[iV (m.length:Int)]) rfl mkI E2)) fun b0 w a=>?_
   refine z 2 8 ?_;intro b1 b2 c b3 w a w a
   cases c
   exact ln (_,_,_) (a.k2z)
  rintro ⟨G,H,h⟩ ⟨s,o⟩ g w a3 a c
  refine q 8 rfl (cI c (fun a4 c=>?_) fun a4 c=>?_)
  ·refine z 1 11 ?_;intro b4 b5 c w a
   refine jC (LI×LI×Hdr×Hdr) [0,1,2,3,8,9,10,11] (fun (t,u,x,y)=>[]) (fun (t,u,x,y) w=>St w0 ax (box j 26 [iV 0,iV 0,hnil.v,hnil.v,hnil.v]::row 3 I1 b.v i::row 3 I1 x.v t::row 30 Ow y.v u::box k 26 [iV d,iV f,b.v,x.v,y.v]::rs) w∧m_b2 h t u=some a3) rfl ?_ ?_
   ·rintro ⟨t,u,x,y⟩ g w ⟨a,c⟩
    refine q 7 rfl ?_
    cases c
    exact ln (_,_) a
   refine cI c (fun a5 c=>?_) fun a5 c=>?_
   ·refine z 1 1 ?_
    refine yh (rLt (n:=1) (l:=[h]) a V0 [iV h] (bp1 e0) rfl rfl (U1 (cs:=[iV h]) rfl mkI E2)) fun b7 w a=>?_
    refine z 2 2 ?_;intro b9 c0 c c1 w a w a
    refine bE c fun K c2 c=>bE c fun c3 c4 c=>dS [4,5,6,8] 4 A1 ?_
    replace a:=a.drew
    refine z 2 0 ?_;intro w a
    refine dU (D1 0 3 5 rfl (Rn (qS rfl (sY rfl (lb_ o.v O9 e0 a R0) QSn)) (LH wn (rLt (n:=1) (l:=[K]) a X8 [.int .u64 K] (bp1 e0) rfl rfl (U1 (cs:=[.int .u64 K]) rfl mkI E2)) fun c5 w a=>dU ?_)))
    refine z 3 0 ?_;intro c6 w a w a
    exact jx (_,_,_,_) ⟨(a.k30),c⟩
   ·exact q 1 rfl (jx (_,_,_,_) ⟨a,c⟩)
  ·refine q 2 rfl ?_
   cases c
   exact lx (_,_) a
 ·refine q 2 rfl ?_
  cases c
  exact lx (_,_,_) a
instance:CL prog 4 (type_of% @gj):=⟨@gj⟩
theorem iq {b d e:Int} {out:Bool} (c:m_b6 b d e=some out) (a:St w0 ax rs w):
  Calls prog 89 #[iV b,iV d,iV e] w (rv w0 ax rs (.bool out)):=by
 refine en func89 rfl ntmps89 fun Q i=>q 11 rfl ?_
 refine jW 4 [] [(14,.bool ((decide (d≤b)) && (decide (b≤e))))] (St w0 ax rs) rfl (fun h=>?_) ?_
 ·refine gB 10 rfl (fun f=>?_) fun f=>?_
  ·exact q 4 rfl (h _ _ a (O1 (C1 Value.bool (B6 f)) rfl))
  ·exact q 4 rfl (h _ _ a (O1 (C1 Value.bool (C6 f)) rfl))
 intro g w a
 exact vx
instance:CL prog 89 (type_of% @iq):=⟨@iq⟩
theorem gq {b:Int} {out:Bool} (c:m_b7 b=some out) (a:St w0 ax rs w):
  Calls prog 192 #[iV b] w (rv w0 ax rs (.bool out)):=by
 exact en func192 rfl ntmps192 fun Q d=>vx
instance:CL prog 192 (type_of% @gq):=⟨@gq⟩
theorem fq {b d:Int} {out:Bool} (c:m_b8 b d=some out) (a:St w0 ax rs w):
  Calls prog 182 #[iV b,iV d] w (rv w0 ax rs (.bool out)):=by
 exact en func182 rfl ntmps182 fun Q e=>vx
instance:CL prog 182 (type_of% @fq):=⟨@fq⟩
theorem ke {d:LI} {e:Hdr} {out:Bool} (c:m_ca d=some out) (i:imm I1 e.v d∈ax) (a:St w0 ax rs w):
  Calls prog 146 #[e.v] w (rv w0 ax rs (.bool out)):=by
 refine en func146 rfl ntmps146 fun Q j=>?_
 refine z 1 5 ?_
 refine bE c fun f h c=>?_
 refine lp h [0] (fun b=>[(3,iV b)]) (fun b=>St w0 ax rs) (fun | .inl ()=>(.exit 0,[],St w0 ax rs) | .inr ()=>(.ret,[(2,.bool false)],St w0 ax rs)) rfl a rfl ?_ ?_
 ·clear a
  intro g w a
  rcases f with ⟨⟩ | ⟨⟩
  ·exact vx
  ·exact vx
 rintro b g w k a c
 exact vx
instance:CL prog 146 (type_of% @ke):=⟨@ke⟩
end Go.Proofs.YthekfonboblioabGreatDoor
