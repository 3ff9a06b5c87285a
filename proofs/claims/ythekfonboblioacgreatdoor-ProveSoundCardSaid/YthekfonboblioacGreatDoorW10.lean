/- Walks: each function computes its model, printed. -/
import Derived.Test.YthekfonboblioacGreatDoorW9
namespace Go.Proofs.YthekfonboblioacGreatDoor
open Go Sx M Go.Proofs.Tryz
set_option maxRecDepth 100000
set_option maxHeartbeats 40000000
set_option linter.unusedVariables false
attribute [local irreducible] wpList Code.wp Calls DR QR QS LA LS St row box fam imm rowS loop
variable {w0:World} {ros:List Fact} {rs:List Res} {w:World}
theorem ao {f:L2} {b:Int} {g:Hdr} {d:Nat} {out:Bool} (c:m_h5 f b=some out) (h:imm S1 g.v f∈ros) (a:St w0 ros (box d 3 [iV b]::rs) w):
  Calls prog 185 #[g.v,.func (.func 186) #[] #[(pB d)]] w (fun e w=>e=.returned (.bool out)∧St w0 ros (box d 3 [iV b]::rs) w):=by
 exact en func185 rfl ntmps185 fun Q j=>bE c fun k i c=>q 9 rfl (cZ (w_d5 i h a) fun w a=>vx)
instance:CL prog 185 (type_of% @ao):=⟨@ao⟩
theorem Uh {b:L2} {d:Int} {e:Hdr} {out:Int} (c:m_h6 b d=some out) (g:imm S1 e.v b∈ros) (a:St w0 ros rs w):
  Calls prog 160 #[e.v,iV d] w (rv w0 ros rs (iV out)):=by
 refine en func160 rfl ntmps160 fun Q h=>?_
 refine v 0 ?_
 refine fun i _ _ _ _ f _ _ _ _ _ _ _ w a=>⟨fun _ c=>?_,vt⟩
 exact y (ymf (vf:=#[]) (vc:=#[(pB f)]) a0 (a1 e0)) vx
instance:CL prog 160 (type_of% @Uh):=⟨@Uh⟩
theorem Th {b:L2} {d:Int} {e:Hdr} {out:Int} (c:m_h7 b d=some out) (f:imm S1 e.v b∈ros) (a:St w0 ros rs w):
  Calls prog 122 #[e.v,iV d] w (rv w0 ros rs (iV out)):=by
 exact en func122 rfl ntmps122 fun Q g=>vx
instance:CL prog 122 (type_of% @Th):=⟨@Th⟩
theorem Rh {b d out:Int} (c:m_h9 b d=some out) (a:St w0 ros rs w):
  Calls prog 164 #[iV b,iV d] w (rv w0 ros rs (iV out)):=by
 exact en func164 rfl ntmps164 fun Q e=>vx
instance:CL prog 164 (type_of% @Rh):=⟨@Rh⟩
theorem mf {t:L2} {u:Int} {x:Hdr} {out:L2} (c:m_ic t u=some out) (E:imm S1 x.v t∈ros) (a:St w0 ros rs w):
  Calls prog 124 #[x.v,iV u] w (fun e w=>∃ (A:Hdr) (B:List Hdr),e=.returned (A.v)∧St w0 ros (row 24 rH A.v B::fam 3 I1 B out::rs) w):=by
 refine en func124 rfl ntmps124 fun Q F=>?_
 refine z 1 4 ?_
 refine bE c fun C G c=>?_
 replace a:=((a.rowNh 24 rH).fNew 3 I1).k10
 refine lpN (Hdr×(List Hdr)) (Hdr×(List Hdr)) G [1,11,12] (fun (h,j) (d,b)=>[(5,d.v),(13,iV j)]) (fun (h,j) (d,b)=>St w0 ros (row 24 rH d.v b::fam 3 I1 b h::rs)) (fun | C,(k,m)=>(.exit 0,[(5,k.v)],St w0 ros (row 24 rH k.v m::fam 3 I1 m C::rs))) rfl (_,_) a rfl ?_ ?_
 ·clear a
  rintro ⟨k,m⟩ g w a
  refine q 9 rfl ?_
  cases c
  exact F _ _ _ (I3 results124 ⟨rfl,rfl⟩ ⟨_,_,rfl,a⟩)
 rintro ⟨h,j⟩ ⟨d,b⟩ g w R a c
 refine q 6 rfl (cI c (fun H c=>?_) fun H c=>?_)
 ·refine z 1 0 ?_;intro I J c
  obtain ⟨K,a⟩:=iLs a E J
  refine y (yCt M1 e0 a F1 rfl) ?_
  refine z 1 4 ?_
  refine bE c fun o L c=>?_
  replace a:=a.rowNh 3 I1
  refine lpN Hdr Hdr L [1,5,11,12,13,17,18] (fun (p,r) i=>[(8,i.v),(19,iV r)]) (fun (p,r) i=>St w0 (imm I1 K.v I::ros) (row 24 rH d.v b::fam 3 I1 b h::row 3 I1 i.v p::rs)) (fun | o,f=>(.exit 2,[(8,f.v)],St w0 ros (row 24 rH d.v b::fam 3 I1 b h::row 3 I1 f.v o::rs))) rfl _ ((a.k1c).facts (S0 F0 (N0 (N0 E1)))) rfl ?_ ?_
  ·clear a
   rintro f g w a
   refine q 5 rfl (yh (rLt (n:=1) (l:=[f]) a Z2 [f.v] (bp1 e0) rfl rfl (N1 rfl (mkF rfl) Y1)) fun S w a=>bE c fun T D c=>?_)
   replace a:=a.k10
   obtain ⟨U,ey110,N⟩:=mc D (a.famL R2) (show [f].length=[o].length from rfl)
   refine yh (rAp a Z2 e0 e0 rO1 N) fun V w a=>?_
   replace a:=(a.k1d).fPush
   rw [← ey110,← (ga D).1] at a
   refine q 8 rfl ?_
   cases c
   exact ln (_,_) (a.k1e)
  rintro ⟨p,r⟩ i g w W a c
  refine q 6 rfl (cI c (fun O c=>?_) fun O c=>?_)
  ·refine z 3 0 ?_;intro X Z c s a0 c w a
   refine yh (rLt (n:=1) (l:=[s]) a W0 [iV s] (bp1 e0) rfl rfl (N1 (cs:=[iV s]) rfl mkI Y1)) fun a1 w a=>?_
   refine z 1 8 ?_;intro a2 a3 c a4 w a
   cases c
   exact ln _ (a.k1g)
  ·refine q 2 rfl ?_
   cases c
   exact lx _ (a.fc)
 ·refine q 2 rfl ?_
  cases c
  exact lx (_,_) a
instance:CL prog 124 (type_of% @mf):=⟨@mf⟩
theorem Jh {f:LI} {b:Int} {g:Hdr} {d:Nat} {out:Bool} (c:m_id f b=some out) (h:imm I1 g.v f∈ros) (a:St w0 ros (box d 3 [iV b]::rs) w):
  Calls prog 163 #[g.v,(pB d)] w (fun e w=>e=.returned (.bool out)∧St w0 ros (box d 3 [iV b]::rs) w):=by
 exact en func163 rfl ntmps163 fun Q i=>vx
instance:CL prog 163 (type_of% @Jh):=⟨@Jh⟩
theorem w_ec {h:L2} {b:Int} {i:Hdr} {d:Nat} {out:Int} (c:m_if h b=some out) (k:imm S1 i.v h∈ros) (a:St w0 ros (box d 3 [iV b]::rs) w):
  Calls prog 162 #[i.v,.func (.func 163) #[] #[(pB d)]] w (fun e w=>e=.returned (iV out)∧St w0 ros (box d 3 [iV b]::rs) w):=by
 refine en func162 rfl ntmps162 fun Q p=>?_
 refine z 1 4 ?_
 refine bE c fun l m c=>?_
 refine lp m [0,1,7] (fun f=>[(8,iV f)]) (fun f=>St w0 ros (box d 3 [iV b]::rs)) (fun | .inl ()=>(.exit 0,[],St w0 ros (box d 3 [iV b]::rs)) | .inr j=>(.ret,[(4,iV j)],St w0 ros (box d 3 [iV b]::rs))) rfl a rfl ?_ ?_
 ·clear a
  intro g w a
  rcases l with ⟨⟩ | j
  ·exact vx
  ·exact vx
 rintro f g w q a c
 refine v 0 ?_
 refine ⟨fun _ _ _ n c=>?_,vt⟩
 obtain ⟨r,a⟩:=iLs a k n
 refine y (yCt M1 e0 a F1 rfl) (bE c fun s o c=>yC (Kd dE e0 (a1 e0)) (Jh o F0 a) ?_)
 rintro _ w ⟨rfl,a⟩
 refine ⟨_,rfl,?_⟩
 exact nf vx
theorem Nm {f h i out:Int} (c:m_ii f h i=some out) (a:St w0 ros rs w):
  Calls prog 187 #[iV f,iV h,iV i] w (rv w0 ros rs (iV out)):=by
 refine en func187 rfl ntmps187 fun Q l=>bE c fun j k c=>q 12 rfl ?_
 refine lp k [2] (fun (b,d,e)=>[(0,iV b),(1,iV d),(7,iV e)]) (fun (b,d,e)=>St w0 ros rs) (fun | j=>(.exit 0,[(7,iV j)],St w0 ros rs)) rfl a rfl ?_ ?_
 ·clear a
  intro g w a
  exact vx
 rintro ⟨b,d,e⟩ g w m a c
 exact vx
instance:CL prog 187 (type_of% @Nm):=⟨@Nm⟩
theorem Ih {b d out:Int} (c:m_ij b d=some out) (a:St w0 ros rs w):
  Calls prog 165 #[iV b,iV d] w (rv w0 ros rs (iV out)):=by
 exact en func165 rfl ntmps165 fun Q e=>vx
instance:CL prog 165 (type_of% @Ih):=⟨@Ih⟩
theorem Hh {h i:LI} {j k:Int} {b l:Hdr} {out:LI} (c:m_il h i j k=some out) (y:imm I1 l.v i∈ros) (a:St w0 ros (row 3 I1 b.v h::rs) w):
  Calls prog 166 #[b.v,l.v,iV j,iV k] w (fun e w=>e=.returned (.tuple #[])∧St w0 ros (row 3 I1 b.v out::rs) w):=by
 refine en func166 rfl ntmps166 fun Q p=>?_
 refine z 1 4 ?_
 refine bE c fun m r c=>?_
 refine lp r [0,2,3,10,11] (fun (d,f)=>[(12,iV f)]) (fun (d,f)=>St w0 ros (row 3 I1 b.v d::rs)) (fun | m=>(.exit 0,[],St w0 ros (row 3 I1 b.v m::rs))) rfl a rfl ?_ ?_
 ·clear a
  intro g w a
  refine q 1 rfl ?_
  cases c
  exact p _ _ _ (Nj results166 ⟨rfl,a⟩)
 rintro ⟨d,f⟩ g w A a c
 refine q 6 rfl (cI c (fun s c=>?_) fun s c=>?_)
 ·refine z 2 4 ?_;intro B C c
  refine bE c fun D n c=>bE c fun E t c=>bE c fun u x c=>bE c fun F o c=>dS [13,15] 2 C1 ?_
  replace a:=a.drew
  refine D1 8191 0 13 rfl (qR 4 rfl (rQ rfl (yIa W0 e0 e0 a rO0 n) (rQ rfl (yI O_3 e0 a rO0 n) (qR 4 rfl (rQ rfl (ra e0 e0 t) (qR 2 rfl (Rn QSn (kZ (Rh x a) fun w a=>dU (D0 16384 3 15 rfl (rQ rfl (yIs W0 e0 e0 a rO0 o) (Rn (qS rfl (qS rfl QSn)) (LT wn (W3 (cs:=[iV u]) a O_3 rfl e0 e0 rfl mkI o) ?_))))))))))))
  exact fun w a=>vx
 ·exact vx
instance:CL prog 166 (type_of% @Hh):=⟨@Hh⟩
theorem lf {b2:L2} {O:Int} {h:Hdr} {b3:List Hdr} {out:L2×LI×Int} (c:m_is b2 O=some out) (a:St w0 ros (row 24 rH h.v b3::fam 3 I1 b3 b2::rs) w):
  Calls prog 123 #[h.v,iV O] w (fun e w=>∃ (b4:List Hdr) (b5:Hdr),e=.returned (.tuple #[b5.v,iV out.2.2])∧St w0 ros (row 24 rH h.v b4::fam 3 I1 b4 out.1::row 3 I1 b5.v out.2.1::rs) w):=by
 refine en func123 rfl ntmps123 fun Q d7=>bE c fun g2 d8 c=>q 15 rfl ?_
 have r:=a
 replace a:=a.ffz
 have d:=a.guest0
 replace a:=r
 clear r
 refine yC (P9 fE (a1 e0)) (Wh d8 F0 d) ?_
 clear d
 rintro _ w ⟨rfl,d⟩
 replace a:=a.back d
 clear d
 refine ⟨_,rfl,?_⟩
 refine nf (q 4 rfl ?_)
 obtain ⟨⟨b6,b7,b8⟩,d9,c⟩:=bs c
 replace a:=a.rowNh 3 I1
 refine lpN ((List Hdr)×Hdr) ((List Hdr)×Hdr) d9 [0,1,14] (fun (R,i,S,b) (t,j)=>[(4,j.v),(5,iV S),(15,iV b)]) (fun (R,i,S,b) (t,j)=>St w0 ros (row 24 rH h.v t::fam 3 I1 t R::row 3 I1 j.v i::rs)) (fun | (b6,b7,b8),(T,U)=>(.exit 0,[(4,U.v),(5,iV b8)],St w0 ros (row 24 rH h.v T::fam 3 I1 T b6::row 3 I1 U.v b7::rs))) rfl (_,_) (a.k1c) rfl ?_ ?_
 ·clear a
  rintro ⟨T,U⟩ g w a
  refine q 11 rfl ?_
  cases c
  exact d7 _ _ _ (G4 results123 ⟨rfl,rfl⟩ ⟨rfl,rfl⟩ ⟨_,_,rfl,a⟩)
 rintro ⟨R,i,S,b⟩ ⟨t,j⟩ g w b9 a c
 refine q 6 rfl (cI c (fun e1 c=>?_) fun e1 c=>?_)
 ·refine q 3 rfl ?_
  refine jC (L2×LI×Int×(List Hdr)×Hdr) [0,1,14,15] (fun (x,A,B,C,D)=>[(4,D.v),(5,iV B)]) (fun (x,A,B,C,D) w=>St w0 ros (row 24 rH h.v C::fam 3 I1 C x::row 3 I1 D.v A::rs) w∧m_im b x A B=some b9) rfl ?_ ?_
  ·rintro ⟨x,A,B,C,D⟩ g w ⟨a,c⟩
   refine q 5 rfl ?_
   cases c
   exact ln (_,_) a
  refine z 3 8 ?_;intro m w a w a
  refine y (J6 Z2 e0 a rO1 R2) (q 3 rfl (cI c (fun e2 c=>?_) fun e2 c=>?_))
  ·refine q 5 rfl ?_
   cases c
   exact lx (_,_) (a.k1h)
  ·refine q 7 rfl (bE c fun g3 c0 c=>y (ySlF (k2:=.i64) Z2 e0 a rO1 R2 (.inl (Z0 some e0)) (.inr ⟨rfl,rfl⟩) c0) (y (ymf (vf:=#[]) (vc:=#[(pB m)]) a0 (a1 e0)) (bE c fun g4 e3 c=>?_)))
   have r:=a
   replace a:=((a.k1c).ffz).sub F0 c0
   have d:=a.guestB
   replace a:=r
   clear r
   refine yC (P9 eE (a2 e0 e0)) (w_ec e3 F1 d) ?_
   clear d
   rintro _ w ⟨rfl,d⟩
   replace a:=a.backB d
   clear d
   refine ⟨_,rfl,?_⟩
   refine nf (q 12 rfl (cI c (fun e4 c=>?_) fun e4 c=>?_))
   ·exact q 3 rfl (jx (_,_,_,_,_) ⟨(a.k1h),c⟩)
   ·refine q 10 rfl ?_
    refine jC (L2×Int×(List Hdr)) [0,1,4,6,7,14,15] (fun (E,F,f)=>[(5,iV F)]) (fun (E,F,f) w=>St w0 ros (row 24 rH h.v f::fam 3 I1 f E::row 3 I1 j.v i::box m 3 [iV b]::rs) w∧m_iq i b O E F=some b9) rfl ?_ ?_
    ·rintro ⟨E,F,f⟩ g w ⟨a,c⟩
     refine bE c fun g5 V c=>bE c fun g6 c1 c=>bE c fun e5 e6 c=>q 2 rfl (dS [11] 1 C1 ?_)
     replace a:=a.drew
     refine D1 2047 0 11 rfl (qR 3 rfl ?_)
     obtain ⟨g7,G⟩:=a.famI R1 V
     refine rQ rfl (yIa Z2 e0 e0 a rO0 G) (rQ rfl (yF1 M1 e0 a rO0 G rfl) (rQ rfl (lb_ (iV b) O_3 e0 a R3) (rQ rfl (yIa W0 e0 e0 a (rdF R1 G V) c1) (rQ rfl (yI O_3 e0 a (rdF R1 G V) c1) (qR 2 rfl (rQ rfl (ra e0 e0 e6) (Rn QSn (Ly wn (a_ (iV e5) e0) (dU ?_)))))))))
     refine z 1 2 ?_
     refine bE c fun g8 W c=>bE c fun g9 c2 c=>bE c fun h0 e7 c=>dS [8,9] 2 C1 ?_
     replace a:=a.drew
     refine D1 255 0 8 rfl (qR 2 rfl ?_)
     obtain ⟨h1,H⟩:=a.famI R1 W
     refine rQ rfl (yIa Z2 e0 e0 a rO0 H) (rQ rfl (yF1 M1 e0 a rO0 H rfl) (rQ rfl (lb_ (iV b) O_3 e0 a R3) (rQ rfl (yIa W0 e0 e0 a (rdF R1 H W) c2) (rQ rfl (yI O_3 e0 a (rdF R1 H W) c2) (qR 1 rfl (Rn QSn (kZ (Ih e7 a) fun w a=>dU ?_)))))))
     refine z 2 6 ?_
     refine bE c fun h3 c3 c=>?_
     obtain ⟨h4,X⟩:=a.famI R1 c3
     refine y (yIa Z2 e0 e0 a rO0 X) (y (yF1 M1 e0 a rO0 X rfl) (y (Y2 W0 e0 a (rdF R1 X c3)) (bE c fun c4 e8 c=>q 4 rfl ?_)))
     refine lp e8 [0,1,4,5,6,7,9,14,15,79] (fun (Z,a3)=>[(80,iV a3)]) (fun (Z,a3)=>St w0 ros (row 24 rH h.v f::fam 3 I1 f Z::row 3 I1 j.v i::box m 3 [iV b]::rs)) (fun | c4=>(.exit 2,[],St w0 ros (row 24 rH h.v f::fam 3 I1 f c4::row 3 I1 j.v i::box m 3 [iV b]::rs))) rfl a rfl ?_ ?_
     ·clear a
      intro g w a
      refine q 6 rfl (y (J6 Z2 e0 a rO0 R1) (bE c fun c5 e9 c=>q 4 rfl ?_))
      refine lp e9 [0,1,4,5,6,7,14,15,101,102] (fun (I,J)=>[(103,iV J)]) (fun (I,J)=>St w0 ros (row 24 rH h.v f::fam 3 I1 f I::row 3 I1 j.v i::box m 3 [iV b]::rs)) (fun | c5=>(.exit 4,[],St w0 ros (row 24 rH h.v f::fam 3 I1 f c5::row 3 I1 j.v i::box m 3 [iV b]::rs))) rfl a rfl ?_ ?_
      ·clear a
       intro g w a
       refine z 1 0 ?_
       refine yh (rLt (n:=1) (l:=[b]) a W0 [iV b] (bp1 e0) rfl rfl (N1 (cs:=[iV b]) rfl mkI Y1)) fun h5 w a=>?_
       refine z 1 3 ?_;intro h6 h7 c h8 w a
       exact jx (_,_,_,_,_) ⟨(a.k1i),c⟩
      rintro ⟨I,J⟩ g w f0 a c
      refine q 6 rfl (cI c (fun f1 c=>?_) fun f1 c=>?_)
      ·refine q 7 rfl (bE c fun h9 p c=>?_)
       obtain ⟨i0,k⟩:=a.famI R1 p
       refine y (yIa Z2 e0 e0 a rO0 k) (y (yF1 M1 e0 a rO0 k rfl) (bE c fun f2 o c=>q 10 rfl ?_))
       refine jW 6 [0,1,4,5,6,7,12,14,15,101,102,103] [(117,.bool f2)] (St w0 ros (row 24 rH h.v f::fam 3 I1 f I::row 3 I1 j.v i::box m 3 [iV b]::rs)) rfl (fun c6=>?_) ?_
       ·refine gIn 111 o rfl (fun f3 o=>?_) fun f3 o=>?_
        ·refine q 6 rfl ?_
         cases o
         exact c6 _ _ a rfl
        ·refine z 1 0 ?_
         refine bE o fun i1 c7 o=>y (yIa W0 e0 e0 a (rdF R1 k p) c7) (y (yI O_3 e0 a (rdF R1 k p) c7) (q 2 rfl ?_))
         cases o
         exact c6 _ _ a rfl
       intro g w a
       refine q 2 rfl ?_
       refine jC L2 [0,1,4,5,6,7,14,15,101,102,103] (fun K=>[]) (fun K w=>St w0 ros (row 24 rH h.v f::fam 3 I1 f K::row 3 I1 j.v i::box m 3 [iV b]::rs) w∧m_in J K=some f0) rfl ?_ ?_
       ·rintro K g w ⟨a,c⟩
        refine q 6 rfl ?_
        cases c
        exact lo a
       refine cJ c (fun f4 c=>?_) fun f4 c=>?_
       ·refine bE c fun i2 c8 c=>bE c fun i3 c9 c=>bE c fun u2628 gu2628 c=>bE c fun i4 f5 c=>bE c fun i5 f6 c=>dS [10] 1 C1 ?_
        replace a:=a.drew
        refine D1 1023 0 10 rfl (qR 3 rfl ?_)
        obtain ⟨i6,a5⟩:=a.famI R1 c8
        refine rQ rfl (yIa Z2 e0 e0 a rO0 a5) (rQ rfl (yF1 M1 e0 a rO0 a5 rfl) (qR 1 rfl (rQ rfl (lb_ (iV b) O_3 e0 a R3) (rQ rfl (yIa W0 e0 e0 a (rdF R1 k p) c9) (rQ rfl (yI O_3 e0 a (rdF R1 k p) c9) (qR 1 rfl (Rn QSn ?_)))))))
        replace a:=(a.k10).foc k p
        have d:=a.guestX gu2628 k a5 c8
        refine Lk wn (P9 cE (a4 e0 e0 e0 e0)) (Hh f5 F0 d) ?_
        clear d
        rintro _ w ⟨rfl,d⟩
        replace a:=a.backR d
        clear d
        refine ⟨_,rfl,?_⟩
        replace a:=a.unfoc' k f6
        refine dU ?_
        refine z 1 0 ?_
        exact jx _ ⟨(a.k1j),c⟩
       ·exact q 1 rfl (jx _ ⟨a,c⟩)
      ·refine q 2 rfl ?_
       cases c
       exact xo a
     rintro ⟨Z,a3⟩ g w i7 a c
     refine q 6 rfl (cI c (fun f7 c=>?_) fun f7 c=>?_)
     ·refine q 10 rfl (bE c fun i8 a6 c=>bE c fun i9 a7 c=>bE c fun j0 d0 c=>bE c fun f8 f9 c=>bE c fun j1 d1 c=>bE c fun j2 g0 c=>dS [17] 1 C1 ?_)
      replace a:=a.drew
      refine D0 131071 0 17 rfl (qR 2 rfl ?_)
      obtain ⟨j3,s⟩:=a.famI R1 a6
      refine rQ rfl (yIa Z2 e0 e0 a rO0 s) (rQ rfl (yF1 M1 e0 a rO0 s rfl) (qR 3 rfl ?_))
      obtain ⟨j4,L⟩:=a.famI R1 a7
      refine rQ rfl (yIa Z2 e0 e0 a rO0 L) (rQ rfl (yF1 M1 e0 a rO0 L rfl) (qR 1 rfl (rQ rfl (yIa W0 e0 e0 a (rdF R1 L a7) d0) (rQ rfl (yI O_3 e0 a (rdF R1 L a7) d0) (qR 3 rfl (rQ rfl (ra e0 e0 f9) (rQ rfl (yIs W0 e0 e0 a (rdF R1 s a6) d1) (Rn QSn ?_))))))))
      replace a:=a.k10
      refine LT wn (W3 (cs:=[iV f8]) (a.foc s a6) O_3 rfl e0 e0 rfl mkI d1) fun w a=>?_
      replace a:=a.unfoc' s g0
      refine z 1 6 ?_
      cases c
      exact lo (a.k1j)
     ·refine q 2 rfl ?_
      cases c
      exact xo a
    refine cI c (fun g1 c=>?_) fun g1 c=>?_
    ·refine q 1 rfl (bE c fun j5 d2 c=>bE c fun j6 d3 c=>bE c fun j7 a8 c=>bE c fun j8 d4 c=>dS [13,15] 2 C1 ?_)
     replace a:=a.drew
     refine D0 8191 0 13 rfl (qR 6 rfl ?_)
     obtain ⟨d5,a9⟩:=a.famI R2 d2
     refine rQ rfl (yIa Z2 e0 e0 a rO1 a9) (rQ rfl (yF1 M1 e0 a rO1 a9 rfl) (qR 2 rfl ?_))
     obtain ⟨d6,b0⟩:=a.famI R2 d3
     refine rQ rfl (yIa Z2 e0 e0 a rO1 b0) (rQ rfl (yF1 M1 e0 a rO1 b0 rfl) ?_)
     obtain ⟨j9,N⟩:=H9 (u:=d5) a8 (a.famL (mtR (mtR mhR)))
     refine rQ rfl (yIs Z2 e0 e0 a rO1 N) (Rn QSn ?_)
     replace a:=a.k10
     refine LT wn (W3 (cs:=[d5.v]) a M1 rfl e0 e0 rfl (mkF rfl) N) fun w a=>D0 16384 12 15 rfl ?_
     obtain ⟨k0,b1⟩:=H9 (u:=d6) d4 (Bf a8 N (a.famL (mtR (mtR mhR))))
     refine rQ rfl (yIs Z2 e0 e0 a rO0 b1) (Rn (qS rfl (qS rfl QSn)) (LT wn (W3 (cs:=[d6.v]) a M1 rfl e0 e0 rfl (mkF rfl) b1) fun w a=>?_))
     replace a:=(a.k16).fswap a9 d2 b0 d3 N a8 b1 d4
     refine z 2 2 ?_;intro k1 k3 c w a
     exact jx (_,_,_) ⟨(a.k1k),c⟩
    ·exact q 1 rfl (jx (_,_,_) ⟨(a.k1l),c⟩)
 ·refine q 2 rfl ?_
  cases c
  exact lx (_,_) a
instance:CL prog 123 (type_of% @lf):=⟨@lf⟩
theorem Gh {e:L2} {f:Int} {g:Hdr} {out:Int×Int} (c:m_it e f=some out) (b:imm S1 g.v e∈ros) (a:St w0 ros rs w):
  Calls prog 76 #[g.v,iV f] w (rv w0 ros rs (.tuple #[iV out.1,iV out.2])):=by
 refine en func76 rfl ntmps76 fun Q d=>bE c fun m h c=>q 10 rfl (cZ (Th h b a) fun w a=>q 10 rfl ?_)
 refine cIn c (fun i c=>?_) fun i c=>?_
 ·refine q 6 rfl (bE c fun n j c=>cT_ (mf j b a) fun o p w a=>bE c fun r k c=>q 1 rfl (cT_ (lf k a) fun s t w a=>q 11 rfl (y (Y2 W0 e0 a rO2) (q 1 rfl (y (Y2 ja e0 a (rdI b)) (q 3 rfl (cI c (fun l c=>?_) fun l c=>?_)))))))
  ·refine q 8 rfl ?_
   cases c
   exact zb d results76 ⟨rfl,(a.k1b)⟩
  ·refine q 10 rfl ?_
   cases c
   exact zb d results76 ⟨rfl,(a.k1b)⟩
 ·refine q 9 rfl ?_
  cases c
  exact zb d results76 ⟨rfl,a⟩
instance:CL prog 76 (type_of% @Gh):=⟨@Gh⟩
theorem Mm {B:List (List (Bool×LI))} {d b:Int} {C D:LI} {E:List (List (Bool×LI))} {F e f h:Hdr} {out:Bool} (c:m_iw B d b C D E=some out) (G:imm (rS (rP rB (rS (rI .u32)))) F.v B∈ros) (a0:imm I1 e.v C∈ros) (a1:imm I1 f.v D∈ros) (a3:imm (rS (rP rB (rS (rI .u32)))) h.v E∈ros) (a:St w0 ros rs w):
  Calls prog 31 #[F.v,.agg #[iV d,iV b,e.v,f.v,h.v]] w (rv w0 ros rs (.bool out)):=by
 refine en func31 rfl ntmps31 fun Q O=>?_
 refine z 3 4 ?_;intro o w a
 refine bE c fun H R c=>?_
 replace a:=a.rowNh 24 S1
 refine lpN Hdr Hdr R [0,3,16,17] (fun (j,r) i=>[(5,i.v),(18,iV r)]) (fun (j,r) i=>St w0 ros (box o 35 [iV d,iV b,e.v,f.v,h.v]::row 24 S1 i.v j::rs)) (fun | H,s=>(.exit 0,[(5,s.v)],St w0 ros (box o 35 [iV d,iV b,e.v,f.v,h.v]::row 24 S1 s.v H::rs))) rfl _ (a.k10) rfl ?_ ?_
 ·clear a
  rintro s g w a
  refine z 1 0 ?_
  refine bE c fun I S c=>?_
  have J:=a
  replace a:=(a.k10).fz
  have k:=a.guest0
  replace a:=J
  clear J
  refine yC (P9 YD (a2 e0 e0)) (Gh S F0 k) ?_
  clear k
  rintro _ w ⟨rfl,k⟩
  replace a:=a.back k
  clear k
  refine ⟨_,rfl,?_⟩
  refine nf (q 12 rfl ?_)
  refine jW 3 [] [(64,.bool ((decide (I.2=0)) && (!(decide (I.1=0)))))] (St w0 ros rs) rfl (fun K=>?_) ?_
  ·refine gB 61 rfl (fun t=>?_) fun t=>?_
   ·exact q 3 rfl (K _ _ (a.k19) (J1 (Z0 Value.bool (J5 t)) rfl))
   ·exact q 3 rfl (K _ _ (a.k19) (J1 (Z0 Value.bool (K5 t)) rfl))
  intro g w a
  refine q 4 rfl ?_
  cases c
  exact za O results31 ⟨rfl,a⟩
 rintro ⟨j,r⟩ i g w a4 a c
 refine q 6 rfl (cI c (fun T c=>?_) fun T c=>?_)
 ·refine z 4 4 ?_;intro a5 a6 c
  refine bE c fun u U c=>?_
  replace a:=a.rowNh 3 I1
  refine lpN Hdr Hdr U [0,3,5,7,16,17,18,23,24] (fun (x,y) p=>[(8,p.v),(25,iV y)]) (fun (x,y) p=>St w0 ros (box o 35 [iV d,iV b,e.v,f.v,h.v]::row 24 S1 i.v j::row 3 I1 p.v x::rs)) (fun | u,m=>(.exit 2,[(8,m.v)],St w0 ros (box o 35 [iV d,iV b,e.v,f.v,h.v]::row 24 S1 i.v j::row 3 I1 m.v u::rs))) rfl _ (a.k1c) rfl ?_ ?_
  ·clear a
   rintro m g w a
   refine q 5 rfl ?_
   replace a:=(a.k16).fz
   refine yh (rLt (n:=1) (l:=[u]) a ja [m.v] (bp1 e0) rfl rfl (N1 (cs:=[m.v]) rfl (mkS F0) Y1)) fun a7 w a=>?_
   refine z 1 8 ?_;intro a8 a9 c b0 w a
   cases c
   exact ln _ ((a.k1m).fc)
  rintro ⟨x,y⟩ p g w b1 a c
  refine q 6 rfl (cI c (fun V c=>?_) fun V c=>?_)
  ·refine z 2 4 ?_;intro b2 b3 c
   refine bE c fun b4 L c=>bE c fun W N c=>bE c fun A X c=>dS [9,13,14] 3 C1 ?_
   replace a:=a.drew
   refine D1 511 0 9 rfl (qR 2 rfl (rQ rfl (yIa L5 e0 e0 a (rdI G) L) ?_))
   obtain ⟨b5,a⟩:=iLs a G L
   refine rQ rfl (yCt W4 e0 a F1 rfl) (qR 1 rfl (rQ rfl (yIa D3 e0 e0 a (rdI F0) N) ?_))
   obtain ⟨b6,b7,a⟩:=iLd a F0 N
   obtain ⟨b8,b9,rfl,a⟩:=a.eltP
   obtain ⟨rfl,a⟩:=a.eltB
   obtain ⟨Z,rfl,a⟩:=a.eltS
   refine rQ rfl (V6 (cs:=[.bool W.1,Z.v]) P0 rfl e0 a F1) (qR 1 rfl (rQ rfl (lb_ (iV b) O_3 e0 a R0) (Rn QSn (kZ (pf X F0 a) fun w a=>dU ?_))))
   refine z 3 4 ?_
   refine yh (rLt (n:=1) (l:=[A.1]) a W0 [iV A.1] (bp1 e0) rfl rfl (N1 (cs:=[iV A.1]) rfl mkI Y1)) fun c0 w a=>?_
   refine z 1 8 ?_;intro c1 c2 c c3 w a
   cases c
   exact ln _ ((a.k1g).fc)
  ·refine q 2 rfl ?_
   cases c
   exact lx _ a
 ·refine q 2 rfl ?_
  cases c
  exact lx _ a
instance:CL prog 31 (type_of% @Mm):=⟨@Mm⟩
theorem Jm {e f:LI} {n o:Hdr} {out:LI} (c:m_iz e f=some out) (J:imm (rI .u32) n.v e∈ros) (K:imm (rI .u32) o.v f∈ros) (a:St w0 ros rs w):
  Calls prog 127 #[n.v,o.v] w (ri w0 ros rs (rI .u32) out):=by
 refine en func127 rfl ntmps127 fun Q p=>?_
 refine z 1 2 ?_
 refine jW 4 [0,1] [(19,.bool ((decide ((e.length:Int)=0)) || (decide ((f.length:Int)=0))))] (St w0 ros rs) rfl (fun r=>?_) ?_
 ·refine gB 15 rfl (fun h=>?_) fun h=>?_
  ·exact q 4 rfl (r _ _ a (J1 (Z0 Value.bool (orT h)) rfl))
  ·refine z 1 2 ?_
   exact r _ _ a (J1 (Z0 Value.bool (orF h)) rfl)
 intro g w a
 refine q 2 rfl ?_
 refine cJ c (fun A c=>?_) fun A c=>?_
 ·refine q 7 rfl ?_
  cases c
  replace a:=a.immNh (rI .u32)
  exact p _ _ _ (I3 results127 ⟨rfl,rfl⟩ ⟨_,rfl,a⟩)
 ·refine z 2 1 ?_
  refine bE c fun L B c=>yh (rMk a Z1 e0 B) fun b w a=>?_
  refine z 1 4 ?_
  refine bE c fun s C c=>?_
  refine lp C [1,5,26,27] (fun (i,j)=>[(28,iV j)]) (fun (i,j)=>St w0 ros (row 93 (rI .u32) b.v i::rs)) (fun | s=>(.exit 0,[],St w0 ros (row 93 (rI .u32) b.v s::rs))) rfl a rfl ?_ ?_
  ·clear a
   intro g w a
   refine z 1 4 ?_;intro N O c R w a
   cases c
   exact p _ _ _ (I3 results127 ⟨rfl,rfl⟩ ⟨_,rfl,(a.facts (S0 F0 (N0 (N0 E1))))⟩)
  rintro ⟨i,j⟩ g w S a c
  refine q 6 rfl (cI c (fun D c=>?_) fun D c=>?_)
  ·refine z 3 4 ?_;intro E T c
   obtain ⟨⟨t,k⟩,F,c⟩:=bs c
   refine lp F [1,5,6,7,26,27,28,33,34] (fun (l,d,m)=>[(8,.int .u64 d),(35,iV m)]) (fun (l,d,m)=>St w0 ros (row 93 (rI .u32) b.v l::rs)) (fun | (t,k)=>(.exit 2,[(8,.int .u64 k)],St w0 ros (row 93 (rI .u32) b.v t::rs))) rfl a rfl ?_ ?_
   ·clear a
    intro g w a
    refine z 1 3 ?_
    refine bE c fun U u c=>y (yIs Z1 e0 e0 a rO0 u) (yt (W3 (cs:=[.int .u32 (wc .u32 k)]) a Y3 rfl e0 e0 rfl mkI u) fun w a=>q 7 rfl ?_)
    cases c
    exact lo a
   rintro ⟨l,d,m⟩ g w V a c
   refine q 6 rfl (cI c (fun G c=>?_) fun G c=>?_)
   ·refine z 4 16 ?_;intro H W c I X c
    refine bE c fun Z x c=>y (yIs Z1 e0 e0 a rO0 x) (yt (W3 (cs:=[.int .u32 (wc .u32 (wand .u64 (wa .u64 (wa .u64 (wm .u64 (wc .u64 E) (wc .u64 H)) (wc .u64 I)) d) 4294967295))]) a Y3 rfl e0 e0 rfl mkI x) fun w a=>q 13 rfl ?_)
    cases c
    exact lo a
   ·refine q 2 rfl ?_
    cases c
    exact xo a
  ·refine q 2 rfl ?_
   cases c
   exact xo a
instance:CL prog 127 (type_of% @Jm):=⟨@Jm⟩
end Go.Proofs.YthekfonboblioacGreatDoor
