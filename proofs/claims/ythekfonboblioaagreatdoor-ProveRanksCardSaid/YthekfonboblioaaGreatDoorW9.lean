/- Walks: each function computes its model, printed. -/
import Derived.Test.YthekfonboblioaaGreatDoorW8
namespace Go.Proofs.YthekfonboblioaaGreatDoor
open Go Sx M Go.Proofs.Tryz
set_option maxRecDepth 100000
set_option maxHeartbeats 40000000
set_option linter.unusedVariables false
attribute [local irreducible] wpList Code.wp Calls DR QR QS LA LS St row box fam imm rowS loop
variable {w0:World} {ros:List Fact} {rs:List Res} {w:World}
theorem Hh {f:LI} {b:Int} {g:Hdr} {d:Nat} {out:Bool} (c:m_go f b=some out) (h:imm I1 g.v f∈ros) (a:St w0 ros (box d 3 [iV b]::rs) w):
  Calls prog 156 #[g.v,(pB d)] w (fun e w=>e=.returned (.bool out)∧St w0 ros (box d 3 [iV b]::rs) w):=by
 exact en func156 rfl ntmps156 fun Q i=>vx
instance:CL prog 156 (type_of% @Hh):=⟨@Hh⟩
theorem w_dt {h:L2} {b:Int} {i:Hdr} {d:Nat} {out:Int} (c:m_gq h b=some out) (k:imm S1 i.v h∈ros) (a:St w0 ros (box d 3 [iV b]::rs) w):
  Calls prog 157 #[i.v,.func (.func 156) #[] #[(pB d)]] w (fun e w=>e=.returned (iV out)∧St w0 ros (box d 3 [iV b]::rs) w):=by
 refine en func157 rfl ntmps157 fun Q p=>?_
 refine z 1 4 ?_
 refine bE c fun l m c=>?_
 refine lp m [0,1,7] (fun f=>[(8,iV f)]) (fun f=>St w0 ros (box d 3 [iV b]::rs)) (fun | .inl ()=>(.exit 0,[],St w0 ros (box d 3 [iV b]::rs)) | .inr j=>(.ret,[(4,iV j)],St w0 ros (box d 3 [iV b]::rs))) rfl a rfl ?_ ?_
 ·clear a
  intro g w a
  rcases l with ⟨⟩ | j
  ·exact vx
  ·exact vx
 rintro f g w q a c
 refine v 0 ?_
 refine ⟨fun _ _ _ n c=>?_,vt⟩
 obtain ⟨r,a⟩:=iLs a k n
 refine y (yCt L1 e0 a F1 rfl) (bE c fun s o c=>yC (td rD e0 (a1 e0)) (Hh o F0 a) ?_)
 rintro _ w ⟨rfl,a⟩
 refine ⟨_,rfl,?_⟩
 exact nf vx
theorem Yl {f:L2} {b:Int} {g:Hdr} {d:Nat} {out:Bool} (c:m_gr f b=some out) (h:imm S1 g.v f∈ros) (a:St w0 ros (box d 3 [iV b]::rs) w):
  Calls prog 155 #[g.v,.func (.func 156) #[] #[(pB d)]] w (fun e w=>e=.returned (.bool out)∧St w0 ros (box d 3 [iV b]::rs) w):=by
 exact en func155 rfl ntmps155 fun Q j=>bE c fun k i c=>q 9 rfl (cZ (w_dt i h a) fun w a=>vx)
instance:CL prog 155 (type_of% @Yl):=⟨@Yl⟩
theorem Gh {b:L2} {d:Int} {e:Hdr} {out:Int} (c:m_gs b d=some out) (g:imm S1 e.v b∈ros) (a:St w0 ros rs w):
  Calls prog 108 #[e.v,iV d] w (rv w0 ros rs (iV out)):=by
 refine en func108 rfl ntmps108 fun Q h=>?_
 refine v 0 ?_
 refine fun i _ _ _ _ f _ _ _ _ _ _ _ w a=>⟨fun _ c=>?_,vt⟩
 exact y (ymf (vf:=#[]) (vc:=#[(pB f)]) a0 (a1 e0)) vx
instance:CL prog 108 (type_of% @Gh):=⟨@Gh⟩
theorem Fh {b d out:Int} (c:m_gu b d=some out) (a:St w0 ros rs w):
  Calls prog 159 #[iV b,iV d] w (rv w0 ros rs (iV out)):=by
 exact en func159 rfl ntmps159 fun Q e=>vx
instance:CL prog 159 (type_of% @Fh):=⟨@Fh⟩
theorem Xe {t:L2} {u:Int} {x:Hdr} {out:L2} (c:m_gx t u=some out) (E:imm S1 x.v t∈ros) (a:St w0 ros rs w):
  Calls prog 110 #[x.v,iV u] w (fun e w=>∃ (A:Hdr) (B:List Hdr),e=.returned (A.v)∧St w0 ros (row 23 rH A.v B::fam 3 I1 B out::rs) w):=by
 refine en func110 rfl ntmps110 fun Q F=>?_
 refine z 1 4 ?_
 refine bE c fun C G c=>?_
 replace a:=((a.rowNh 23 rH).fNew 3 I1).k10
 refine lpN (Hdr×(List Hdr)) (Hdr×(List Hdr)) G [1,11,12] (fun (h,j) (d,b)=>[(5,d.v),(13,iV j)]) (fun (h,j) (d,b)=>St w0 ros (row 23 rH d.v b::fam 3 I1 b h::rs)) (fun | C,(k,m)=>(.exit 0,[(5,k.v)],St w0 ros (row 23 rH k.v m::fam 3 I1 m C::rs))) rfl (_,_) a rfl ?_ ?_
 ·clear a
  rintro ⟨k,m⟩ g w a
  refine q 9 rfl ?_
  cases c
  exact F _ _ _ (V2 results110 ⟨rfl,rfl⟩ ⟨_,_,rfl,a⟩)
 rintro ⟨h,j⟩ ⟨d,b⟩ g w R a c
 refine q 6 rfl (cI c (fun H c=>?_) fun H c=>?_)
 ·refine z 1 0 ?_;intro I J c
  obtain ⟨K,a⟩:=iLs a E J
  refine y (yCt L1 e0 a F1 rfl) ?_
  refine z 1 4 ?_
  refine bE c fun o L c=>?_
  replace a:=a.rowNh 3 I1
  refine lpN Hdr Hdr L [1,5,11,12,13,17,18] (fun (p,r) i=>[(8,i.v),(19,iV r)]) (fun (p,r) i=>St w0 (imm I1 K.v I::ros) (row 23 rH d.v b::fam 3 I1 b h::row 3 I1 i.v p::rs)) (fun | o,f=>(.exit 2,[(8,f.v)],St w0 ros (row 23 rH d.v b::fam 3 I1 b h::row 3 I1 f.v o::rs))) rfl _ ((a.k1d).facts (Q0 F0 (N0 (N0 A1)))) rfl ?_ ?_
  ·clear a
   rintro f g w a
   refine q 5 rfl (yh (rLt (n:=1) (l:=[f]) a C3 [f.v] (bp1 e0) rfl rfl (N1 rfl (mkF rfl) X1)) fun S w a=>bE c fun T D c=>?_)
   replace a:=a.k10
   obtain ⟨U,ey110,N⟩:=Wb D (a.famL R2) (show [f].length=[o].length from rfl)
   refine yh (rAp a C3 e0 e0 rO1 N) fun V w a=>?_
   replace a:=(a.k1y).fPush
   rw [← ey110,← (Ca D).1] at a
   refine q 8 rfl ?_
   cases c
   exact ln (_,_) (a.k1e)
  rintro ⟨p,r⟩ i g w W a c
  refine q 6 rfl (cI c (fun O c=>?_) fun O c=>?_)
  ·refine z 3 0 ?_;intro X Z c s a0 c w a
   refine yh (rLt (n:=1) (l:=[s]) a V0 [iV s] (bp1 e0) rfl rfl (N1 (cs:=[iV s]) rfl mkI X1)) fun a1 w a=>?_
   refine z 1 8 ?_;intro a2 a3 c a4 w a
   cases c
   exact ln _ (a.k1p)
  ·refine q 2 rfl ?_
   cases c
   exact lx _ (a.fc)
 ·refine q 2 rfl ?_
  cases c
  exact lx (_,_) a
instance:CL prog 110 (type_of% @Xe):=⟨@Xe⟩
theorem Eh {f:LI} {b:Int} {g:Hdr} {d:Nat} {out:Bool} (c:m_gy f b=some out) (h:imm I1 g.v f∈ros) (a:St w0 ros (box d 3 [iV b]::rs) w):
  Calls prog 158 #[g.v,(pB d)] w (fun e w=>e=.returned (.bool out)∧St w0 ros (box d 3 [iV b]::rs) w):=by
 exact en func158 rfl ntmps158 fun Q i=>vx
instance:CL prog 158 (type_of% @Eh):=⟨@Eh⟩
theorem w_dz {h:L2} {b:Int} {i:Hdr} {d:Nat} {out:Int} (c:m_g0 h b=some out) (k:imm S1 i.v h∈ros) (a:St w0 ros (box d 3 [iV b]::rs) w):
  Calls prog 157 #[i.v,.func (.func 158) #[] #[(pB d)]] w (fun e w=>e=.returned (iV out)∧St w0 ros (box d 3 [iV b]::rs) w):=by
 refine en func157 rfl ntmps157 fun Q p=>?_
 refine z 1 4 ?_
 refine bE c fun l m c=>?_
 refine lp m [0,1,7] (fun f=>[(8,iV f)]) (fun f=>St w0 ros (box d 3 [iV b]::rs)) (fun | .inl ()=>(.exit 0,[],St w0 ros (box d 3 [iV b]::rs)) | .inr j=>(.ret,[(4,iV j)],St w0 ros (box d 3 [iV b]::rs))) rfl a rfl ?_ ?_
 ·clear a
  intro g w a
  rcases l with ⟨⟩ | j
  ·exact vx
  ·exact vx
 rintro f g w q a c
 refine v 0 ?_
 refine ⟨fun _ _ _ n c=>?_,vt⟩
 obtain ⟨r,a⟩:=iLs a k n
 refine y (yCt L1 e0 a F1 rfl) (bE c fun s o c=>yC (td pD e0 (a1 e0)) (Eh o F0 a) ?_)
 rintro _ w ⟨rfl,a⟩
 refine ⟨_,rfl,?_⟩
 exact nf vx
theorem um {f h i out:Int} (c:m_g3 f h i=some out) (a:St w0 ros rs w):
  Calls prog 186 #[iV f,iV h,iV i] w (rv w0 ros rs (iV out)):=by
 refine en func186 rfl ntmps186 fun Q l=>bE c fun j k c=>q 12 rfl ?_
 refine lp k [2] (fun (b,d,e)=>[(0,iV b),(1,iV d),(7,iV e)]) (fun (b,d,e)=>St w0 ros rs) (fun | j=>(.exit 0,[(7,iV j)],St w0 ros rs)) rfl a rfl ?_ ?_
 ·clear a
  intro g w a
  exact vx
 rintro ⟨b,d,e⟩ g w m a c
 exact vx
instance:CL prog 186 (type_of% @um):=⟨@um⟩
theorem Qh {b d out:Int} (c:m_g4 b d=some out) (a:St w0 ros rs w):
  Calls prog 160 #[iV b,iV d] w (rv w0 ros rs (iV out)):=by
 exact en func160 rfl ntmps160 fun Q e=>vx
instance:CL prog 160 (type_of% @Qh):=⟨@Qh⟩
theorem Ph {h i:LI} {j k:Int} {b l:Hdr} {out:LI} (c:m_g6 h i j k=some out) (y:imm I1 l.v i∈ros) (a:St w0 ros (row 3 I1 b.v h::rs) w):
  Calls prog 161 #[b.v,l.v,iV j,iV k] w (fun e w=>e=.returned (.tuple #[])∧St w0 ros (row 3 I1 b.v out::rs) w):=by
 refine en func161 rfl ntmps161 fun Q p=>?_
 refine z 1 4 ?_
 refine bE c fun m r c=>?_
 refine lp r [0,2,3,10,11] (fun (d,f)=>[(12,iV f)]) (fun (d,f)=>St w0 ros (row 3 I1 b.v d::rs)) (fun | m=>(.exit 0,[],St w0 ros (row 3 I1 b.v m::rs))) rfl a rfl ?_ ?_
 ·clear a
  intro g w a
  refine q 1 rfl ?_
  cases c
  exact p _ _ _ (qj results161 ⟨rfl,a⟩)
 rintro ⟨d,f⟩ g w A a c
 refine q 6 rfl (cI c (fun s c=>?_) fun s c=>?_)
 ·refine z 2 4 ?_;intro B C c
  refine bE c fun D n c=>bE c fun E t c=>bE c fun u x c=>bE c fun F o c=>dS [13,15] 2 E1 ?_
  replace a:=a.drew
  refine D1 8191 0 13 rfl (qR 4 rfl (rQ rfl (yIa V0 e0 e0 a rO0 n) (rQ rfl (yI O_3 e0 a rO0 n) (qR 4 rfl (rQ rfl (aa e0 e0 t) (qR 2 rfl (Rn QSn (kZ (Fh x a) fun w a=>dU (D0 16384 3 15 rfl (rQ rfl (yIs V0 e0 e0 a rO0 o) (Rn (qS rfl (qS rfl QSn)) (LT wn (Q3 (cs:=[iV u]) a O_3 rfl e0 e0 rfl mkI o) ?_))))))))))))
  exact fun w a=>vx
 ·exact vx
instance:CL prog 161 (type_of% @Ph):=⟨@Ph⟩
theorem cf {b2:L2} {O:Int} {h:Hdr} {b3:List Hdr} {out:L2×LI×Int} (c:m_hd b2 O=some out) (a:St w0 ros (row 23 rH h.v b3::fam 3 I1 b3 b2::rs) w):
  Calls prog 109 #[h.v,iV O] w (fun e w=>∃ (b4:List Hdr) (b5:Hdr),e=.returned (.tuple #[b5.v,iV out.2.2])∧St w0 ros (row 23 rH h.v b4::fam 3 I1 b4 out.1::row 3 I1 b5.v out.2.1::rs) w):=by
 refine en func109 rfl ntmps109 fun Q d7=>bE c fun g2 d8 c=>q 15 rfl ?_
 have r:=a
 replace a:=a.ffz
 have d:=a.guest0
 replace a:=r
 clear r
 refine yC (W8 sD (a1 e0)) (Ih d8 F0 d) ?_
 clear d
 rintro _ w ⟨rfl,d⟩
 replace a:=a.back d
 clear d
 refine ⟨_,rfl,?_⟩
 refine nf (q 4 rfl ?_)
 obtain ⟨⟨b6,b7,b8⟩,d9,c⟩:=bs c
 replace a:=a.rowNh 3 I1
 refine lpN ((List Hdr)×Hdr) ((List Hdr)×Hdr) d9 [0,1,14] (fun (R,i,S,b) (t,j)=>[(4,j.v),(5,iV S),(15,iV b)]) (fun (R,i,S,b) (t,j)=>St w0 ros (row 23 rH h.v t::fam 3 I1 t R::row 3 I1 j.v i::rs)) (fun | (b6,b7,b8),(T,U)=>(.exit 0,[(4,U.v),(5,iV b8)],St w0 ros (row 23 rH h.v T::fam 3 I1 T b6::row 3 I1 U.v b7::rs))) rfl (_,_) (a.k1d) rfl ?_ ?_
 ·clear a
  rintro ⟨T,U⟩ g w a
  refine q 11 rfl ?_
  cases c
  exact d7 _ _ _ (X3 results109 ⟨rfl,rfl⟩ ⟨rfl,rfl⟩ ⟨_,_,rfl,a⟩)
 rintro ⟨R,i,S,b⟩ ⟨t,j⟩ g w b9 a c
 refine q 6 rfl (cI c (fun e1 c=>?_) fun e1 c=>?_)
 ·refine q 3 rfl ?_
  refine jC (L2×LI×Int×(List Hdr)×Hdr) [0,1,14,15] (fun (x,A,B,C,D)=>[(4,D.v),(5,iV B)]) (fun (x,A,B,C,D) w=>St w0 ros (row 23 rH h.v C::fam 3 I1 C x::row 3 I1 D.v A::rs) w∧m_g7 b x A B=some b9) rfl ?_ ?_
  ·rintro ⟨x,A,B,C,D⟩ g w ⟨a,c⟩
   refine q 5 rfl ?_
   cases c
   exact ln (_,_) a
  refine z 3 8 ?_;intro m w a w a
  refine y (C6 C3 e0 a rO1 R2) (q 3 rfl (cI c (fun e2 c=>?_) fun e2 c=>?_))
  ·refine q 5 rfl ?_
   cases c
   exact lx (_,_) (a.k35)
  ·refine q 7 rfl (bE c fun g3 c0 c=>y (ySlF (k2:=.i64) C3 e0 a rO1 R2 (.inl (Z0 some e0)) (.inr ⟨rfl,rfl⟩) c0) (y (ymf (vf:=#[]) (vc:=#[(pB m)]) a0 (a1 e0)) (bE c fun g4 e3 c=>?_)))
   have r:=a
   replace a:=((a.k1d).ffz).sub F0 c0
   have d:=a.guestB
   replace a:=r
   clear r
   refine yC (W8 qD (a2 e0 e0)) (w_dz e3 F1 d) ?_
   clear d
   rintro _ w ⟨rfl,d⟩
   replace a:=a.backB d
   clear d
   refine ⟨_,rfl,?_⟩
   refine nf (q 12 rfl (cI c (fun e4 c=>?_) fun e4 c=>?_))
   ·exact q 3 rfl (jx (_,_,_,_,_) ⟨(a.k35),c⟩)
   ·refine q 10 rfl ?_
    refine jC (L2×Int×(List Hdr)) [0,1,4,6,7,14,15] (fun (E,F,f)=>[(5,iV F)]) (fun (E,F,f) w=>St w0 ros (row 23 rH h.v f::fam 3 I1 f E::row 3 I1 j.v i::box m 3 [iV b]::rs) w∧m_hb i b O E F=some b9) rfl ?_ ?_
    ·rintro ⟨E,F,f⟩ g w ⟨a,c⟩
     refine bE c fun g5 V c=>bE c fun g6 c1 c=>bE c fun e5 e6 c=>q 2 rfl (dS [11] 1 E1 ?_)
     replace a:=a.drew
     refine D1 2047 0 11 rfl (qR 3 rfl ?_)
     obtain ⟨g7,G⟩:=a.famI R1 V
     refine rQ rfl (yIa C3 e0 e0 a rO0 G) (rQ rfl (yF1 L1 e0 a rO0 G rfl) (rQ rfl (lb_ (iV b) O_3 e0 a R3) (rQ rfl (yIa V0 e0 e0 a (rdF R1 G V) c1) (rQ rfl (yI O_3 e0 a (rdF R1 G V) c1) (qR 2 rfl (rQ rfl (aa e0 e0 e6) (Rn QSn (Ly wn (a_ (iV e5) e0) (dU ?_)))))))))
     refine z 1 2 ?_
     refine bE c fun g8 W c=>bE c fun g9 c2 c=>bE c fun h0 e7 c=>dS [8,9] 2 E1 ?_
     replace a:=a.drew
     refine D1 255 0 8 rfl (qR 2 rfl ?_)
     obtain ⟨h1,H⟩:=a.famI R1 W
     refine rQ rfl (yIa C3 e0 e0 a rO0 H) (rQ rfl (yF1 L1 e0 a rO0 H rfl) (rQ rfl (lb_ (iV b) O_3 e0 a R3) (rQ rfl (yIa V0 e0 e0 a (rdF R1 H W) c2) (rQ rfl (yI O_3 e0 a (rdF R1 H W) c2) (qR 1 rfl (Rn QSn (kZ (Qh e7 a) fun w a=>dU ?_)))))))
     refine z 2 6 ?_
     refine bE c fun h3 c3 c=>?_
     obtain ⟨h4,X⟩:=a.famI R1 c3
     refine y (yIa C3 e0 e0 a rO0 X) (y (yF1 L1 e0 a rO0 X rfl) (y (Y2 V0 e0 a (rdF R1 X c3)) (bE c fun c4 e8 c=>q 4 rfl ?_)))
     refine lp e8 [0,1,4,5,6,7,9,14,15,79] (fun (Z,a3)=>[(80,iV a3)]) (fun (Z,a3)=>St w0 ros (row 23 rH h.v f::fam 3 I1 f Z::row 3 I1 j.v i::box m 3 [iV b]::rs)) (fun | c4=>(.exit 2,[],St w0 ros (row 23 rH h.v f::fam 3 I1 f c4::row 3 I1 j.v i::box m 3 [iV b]::rs))) rfl a rfl ?_ ?_
     ·clear a
      intro g w a
      refine q 6 rfl (y (C6 C3 e0 a rO0 R1) (bE c fun c5 e9 c=>q 4 rfl ?_))
      refine lp e9 [0,1,4,5,6,7,14,15,101,102] (fun (I,J)=>[(103,iV J)]) (fun (I,J)=>St w0 ros (row 23 rH h.v f::fam 3 I1 f I::row 3 I1 j.v i::box m 3 [iV b]::rs)) (fun | c5=>(.exit 4,[],St w0 ros (row 23 rH h.v f::fam 3 I1 f c5::row 3 I1 j.v i::box m 3 [iV b]::rs))) rfl a rfl ?_ ?_
      ·clear a
       intro g w a
       refine z 1 0 ?_
       refine yh (rLt (n:=1) (l:=[b]) a V0 [iV b] (bp1 e0) rfl rfl (N1 (cs:=[iV b]) rfl mkI X1)) fun h5 w a=>?_
       refine z 1 3 ?_;intro h6 h7 c h8 w a
       exact jx (_,_,_,_,_) ⟨(a.k2q),c⟩
      rintro ⟨I,J⟩ g w f0 a c
      refine q 6 rfl (cI c (fun f1 c=>?_) fun f1 c=>?_)
      ·refine q 7 rfl (bE c fun h9 p c=>?_)
       obtain ⟨i0,k⟩:=a.famI R1 p
       refine y (yIa C3 e0 e0 a rO0 k) (y (yF1 L1 e0 a rO0 k rfl) (bE c fun f2 o c=>q 10 rfl ?_))
       refine jW 6 [0,1,4,5,6,7,12,14,15,101,102,103] [(117,.bool f2)] (St w0 ros (row 23 rH h.v f::fam 3 I1 f I::row 3 I1 j.v i::box m 3 [iV b]::rs)) rfl (fun c6=>?_) ?_
       ·refine gIn 111 o rfl (fun f3 o=>?_) fun f3 o=>?_
        ·refine q 6 rfl ?_
         cases o
         exact c6 _ _ a rfl
        ·refine z 1 0 ?_
         refine bE o fun i1 c7 o=>y (yIa V0 e0 e0 a (rdF R1 k p) c7) (y (yI O_3 e0 a (rdF R1 k p) c7) (q 2 rfl ?_))
         cases o
         exact c6 _ _ a rfl
       intro g w a
       refine q 2 rfl ?_
       refine jC L2 [0,1,4,5,6,7,14,15,101,102,103] (fun K=>[]) (fun K w=>St w0 ros (row 23 rH h.v f::fam 3 I1 f K::row 3 I1 j.v i::box m 3 [iV b]::rs) w∧m_g8 J K=some f0) rfl ?_ ?_
       ·rintro K g w ⟨a,c⟩
        refine q 6 rfl ?_
        cases c
        exact lo a
       refine cJ c (fun f4 c=>?_) fun f4 c=>?_
       ·refine bE c fun i2 c8 c=>bE c fun i3 c9 c=>bE c fun u2628 gu2628 c=>bE c fun i4 f5 c=>bE c fun i5 f6 c=>dS [10] 1 E1 ?_
        replace a:=a.drew
        refine D1 1023 0 10 rfl (qR 3 rfl ?_)
        obtain ⟨i6,a5⟩:=a.famI R1 c8
        refine rQ rfl (yIa C3 e0 e0 a rO0 a5) (rQ rfl (yF1 L1 e0 a rO0 a5 rfl) (qR 1 rfl (rQ rfl (lb_ (iV b) O_3 e0 a R3) (rQ rfl (yIa V0 e0 e0 a (rdF R1 k p) c9) (rQ rfl (yI O_3 e0 a (rdF R1 k p) c9) (qR 1 rfl (Rn QSn ?_)))))))
        replace a:=(a.k10).foc k p
        have d:=a.guestX gu2628 k a5 c8
        refine Lk wn (W8 oD (a4 e0 e0 e0 e0)) (Ph f5 F0 d) ?_
        clear d
        rintro _ w ⟨rfl,d⟩
        replace a:=a.backR d
        clear d
        refine ⟨_,rfl,?_⟩
        replace a:=a.unfoc' k f6
        refine dU ?_
        refine z 1 0 ?_
        exact jx _ ⟨(a.k48),c⟩
       ·exact q 1 rfl (jx _ ⟨a,c⟩)
      ·refine q 2 rfl ?_
       cases c
       exact xo a
     rintro ⟨Z,a3⟩ g w i7 a c
     refine q 6 rfl (cI c (fun f7 c=>?_) fun f7 c=>?_)
     ·refine q 10 rfl (bE c fun i8 a6 c=>bE c fun i9 a7 c=>bE c fun j0 d0 c=>bE c fun f8 f9 c=>bE c fun j1 d1 c=>bE c fun j2 g0 c=>dS [17] 1 E1 ?_)
      replace a:=a.drew
      refine D0 131071 0 17 rfl (qR 2 rfl ?_)
      obtain ⟨j3,s⟩:=a.famI R1 a6
      refine rQ rfl (yIa C3 e0 e0 a rO0 s) (rQ rfl (yF1 L1 e0 a rO0 s rfl) (qR 3 rfl ?_))
      obtain ⟨j4,L⟩:=a.famI R1 a7
      refine rQ rfl (yIa C3 e0 e0 a rO0 L) (rQ rfl (yF1 L1 e0 a rO0 L rfl) (qR 1 rfl (rQ rfl (yIa V0 e0 e0 a (rdF R1 L a7) d0) (rQ rfl (yI O_3 e0 a (rdF R1 L a7) d0) (qR 3 rfl (rQ rfl (aa e0 e0 f9) (rQ rfl (yIs V0 e0 e0 a (rdF R1 s a6) d1) (Rn QSn ?_))))))))
      replace a:=a.k10
      refine LT wn (Q3 (cs:=[iV f8]) (a.foc s a6) O_3 rfl e0 e0 rfl mkI d1) fun w a=>?_
      replace a:=a.unfoc' s g0
      refine z 1 6 ?_
      cases c
      exact lo (a.k48)
     ·refine q 2 rfl ?_
      cases c
      exact xo a
    refine cI c (fun g1 c=>?_) fun g1 c=>?_
    ·refine q 1 rfl (bE c fun j5 d2 c=>bE c fun j6 d3 c=>bE c fun j7 a8 c=>bE c fun j8 d4 c=>dS [13,15] 2 E1 ?_)
     replace a:=a.drew
     refine D0 8191 0 13 rfl (qR 6 rfl ?_)
     obtain ⟨d5,a9⟩:=a.famI R2 d2
     refine rQ rfl (yIa C3 e0 e0 a rO1 a9) (rQ rfl (yF1 L1 e0 a rO1 a9 rfl) (qR 2 rfl ?_))
     obtain ⟨d6,b0⟩:=a.famI R2 d3
     refine rQ rfl (yIa C3 e0 e0 a rO1 b0) (rQ rfl (yF1 L1 e0 a rO1 b0 rfl) ?_)
     obtain ⟨j9,N⟩:=Y8 (u:=d5) a8 (a.famL (mtR (mtR mhR)))
     refine rQ rfl (yIs C3 e0 e0 a rO1 N) (Rn QSn ?_)
     replace a:=a.k10
     refine LT wn (Q3 (cs:=[d5.v]) a L1 rfl e0 e0 rfl (mkF rfl) N) fun w a=>D0 16384 12 15 rfl ?_
     obtain ⟨k0,b1⟩:=Y8 (u:=d6) d4 (kf a8 N (a.famL (mtR (mtR mhR))))
     refine rQ rfl (yIs C3 e0 e0 a rO0 b1) (Rn (qS rfl (qS rfl QSn)) (LT wn (Q3 (cs:=[d6.v]) a L1 rfl e0 e0 rfl (mkF rfl) b1) fun w a=>?_))
     replace a:=(a.k16).fswap a9 d2 b0 d3 N a8 b1 d4
     refine z 2 2 ?_;intro k1 k3 c w a
     exact jx (_,_,_) ⟨(a.k49),c⟩
    ·exact q 1 rfl (jx (_,_,_) ⟨(a.k2o),c⟩)
 ·refine q 2 rfl ?_
  cases c
  exact lx (_,_) a
instance:CL prog 109 (type_of% @cf):=⟨@cf⟩
theorem Oh {b:L2} {d:Int} {e:Hdr} {out:Int×Int} (c:m_he b d=some out) (f:imm S1 e.v b∈ros) (a:St w0 ros rs w):
  Calls prog 52 #[e.v,iV d] w (rv w0 ros rs (.tuple #[iV out.1,iV out.2])):=by
 refine en func52 rfl ntmps52 fun Q g=>bE c fun l h c=>q 10 rfl (cZ (Gh h f a) fun w a=>q 10 rfl ?_)
 refine cIn c (fun i c=>?_) fun i c=>?_
 ·refine q 6 rfl (bE c fun m j c=>cT_ (Xe j f a) fun n o w a=>bE c fun p k c=>q 1 rfl (cT_ (cf k a) fun r s w a=>q 10 rfl (y (Y2 V0 e0 a rO2) (q 5 rfl ?_))))
  cases c
  exact zb g results52 ⟨rfl,(a.k1b)⟩
 ·refine q 9 rfl ?_
  cases c
  exact zb g results52 ⟨rfl,a⟩
instance:CL prog 52 (type_of% @Oh):=⟨@Oh⟩
theorem tm {r:L2} {s:Int} {t:Hdr} {out:LI} (c:m_hh r s=some out) (B:imm S1 t.v r∈ros) (a:St w0 ros rs w):
  Calls prog 18 #[t.v,iV s] w (ro w0 ros rs 3 I1 out):=by
 refine en func18 rfl ntmps18 fun Q C=>?_
 refine z 1 4 ?_
 refine bE c fun u D c=>?_
 replace a:=(a.rowNh 3 I1).immNh S1
 refine lpN (Hdr×Hdr) Hdr D [1,12,13] (fun (m,o,b) (e,f)=>[(5,e.v),(6,f.v),(14,iV b)]) (fun (m,o,b) (e,f)=>St w0 (imm S1 f.v o::ros) (row 3 I1 e.v m::rs)) (fun | u,p=>(.exit 0,[(5,p.v)],St w0 ros (row 3 I1 p.v u::rs))) rfl (_,_) a rfl ?_ ?_
 ·clear a
  rintro p g w a
  refine q 9 rfl ?_
  cases c
  exact C _ _ _ (V2 results18 ⟨rfl,rfl⟩ ⟨_,rfl,a⟩)
 rintro ⟨m,o,b⟩ ⟨e,f⟩ g w E a c
 refine q 6 rfl (cI c (fun F c=>?_) fun F c=>?_)
 ·refine z 1 0 ?_;intro G H c
  obtain ⟨x,a⟩:=iLs a (mtF B) H
  refine y (yCt L1 e0 a F1 rfl) ?_
  refine z 1 1 ?_;intro L N c w a
  refine yh (rLt (n:=1) (l:=[G]) a M8 [x.v] (bp1 e0) rfl rfl (N1 (cs:=[x.v]) rfl (mkS F0) X1)) fun O w a=>bE c fun R I c=>yh (rApC a M8 e0 F2 e0 rO0 I (List.cons_ne_nil _ _)) fun S w a=>bE c fun T J c=>q 7 rfl ?_
  have A:=a
  replace a:=a.fz
  have d:=a.guest0
  replace a:=A
  clear A
  refine yC (W8 mD (a2 e0 e0)) (Oh J F0 d) ?_
  clear d
  rintro _ w ⟨rfl,d⟩
  replace a:=a.back d
  clear d
  refine ⟨_,rfl,?_⟩
  refine nf ?_
  refine z 1 3 ?_
  refine jC (LI×L2×Hdr×Hdr) [1,12,13,14] (fun (h,i,j,k)=>[(5,j.v),(6,k.v)]) (fun (h,i,j,k) w=>St w0 (imm S1 k.v i::ros) (row 3 I1 j.v h::rs) w∧m_hf b h i=some E) rfl ?_ ?_
  ·rintro ⟨h,i,j,k⟩ g w ⟨a,c⟩
   refine q 6 rfl ?_
   cases c
   exact ln (_,_) a
  refine cI c (fun K c=>?_) fun K c=>?_
  ·refine q 3 rfl (yh (rLt (n:=1) (l:=[b]) a V0 [iV b] (bp1 e0) rfl rfl (N1 (cs:=[iV b]) rfl mkI X1)) fun U w a=>?_)
   refine z 1 4 ?_;intro V W c X w a
   replace a:=(a.k16).fz
   exact jx (_,_,_,_) ⟨((a.k2x).facts (Q0 F0 (N0 (N0 (N0 (N0 A1)))))),c⟩
  ·exact q 1 rfl (jx (_,_,_,_) ⟨((a.k2r).facts (Q0 F2 (N0 (N0 (N0 A1))))),c⟩)
 ·refine q 2 rfl ?_
  cases c
  exact lx _ (a.fc)
instance:CL prog 18 (type_of% @tm):=⟨@tm⟩
end Go.Proofs.YthekfonboblioaaGreatDoor
