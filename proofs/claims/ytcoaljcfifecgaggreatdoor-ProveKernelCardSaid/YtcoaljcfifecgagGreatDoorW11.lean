/- Walks: each function computes its model, printed. -/
import Derived.Test.YtcoaljcfifecgagGreatDoorW10
namespace Go.Proofs.YtcoaljcfifecgagGreatDoor
open Go Sx M Go.Proofs.Tryz
set_option maxRecDepth 100000
set_option maxHeartbeats 40000000
set_option linter.unusedVariables false
attribute [local irreducible] wpList Code.wp Calls DR QR QS LA LS St
variable {w0:World} {ros:List Fact} {rs:List Res} {w:World}
theorem slices_IndexFunc_int_v2_ok {j:L2} {c:Int} {k:Hdr} {d:Nat} {out:Int} (f:slices_IndexFunc_int_v2 j c=some out) (h:imm S1 k.v j∈ros) (a:St w0 ros (box d 3 [iV c]::rs) w):
  Calls prog 164 #[k.v,.func (.func 165) #[] #[(pB d)]] w (fun e w=>e=.returned (iV out)∧St w0 ros (box d 3 [iV c]::rs) w):=by
 refine en func164 rfl ntmps164 fun Q l=>q 9 rfl (y (yLen SL_109 e0 a (rdI h)) (bE f fun o p f=>q 4 rfl ?_))
 refine lp p [0,1,7] (fun i=>[(8,iV i)]) (fun i=>St w0 ros (box d 3 [iV c]::rs)) (fun | .inl ()=>(.exit 0,[],St w0 ros (box d 3 [iV c]::rs)) | .inr m=>(.ret,[(4,iV m)],St w0 ros (box d 3 [iV c]::rs))) rfl a rfl ?_ ?_
 ·clear a
  intro g w a
  rcases o with ⟨⟩ | m
  ·refine q 8 rfl ?_
   cases f
   exact za l results164 ⟨rfl,a⟩
  ·refine q 2 rfl ?_
   cases f
   exact za l results164 ⟨rfl,a⟩
 rintro i g w u a b
 refine q 6 rfl (cI b (fun r b=>?_) fun r b=>?_)
 ·refine q 15 rfl (bE b fun x n b=>y (yIa SL_109 e0 e0 a (rdI h) n) ?_)
  obtain ⟨z,a⟩:=iLs a h n
  refine y (yCt O_23 e0 a F1 rfl) (bE b fun A s b=>yC (yCallw FN_165 e0 (a1 e0)) (modular_echelon_1_ok s F0 a) ?_)
  rintro _ w ⟨rfl,a⟩
  refine ⟨_,rfl,?_⟩
  refine nf (q 2 rfl ?_)
  refine cJ b (fun t b=>?_) fun t b=>?_
  ·refine q 9 rfl ?_
   cases b
   exact xo (a.fc)
  ·refine q 7 rfl ?_
   cases b
   exact lo (a.fc)
 ·refine q 2 rfl ?_
  cases b
  exact xo a
theorem modular_raise_ok {k l i out:Int} (c:modular_raise k l i=some out) (b:St w0 ros rs w):
  Calls prog 174 #[iV k,iV l,iV i] w (fun e w=>e=.returned (iV out)∧St w0 ros rs w):=by
 refine en func174 rfl ntmps174 fun Q n=>bE c fun m o c=>q 12 rfl ?_
 refine lp o [2] (fun (d,f,j)=>[(0,iV d),(1,iV f),(7,iV j)]) (fun (d,f,j)=>St w0 ros rs) (fun | m=>(.exit 0,[(7,iV m)],St w0 ros rs)) rfl b rfl ?_ ?_
 ·clear b
  intro g w b
  refine q 9 rfl ?_
  cases c
  exact za n results174 ⟨rfl,b⟩
 rintro ⟨d,f,j⟩ g w p b a
 refine q 7 rfl (cI a (fun r a=>?_) fun r a=>?_)
 ·refine q 12 rfl ?_
  refine jC Int [0,1,2] (fun h=>[(7,iV h)]) (fun h w=>St w0 ros rs w∧modular_raise_j4 d i f h=some p) rfl ?_ ?_
  ·rintro h g w ⟨b,c⟩
   refine bE c fun v s c=>q 6 rfl (y (yrem e0 e0 s) (q 9 rfl ?_))
   cases c
   exact lo b
  refine cI a (fun t a=>?_) fun t a=>?_
  ·exact q 5 rfl (bE a fun x u a=>y (yrem e0 e0 u) (q 2 rfl (jx _ ⟨b,a⟩)))
  ·exact q 1 rfl (jx _ ⟨b,a⟩)
 ·refine q 2 rfl ?_
  cases a
  exact xo b
theorem modular_inverse_ok {c d out:Int} (a:modular_inverse c d=some out) (b:St w0 ros rs w):
  Calls prog 167 #[iV c,iV d] w (fun e w=>e=.returned (iV out)∧St w0 ros rs w):=by
 refine en func167 rfl ntmps167 fun Q f=>bE a fun h g a=>q 11 rfl (cZ (modular_raise_ok g b) fun w b=>q 4 rfl ?_)
 cases a
 exact za f results167 ⟨rfl,b⟩
theorem modular_subtract_ok {j k:LI} {l m:Int} {c n:Hdr} {out:LI} (d:modular_subtract j k l m=some out) (f:imm I1 n.v k∈ros) (a:St w0 ros (row 3 I1 c.v j::rs) w):
  Calls prog 168 #[c.v,n.v,iV l,iV m] w (fun e w=>e=.returned (.tuple #[])∧St w0 ros (row 3 I1 c.v out::rs) w):=by
 refine en func168 rfl ntmps168 fun Q t=>q 3 rfl (y (yLen SL_23 e0 a (rdI f)) (bE d fun o u d=>q 4 rfl ?_))
 refine lp u [0,2,3,10,11] (fun (h,i)=>[(12,iV i)]) (fun (h,i)=>St w0 ros (row 3 I1 c.v h::rs)) (fun | o=>(.exit 0,[],St w0 ros (row 3 I1 c.v o::rs))) rfl a rfl ?_ ?_
 ·clear a
  intro g w a
  refine q 1 rfl ?_
  cases d
  exact t _ _ _ (fin0n results168 ⟨rfl,a⟩)
 rintro ⟨h,i⟩ g w C a b
 refine q 6 rfl (cI b (fun x b=>?_) fun x b=>?_)
 ·refine q 7 rfl (bE b fun D p b=>y (yIa SL_23 e0 e0 a (rdI f) p) (y (yI O_3 e0 a (rdI f) p) (bE b fun E r b=>bE b fun F z b=>bE b fun A B b=>bE b fun G s b=>q 4 rfl (dR [0,0,0,0,12,28,0,0,192,0,960,2044,0,8188,16383,32767] [13,15] 2 folM ?_))))
  replace a:=a.drew
  refine D1 [0,1,2,3,4,5,6,7,8,9,10,11,12] [] 13 rfl (qR 4 rfl (rQ rfl (yIa SL_23 e0 e0 a rO0 r) (rQ rfl (yI O_3 e0 a rO0 r) (qR 4 rfl (rQ rfl (yrem e0 e0 z) (qR 2 rfl (Rn QSn (kZ (modular_mod_ok B a) fun w a=>dU (D0 [14] [0,1] 15 rfl (rQ rfl (yIs SL_23 e0 e0 a rO0 s) (Rn (qS rfl (qS rfl QSn)) (LT wn (r_sti (cs:=[iV A]) a O_3 rfl e0 e0 rfl mkI s) ?_))))))))))))
  refine fun w a=>Dz [] [] (Rn QSn (qx 6 rfl ?_))
  cases b
  exact lo a
 ·refine q 2 rfl ?_
  cases b
  exact xo a
theorem modular_echelon_ok {b4:L2} {S:Int} {k:Hdr} {b5:List Hdr} {out:L2×LI×Int} (b:modular_echelon b4 S=some out) (a:St w0 ros (row 23 rH k.v b5::fam 3 I1 b5 b4::rs) w):
  Calls prog 143 #[k.v,iV S] w (fun e w=>∃ (b6:List Hdr) (b7:Hdr),e=.returned (.tuple #[b7.v,iV out.2.2])∧St w0 ros (row 23 rH k.v b6::fam 3 I1 b6 out.1::row 3 I1 b7.v out.2.1::rs) w):=by
 refine en func143 rfl ntmps143 fun Q d9=>bE b fun g7 e1 b=>q 15 rfl ?_
 have x:=a
 replace a:=a.ffz
 have h:=a.guest0
 replace a:=x
 clear x
 refine yC (yCall FN_161 (a1 e0)) (modular_columns_ok e1 F0 h) ?_
 clear h
 rintro _ w ⟨rfl,h⟩
 replace a:=a.back h
 clear h
 refine ⟨_,rfl,?_⟩
 refine nf (q 4 rfl ?_)
 obtain ⟨⟨b8,b9,c0⟩,e2,b⟩:=bs b
 replace a:=a.rowNh 3 I1
 refine lpN ((List Hdr)×Hdr) ((List Hdr)×Hdr) e2 [0,1,14] (fun (T,m,U,f) (A,o)=>[(4,o.v),(5,iV U),(15,iV f)]) (fun (T,m,U,f) (A,o)=>St w0 ros (row 23 rH k.v A::fam 3 I1 A T::row 3 I1 o.v m::rs)) (fun | (b8,b9,c0),(V,W)=>(.exit 0,[(4,W.v),(5,iV c0)],St w0 ros (row 23 rH k.v V::fam 3 I1 V b8::row 3 I1 W.v b9::rs))) rfl (_,_) (a.k1f) rfl ?_ ?_
 ·clear a
  rintro ⟨V,W⟩ g w a
  refine q 11 rfl ?_
  cases b
  exact d9 _ _ _ (fin2r results143 ⟨rfl,rfl⟩ ⟨rfl,rfl⟩ ⟨_,_,rfl,a⟩)
 rintro ⟨T,m,U,f⟩ ⟨A,o⟩ g w c1 a c
 refine q 6 rfl (cI c (fun e3 c=>?_) fun e3 c=>?_)
 ·refine q 3 rfl ?_
  refine jC (L2×LI×Int×(List Hdr)×Hdr) [0,1,14,15] (fun (B,C,D,E,F)=>[(4,F.v),(5,iV D)]) (fun (B,C,D,E,F) w=>St w0 ros (row 23 rH k.v E::fam 3 I1 E B::row 3 I1 F.v C::rs) w∧modular_echelon_j161 f B C D=some c1) rfl ?_ ?_
  ·rintro ⟨B,C,D,E,F⟩ g w ⟨a,b⟩
   refine q 5 rfl ?_
   cases b
   exact ln (_,_) a
  refine q 4 rfl (yb (rAl a ZT_3) fun r w a=>yt (r_stb1 (vals':=[iV f]) a O_3 e0 e0 rfl rfl rfl rfl) fun w a=>q 5 rfl (y (yLen SL_23 e0 a rO3) (q 8 rfl (y (yLenF SLH_109 e0 a rO1 R2) (q 3 rfl (cI c (fun e4 c=>?_) fun e4 c=>?_))))))
  ·refine q 5 rfl ?_
   cases c
   exact lx (_,_) (a.k1k)
  ·refine q 7 rfl (bE c fun g8 c2 c=>y (ySlF (k2:=.i64) SLH_109 e0 a rO1 R2 (.inl (congrArg some e0)) (.inr ⟨rfl,rfl⟩) c2) (y (ymf (vf:=#[]) (vc:=#[(pB r)]) a0 (a1 e0)) (bE c fun g9 e5 c=>?_)))
   have x:=a
   replace a:=((a.k1f).ffz).sub F0 c2
   have h:=a.guestB
   replace a:=x
   clear x
   refine yC (yCall FN_164 (a2 e0 e0)) (slices_IndexFunc_int_v2_ok e5 F1 h) ?_
   clear h
   rintro _ w ⟨rfl,h⟩
   replace a:=a.backB h
   clear h
   refine ⟨_,rfl,?_⟩
   refine nf (q 12 rfl (cI c (fun e6 c=>?_) fun e6 c=>?_))
   ·exact q 3 rfl (jx (_,_,_,_,_) ⟨(a.k1k),c⟩)
   ·refine q 10 rfl ?_
    refine jC (L2×Int×(List Hdr)) [0,1,4,6,7,14,15] (fun (G,H,j)=>[(5,iV H)]) (fun (G,H,j) w=>St w0 ros (row 23 rH k.v j::fam 3 I1 j G::row 3 I1 o.v m::box r 3 [iV f]::rs) w∧modular_echelon_j162 m f S G H=some c1) rfl ?_ ?_
    ·rintro ⟨G,H,j⟩ g w ⟨a,b⟩
     refine bE b fun h0 X b=>bE b fun h1 c3 b=>bE b fun e7 e8 b=>q 2 rfl (dR [0,0,0,6,14,0,62,126,255,0,1023,2047] [11] 1 folM ?_)
     replace a:=a.drew
     refine D1 [0,1,2,3,4,5,6,7,8,9,10] [] 11 rfl (qR 3 rfl ?_)
     obtain ⟨h3,I⟩:=a.famI R1 X
     refine rQ rfl (yIa SLH_109 e0 e0 a rO0 I) (rQ rfl (yF1 O_23 e0 a rO0 I rfl) (rQ rfl (lb_ (iV f) O_3 e0 a R3) (rQ rfl (yIa SL_23 e0 e0 a (rdF R1 I X) c3) (rQ rfl (yI O_3 e0 a (rdF R1 I X) c3) (qR 2 rfl (rQ rfl (yrem e0 e0 e8) (Rn QSn (Ly wn (a_ (iV e7) e0) (dU (Dz [] [] (Rn QSn (bE b fun h4 Z b=>bE b fun h5 c4 b=>?_))))))))))))
     refine bE b fun e9 f0 b=>qx 2 rfl (dR [0,0,3,7,0,31,63,0,255,511] [8,9] 2 folM ?_)
     replace a:=a.drew
     refine D1 [0,1,2,3,4,5,6,7] [] 8 rfl (qR 2 rfl ?_)
     obtain ⟨h6,J⟩:=a.famI R1 Z
     refine rQ rfl (yIa SLH_109 e0 e0 a rO0 J) (rQ rfl (yF1 O_23 e0 a rO0 J rfl) (rQ rfl (lb_ (iV f) O_3 e0 a R3) (rQ rfl (yIa SL_23 e0 e0 a (rdF R1 J Z) c4) (rQ rfl (yI O_3 e0 a (rdF R1 J Z) c4) (qR 1 rfl (Rn QSn (kZ (modular_inverse_ok f0 a) fun w a=>dU (D1 [] [] 9 rfl (Rn QSn (Ly wn (a_ (iV e9) e0) (dU (Dz [] [] ?_))))))))))))
     refine Rn QSn (bE b fun h7 c5 b=>qx 6 rfl ?_)
     obtain ⟨h8,a3⟩:=a.famI R1 c5
     refine y (yIa SLH_109 e0 e0 a rO0 a3) (y (yF1 O_23 e0 a rO0 a3 rfl) (y (yLen SL_23 e0 a (rdF R1 a3 c5)) (bE b fun c6 f1 b=>q 4 rfl ?_)))
     refine lp f1 [0,1,4,5,6,7,9,14,15,79] (fun (a5,a6)=>[(80,iV a6)]) (fun (a5,a6)=>St w0 ros (row 23 rH k.v j::fam 3 I1 j a5::row 3 I1 o.v m::box r 3 [iV f]::rs)) (fun | c6=>(.exit 2,[],St w0 ros (row 23 rH k.v j::fam 3 I1 j c6::row 3 I1 o.v m::box r 3 [iV f]::rs))) rfl a rfl ?_ ?_
     ·clear a
      intro g w a
      refine q 6 rfl (y (yLenF SLH_109 e0 a rO0 R1) (bE b fun c7 f2 b=>q 4 rfl ?_))
      refine lp f2 [0,1,4,5,6,7,14,15,101,102] (fun (K,L)=>[(103,iV L)]) (fun (K,L)=>St w0 ros (row 23 rH k.v j::fam 3 I1 j K::row 3 I1 o.v m::box r 3 [iV f]::rs)) (fun | c7=>(.exit 4,[],St w0 ros (row 23 rH k.v j::fam 3 I1 j c7::row 3 I1 o.v m::box r 3 [iV f]::rs))) rfl a rfl ?_ ?_
      ·clear a
       intro g w a
       refine q 4 rfl (y (lb_ (iV f) O_3 e0 a R3) (yh (rLt (n:=1) (l:=[f]) a SL_23 [iV f] (bp1 e0) rfl rfl (mks1 (cs:=[iV f]) rfl mkI mks0)) fun h9 w a=>bE b fun i0 f3 b=>?_))
       replace a:=a.k1d
       exact yh (rAp a SL_23 e0 e0 rO1 f3) fun i1 w a=>q 3 rfl (jx (_,_,_,_,_) ⟨(a.k1l),b⟩)
      rintro ⟨K,L⟩ g w f4 a d
      refine q 6 rfl (cI d (fun f5 d=>?_) fun f5 d=>?_)
      ·refine q 7 rfl (bE d fun i2 t d=>?_)
       obtain ⟨i3,p⟩:=a.famI R1 t
       refine y (yIa SLH_109 e0 e0 a rO0 p) (y (yF1 O_23 e0 a rO0 p rfl) (bE d fun f6 s d=>q 10 rfl ?_))
       refine jW 6 [0,1,4,5,6,7,12,14,15,101,102,103] [(117,.bool f6)] (St w0 ros (row 23 rH k.v j::fam 3 I1 j K::row 3 I1 o.v m::box r 3 [iV f]::rs)) rfl (fun c8=>?_) ?_
       ·refine gIn 111 s rfl (fun f7 s=>?_) fun f7 s=>?_
        ·refine q 6 rfl ?_
         cases s
         exact c8 _ _ a rfl
        ·refine q 1 rfl (y (lb_ (iV f) O_3 e0 a R3) (bE s fun i4 c9 s=>y (yIa SL_23 e0 e0 a (rdF R1 p t) c9) (y (yI O_3 e0 a (rdF R1 p t) c9) (q 2 rfl ?_))))
         cases s
         exact c8 _ _ a rfl
       intro g w a
       refine q 2 rfl ?_
       refine jC L2 [0,1,4,5,6,7,14,15,101,102,103] (fun N=>[]) (fun N w=>St w0 ros (row 23 rH k.v j::fam 3 I1 j N::row 3 I1 o.v m::box r 3 [iV f]::rs) w∧modular_echelon_j170 L N=some f4) rfl ?_ ?_
       ·rintro N g w ⟨a,b⟩
        refine q 6 rfl ?_
        cases b
        exact lo a
       refine cJ d (fun f8 d=>?_) fun f8 d=>?_
       ·refine bE d fun i5 d0 d=>bE d fun i6 d1 d=>bE d fun u2628 gu2628 d=>bE d fun i7 f9 d=>bE d fun i8 g0 d=>dR [0,0,0,6,14,0,0,96,224,0,1023] [10] 1 folM ?_
        replace a:=a.drew
        refine D1 [0,1,2,3,4,5,6,7,8,9] [] 10 rfl (qR 3 rfl ?_)
        obtain ⟨i9,a7⟩:=a.famI R1 d0
        refine rQ rfl (yIa SLH_109 e0 e0 a rO0 a7) (rQ rfl (yF1 O_23 e0 a rO0 a7 rfl) (qR 1 rfl (rQ rfl (lb_ (iV f) O_3 e0 a R3) (rQ rfl (yIa SL_23 e0 e0 a (rdF R1 p t) d1) (rQ rfl (yI O_3 e0 a (rdF R1 p t) d1) (qR 1 rfl (Rn QSn ?_)))))))
        replace a:=(a.k10).foc p t
        have h:=a.guestX gu2628 p a7 d0
        refine Lk wn (yCall FN_168 (a4 e0 e0 e0 e0)) (modular_subtract_ok f9 F0 h) ?_
        clear h
        rintro _ w ⟨rfl,h⟩
        replace a:=a.backR h
        clear h
        refine ⟨_,rfl,?_⟩
        replace a:=a.unfoc' p g0
        exact dU (Dz [] [] (Rn QSn (qx 0 rfl (jx _ ⟨(a.k1m),d⟩))))
       ·exact q 1 rfl (jx _ ⟨a,d⟩)
      ·refine q 2 rfl ?_
       cases d
       exact xo a
     rintro ⟨a5,a6⟩ g w j0 a i
     refine q 6 rfl (cI i (fun g1 i=>?_) fun g1 i=>?_)
     ·refine q 10 rfl (bE i fun j1 a8 i=>bE i fun j2 a9 i=>bE i fun j3 d2 i=>bE i fun g2 g3 i=>bE i fun j4 d3 i=>bE i fun j5 g4 i=>dR [0,0,3,7,0,0,0,96,224,0,992,2016,0,8160,0,32736,65535,131071] [17] 1 folM ?_)
      replace a:=a.drew
      refine D0 [0,1,2,3,4,5,6,7,8,9,10,11,12,13,14,15,16] [] 17 rfl (qR 2 rfl ?_)
      obtain ⟨j6,z⟩:=a.famI R1 a8
      refine rQ rfl (yIa SLH_109 e0 e0 a rO0 z) (rQ rfl (yF1 O_23 e0 a rO0 z rfl) (qR 3 rfl ?_))
      obtain ⟨j7,O⟩:=a.famI R1 a9
      refine rQ rfl (yIa SLH_109 e0 e0 a rO0 O) (rQ rfl (yF1 O_23 e0 a rO0 O rfl) (qR 1 rfl (rQ rfl (yIa SL_23 e0 e0 a (rdF R1 O a9) d2) (rQ rfl (yI O_3 e0 a (rdF R1 O a9) d2) (qR 3 rfl (rQ rfl (yrem e0 e0 g3) (rQ rfl (yIs SL_23 e0 e0 a (rdF R1 z a8) d3) (Rn QSn ?_))))))))
      replace a:=a.k10
      refine LT wn (r_sti (cs:=[iV g2]) (a.foc z a8) O_3 rfl e0 e0 rfl mkI d3) fun w a=>?_
      replace a:=a.unfoc' z g4
      refine Dz [] [] (Rn QSn (qx 6 rfl ?_))
      cases i
      exact lo (a.k1m)
     ·refine q 2 rfl ?_
      cases i
      exact xo a
    refine cI c (fun g5 c=>?_) fun g5 c=>?_
    ·refine q 1 rfl (bE c fun j8 d4 c=>bE c fun j9 d5 c=>bE c fun k0 b0 c=>bE c fun k1 d6 c=>dR [0,0,0,0,0,0,48,112,0,0,768,1792,4083,8179,16383,32767] [13,15] 2 folM ?_)
     replace a:=a.drew
     refine D0 [0,1,2,3,4,5,6,7,8,9,10,11,12] [] 13 rfl (qR 6 rfl ?_)
     obtain ⟨d7,b1⟩:=a.famI R2 d4
     refine rQ rfl (yIa SLH_109 e0 e0 a rO1 b1) (rQ rfl (yF1 O_23 e0 a rO1 b1 rfl) (qR 2 rfl ?_))
     obtain ⟨d8,b2⟩:=a.famI R2 d5
     refine rQ rfl (yIa SLH_109 e0 e0 a rO1 b2) (rQ rfl (yF1 O_23 e0 a rO1 b2 rfl) ?_)
     obtain ⟨k3,R⟩:=setI_len (u:=d7) b0 (a.famL (mtR (mtR mhR)))
     refine rQ rfl (yIs SLH_109 e0 e0 a rO1 R) (Rn QSn ?_)
     replace a:=a.k10
     refine LT wn (r_sti (cs:=[d7.v]) a O_23 rfl e0 e0 rfl (mkF rfl) R) fun w a=>D0 [14] [2,3] 15 rfl ?_
     obtain ⟨k4,b3⟩:=setI_len (u:=d8) d6 (swap_len b0 R (a.famL (mtR (mtR mhR))))
     refine rQ rfl (yIs SLH_109 e0 e0 a rO0 b3) (Rn (qS rfl (qS rfl QSn)) (LT wn (r_sti (cs:=[d8.v]) a O_23 rfl e0 e0 rfl (mkF rfl) b3) fun w a=>?_))
     replace a:=(a.k16).fswap b1 d4 b2 d5 R b0 b3 d6
     exact Dz [] [] (Rn QSn (bE c fun k5 g6 c=>qx 5 rfl (cZ (modular_mod_ok g6 a) fun w a=>q 2 rfl (jx (_,_,_) ⟨(a.k1n),c⟩))))
    ·exact q 1 rfl (jx (_,_,_) ⟨(a.k1o),c⟩)
 ·refine q 2 rfl ?_
  cases c
  exact lx (_,_) a
theorem modular_Rank_ok {c:L2} {d:Int} {f:Hdr} {out:Int×Int} (a:modular_Rank c d=some out) (g:imm S1 f.v c∈ros) (b:St w0 ros rs w):
  Calls prog 112 #[f.v,iV d] w (fun e w=>e=.returned (.tuple #[iV out.1,iV out.2])∧St w0 ros rs w):=by
 refine en func112 rfl ntmps112 fun Q h=>bE a fun m i a=>q 10 rfl (cZ (modular_check_ok i g b) fun w b=>q 10 rfl ?_)
 refine cIn a (fun j a=>?_) fun j a=>?_
 ·refine q 6 rfl (bE a fun n k a=>cT_ (modular_reduced_ok k g b) fun o p w b=>bE a fun r l a=>q 1 rfl (cT_ (modular_echelon_ok l b) fun s t w b=>q 10 rfl (y (yLen SL_23 e0 b rO2) (q 5 rfl ?_))))
  cases a
  exact zb h results112 ⟨rfl,(b.k1b)⟩
 ·refine q 9 rfl ?_
  cases a
  exact zb h results112 ⟨rfl,b⟩
theorem prove_independent_ok {u:L2} {x:Int} {z:Hdr} {out:LI} (d:prove_independent u x=some out) (p:imm S1 z.v u∈ros) (a:St w0 ros rs w):
  Calls prog 66 #[z.v,iV x] w (fun e w=>∃ (A:Hdr),e=.returned (A.v)∧St w0 ros (row 3 I1 A.v out::rs) w):=by
 refine en func66 rfl ntmps66 fun Q F=>q 19 rfl (y (yLen SL_109 e0 a (rdI p)) (bE d fun B G d=>q 4 rfl ?_))
 replace a:=(a.rowNh 3 I1).immNh S1
 refine lpN (Hdr×Hdr) Hdr G [1,12,13] (fun (r,s,c) (h,i)=>[(5,h.v),(6,i.v),(14,iV c)]) (fun (r,s,c) (h,i)=>St w0 (imm S1 i.v s::ros) (row 3 I1 h.v r::rs)) (fun | B,t=>(.exit 0,[(5,t.v)],St w0 ros (row 3 I1 t.v B::rs))) rfl (_,_) a rfl ?_ ?_
 ·clear a
  rintro t g w a
  refine q 9 rfl ?_
  cases d
  exact F _ _ _ (fin1r results66 ⟨rfl,rfl⟩ ⟨_,rfl,a⟩)
 rintro ⟨r,s,c⟩ ⟨h,i⟩ g w H a b
 refine q 6 rfl (cI b (fun I b=>?_) fun I b=>?_)
 ·refine q 7 rfl (bE b fun J C b=>y (yIa SL_109 e0 e0 a (rdI (mtF p)) C) ?_)
  obtain ⟨D,a⟩:=iLs a (mtF p) C
  refine y (yCt O_23 e0 a F1 rfl) (bE b fun S K b=>q 7 rfl (cZ (slices_Clip_int_ok K F2 a) fun w a=>q 1 rfl (yh (rLt (n:=1) (l:=[J]) a SL_109 [D.v] (bp1 e0) rfl rfl (mks1 (cs:=[D.v]) rfl (mkS F0) mks0)) fun T w a=>bE b fun U L b=>yh (rApC a SL_109 e0 F2 e0 rO0 L (List.cons_ne_nil _ _)) fun V w a=>bE b fun W N b=>q 7 rfl ?_)))
  have E:=a
  replace a:=a.fz
  have f:=a.guest0
  replace a:=E
  clear E
  refine yC (yCall FN_112 (a2 e0 e0)) (modular_Rank_ok N F0 f) ?_
  clear f
  rintro _ w ⟨rfl,f⟩
  replace a:=a.back f
  clear f
  refine ⟨_,rfl,?_⟩
  refine nf (q 11 rfl (y (yLen SL_109 e0 a rO0) (q 3 rfl ?_)))
  refine jC (LI×L2×Hdr×Hdr) [1,12,13,14] (fun (j,k,m,o)=>[(5,m.v),(6,o.v)]) (fun (j,k,m,o) w=>St w0 (imm S1 o.v k::ros) (row 3 I1 m.v j::rs) w∧prove_independent_j5 c j k=some H) rfl ?_ ?_
  ·rintro ⟨j,k,m,o⟩ g w ⟨a,d⟩
   refine q 6 rfl ?_
   cases d
   exact ln (_,_) a
  refine cI b (fun O b=>?_) fun O b=>?_
  ·refine q 3 rfl (yh (rLt (n:=1) (l:=[c]) a SL_23 [iV c] (bp1 e0) rfl rfl (mks1 (cs:=[iV c]) rfl mkI mks0)) fun X w a=>bE b fun Z R b=>?_)
   replace a:=a.k1d
   refine yh (rAp a SL_23 e0 e0 rO1 R) fun a0 w a=>q 4 rfl ?_
   replace a:=(a.k16).fz
   exact jx (_,_,_,_) ⟨((a.k1c).facts (allC F0 (allT (allT (allT (allT allI)))))),b⟩
  ·exact q 1 rfl (jx (_,_,_,_) ⟨((a.k1p).facts (allC F2 (allT (allT (allT allI))))),b⟩)
 ·refine q 2 rfl ?_
  cases b
  exact lx _ (a.fc)
theorem prove_transposed_ok {A:L2} {B:Int} {C:Hdr} {out:L2} (f:prove_transposed A B=some out) (k:imm S1 C.v A∈ros) (a:St w0 ros rs w):
  Calls prog 67 #[C.v,iV B] w (fun e w=>∃ (D:Hdr) (E:List Hdr),e=.returned (D.v)∧St w0 ros (row 23 rH D.v E::fam 3 I1 E out::rs) w):=by
 refine en func67 rfl ntmps67 fun Q N=>bE f fun Z O f=>q 8 rfl ?_
 obtain ⟨R,em5,S⟩:=mkL_rep O hnil
 refine yh (rMk a SLH_109 e0 S) fun h w a=>?_
 replace a:=(a.fReps 3 I1 R).k10
 rw [← em5] at a
 refine q 7 rfl (y (yLenF SLH_109 e0 a rO0 R1) (bE f fun F T f=>q 4 rfl ?_))
 refine lpN (List Hdr) (List Hdr) T [0,5,12] (fun (m,o) i=>[(13,iV o)]) (fun (m,o) i=>St w0 ros (row 23 rH h.v i::fam 3 I1 i m::rs)) (fun | F,p=>(.exit 0,[],St w0 ros (row 23 rH h.v p::fam 3 I1 p F::rs))) rfl _ a rfl ?_ ?_
 ·clear a
  rintro p g w a
  refine q 9 rfl ?_
  cases f
  exact N _ _ _ (fin1r results67 ⟨rfl,rfl⟩ ⟨_,_,rfl,a⟩)
 rintro ⟨m,o⟩ i g w a0 a c
 refine q 6 rfl (cI c (fun U c=>?_) fun U c=>?_)
 ·refine q 13 rfl (y (yLen SL_109 e0 a (rdI k)) (bE c fun G V c=>q 4 rfl ?_))
  refine lpN (List Hdr) (List Hdr) V [0,5,6,12,13,16,17] (fun (r,s) j=>[(18,iV s)]) (fun (r,s) j=>St w0 ros (row 23 rH h.v j::fam 3 I1 j r::rs)) (fun | G,t=>(.exit 2,[],St w0 ros (row 23 rH h.v t::fam 3 I1 t G::rs))) rfl _ a rfl ?_ ?_
  ·clear a
   rintro t g w a
   refine q 7 rfl ?_
   cases c
   exact ln _ a
  rintro ⟨r,s⟩ j g w a1 a b
  refine q 6 rfl (cI b (fun W b=>?_) fun W b=>?_)
  ·refine q 6 rfl (bE b fun a2 H b=>y (yIa SL_109 e0 e0 a (rdI k) H) ?_)
   obtain ⟨a3,a⟩:=iLs a k H
   refine y (yCt O_23 e0 a F1 rfl) (bE b fun a4 I b=>bE b fun x J b=>bE b fun a5 X b=>bE b fun a6 K b=>q 3 rfl (dR [0,0,0,0,12,28,0,0,192,448,960,2044,4095,8191] [10,11,13] 3 folM ?_))
   replace a:=a.drew
   refine D1 [0,1,2,3,4,5,6,7,8,9] [] 10 rfl (qR 4 rfl ?_)
   obtain ⟨a7,d⟩:=a.famI R1 I
   refine rQ rfl (yIa SLH_109 e0 e0 a rO0 d) (rQ rfl (yF1 O_23 e0 a rO0 d rfl) (qR 2 rfl (rQ rfl (yIa SL_23 e0 e0 a (rdI F0) J) (rQ rfl (yI O_3 e0 a (rdI F0) J) (Rn QSn (LH wn (rLt (n:=1) (l:=[x]) a SL_23 [iV x] (bp1 e0) rfl rfl (mks1 (cs:=[iV x]) rfl mkI mks0)) fun a8 w a=>dU (D1 [] [0,1,2,3,4,5] 11 rfl (Rn (qS rfl (qS rfl (qS rfl (qS rfl (sY rfl (yIa SLH_109 e0 e0 a rO1 d) (sY rfl (yF1 O_23 e0 a rO1 d rfl) QSn)))))) ?_))))))))
   replace a:=(a.k16).foc d I
   refine LH wn (rAp a SL_23 e0 e0 rO2 X) fun L w a=>dU (D0 [12] [0,1] 13 rfl ?_)
   obtain ⟨a9,z⟩:=setI_len (u:=L) K (a.famLx (mtR mhR))
   refine rQ rfl (yIs SLH_109 e0 e0 a rO3 z) (Rn (qS rfl (qS rfl QSn)) ?_)
   replace a:=a.k1d
   refine LT wn (r_sti (cs:=[L.v]) a O_23 rfl e0 e0 rfl (mkF rfl) z) fun w a=>?_
   replace a:=(a.k1f).unfS d z K
   refine Dz [] [] (Rn QSn (qx 6 rfl ?_))
   cases b
   exact ln _ ((a.k1i).fc)
  ·refine q 2 rfl ?_
   cases b
   exact lx _ a
 ·refine q 2 rfl ?_
  cases c
  exact lx _ a
theorem prove_Rank_ok {j c:Int} {z A B:LI} {k l m:Hdr} {out:Int×Int×LI×LI×(List (List (Bool×LI)))×Int} (d:prove_Rank j c z A B=some out) (K:imm I1 k.v z∈ros) (L:imm I1 l.v A∈ros) (N:imm (rI .u64) m.v B∈ros) (O:globF∈ros) (a:St w0 ros rs w):
  Calls prog 27 #[.agg #[iV j,iV c,k.v,l.v,m.v]] w (fun e w=>∃ (C D E:Hdr) (F:List Hdr),e=.returned (.tuple #[.agg #[iV out.1,iV out.2.1,C.v,D.v,E.v],iV out.2.2.2.2.2])∧St w0 ros (row 3 I1 C.v out.2.2.1::row 3 I1 D.v out.2.2.2.1::row 28 rH E.v F::fam 40 (rP rB (rS (rI .u32))) F out.2.2.2.2.1::rs) w):=by
 refine en func27 rfl ntmps27 fun Q r=>q 2 rfl (yb (r_box (vals:=[iV j,iV c,k.v,l.v,m.v]) a e0 rfl) fun R w a=>yb (rAl a ZT_68) fun s w a=>q 5 rfl (y (lbs_ [iV j,iV c,k.v,l.v,m.v] ST_26 e0 a R1) (bE d fun S T d=>cT_ (matrix_Integers_ok T K L N O a) fun U b0 w a=>q 16 rfl ?_)))
 refine cIn d (fun V d=>?_) fun V d=>?_
 ·refine q 6 rfl (y (lb_ (iV c) O_3 e0 a R3) (bE d fun h W d=>?_))
  replace a:=a.ffz
  refine cT_ (prove_kernel_ok W F0 a) fun f o w a=>y (ybuild (us:=[iV 0,iV 0,hnil.v,hnil.v,f.v]) [(4,f.v)] SO_68 (bp1 e0) rfl) (yb (rAl a ZT_68) fun X w a=>sB rfl a ST_68 fun w a=>q 5 rfl (y (lb_ (iV c) O_3 e0 a R4) (q 1 rfl (y (lb_ f.v O_32 e0 a R0) (y (yLenF SLH_32 e0 a rO1 R2) (q 2 rfl (yt (r_stb1 (vals':=[iV (ws .i64 c (h.length:Int)),iV 0,hnil.v,hnil.v,f.v]) a O_3 e0 e0 rfl rfl rfl rfl) fun w a=>?_)))))))
  refine bE d fun Z a0 d=>q 5 rfl (cO (modular_Primes_ok a0 a) fun a1 w a=>y (yLen SL_23 e0 a rO0) (bE d fun a2 a3 d=>q 4 rfl ?_))
  refine lpN Unit (Hdr×Hdr) a3 [1,2,4,7,34,35] (fun t _=>[(36,iV t)]) (fun t _=>St w0 (imm (rS (rP rB (rS (rI .u32)))) U.v S.1::ros) (box R 26 [iV j,iV c,k.v,l.v,m.v]::box s 68 [iV 0,iV 0,hnil.v,hnil.v,hnil.v]::row 28 rH f.v o::fam 40 (rP rB (rS (rI .u32))) o h::box X 68 [iV (ws .i64 c (h.length:Int)),iV 0,hnil.v,hnil.v,f.v]::row 3 I1 a1.v Z::rs)) (fun | .inl (),(_,_)=>(.exit 0,[],St w0 ros (box s 68 [iV 0,iV 0,hnil.v,hnil.v,hnil.v]::rs)) | .inr (G,H,I),(u,x)=>(.ret,[(3,iV 0)],St w0 ros (row 3 I1 u.v H::row 3 I1 x.v I::row 28 rH f.v o::fam 40 (rP rB (rS (rI .u32))) o h::box s 68 [iV (ws .i64 c (h.length:Int)),iV G,u.v,x.v,f.v]::rs))) rfl () (a.k1q) rfl ?_ ?_
  ·clear a
   rintro ⟨u,x⟩ g w a
   rcases a2 with ⟨⟩ | ⟨G,H,I⟩
   ·refine q 4 rfl (y (ybuild (us:=[iV 0,iV 0,hnil.v,hnil.v,hnil.v]) [] SO_68 bp0 rfl) (sB rfl a ST_68 fun w a=>q 4 rfl ?_))
    cases d
    replace a:=((((a.rowNh 3 I1).rowNh 3 I1).rowNh 28 rH).fNew 40 (rP rB (rS (rI .u32)))).k10
    exact r _ _ _ (fin2r results27 (rcs2 rfl rfl a R4 ST_68 rfl) ⟨rfl,rfl⟩ ⟨_,_,_,_,rfl,(a.k1r)⟩)
   ·refine q 2 rfl ?_
    cases d
    exact r _ _ _ (fin2r results27 (rcs2 rfl rfl a R4 ST_68 rfl) ⟨rfl,rfl⟩ ⟨_,_,_,_,rfl,(a.k1s)⟩)
  rintro t _ g w b1 a b
  refine q 6 rfl (cI b (fun a4 b=>?_) fun a4 b=>?_)
  ·refine q 6 rfl (bE b fun i J b=>y (yIa SL_23 e0 e0 a rO5 J) (y (yI O_3 e0 a rO5 J) (bE b fun b2 a5 b=>q 7 rfl (cT_ (prove_reduced_ok a5 F0 a) fun b3 b4 w a=>bE b fun b5 a6 b=>q 7 rfl ?_))))
   replace a:=a.ffz
   refine cO (prove_independent_ok a6 F0 a) fun n w a=>q 6 rfl (y (yLen SL_23 e0 a rO0) (q 1 rfl (y (lb_ (iV (ws .i64 c (h.length:Int))) O_3 e0 a R5) (q 3 rfl (cI b (fun a7 b=>?_) fun a7 b=>?_)))))
   ·refine q 6 rfl (y (lb_ (iV c) O_3 e0 a R1) (bE b fun b6 a8 b=>cT_ (prove_transposed_ok a8 F0 a) fun b7 b8 w a=>bE b fun c0 a9 b=>q 1 rfl ?_))
    replace a:=a.ffz
    refine cO (prove_independent_ok a9 F0 a) fun p w a=>q 1 rfl ?_
    replace a:=a.k1t
    refine yt (r_stb1 (vals':=[iV (ws .i64 c (h.length:Int)),iV i,hnil.v,hnil.v,f.v]) a O_3 e0 e0 rfl rfl rfl rfl) fun w a=>q 1 rfl (yt (r_stb1 (vals':=[iV (ws .i64 c (h.length:Int)),iV i,n.v,hnil.v,f.v]) a O_23 e0 e0 rfl rfl rfl rfl) fun w a=>q 1 rfl (yt (r_stb1 (vals':=[iV (ws .i64 c (h.length:Int)),iV i,n.v,p.v,f.v]) a O_23 e0 e0 rfl rfl rfl rfl) fun w a=>q 4 rfl (y (lbs_ [iV (ws .i64 c (h.length:Int)),iV i,n.v,p.v,f.v] ST_68 e0 a R0) ?_)))
    replace a:=a.k1e
    refine yt (r_stbn (vals':=[iV (ws .i64 c (h.length:Int)),iV i,n.v,p.v,f.v]) (us:=[iV (ws .i64 c (h.length:Int)),iV i,n.v,p.v,f.v]) a ST_68 e0 e0 rfl rfl (one_of rfl) rfl) fun w a=>q 6 rfl ?_
    cases b
    exact lx (_,_) ((a.k1u).fc)
   ·refine q 7 rfl ?_
    cases b
    exact ln () ((a.k1v).facts (allC F1 (allT (allT allI))))
  ·refine q 2 rfl ?_
   cases b
   exact lx (hnil,hnil) ((a.k1w).fc)
 ·refine q 2 rfl (y (ybuild (us:=[iV 0,iV 0,hnil.v,hnil.v,hnil.v]) [] SO_68 bp0 rfl) (q 1 rfl ?_))
  replace a:=a.k16
  refine sB rfl a ST_68 fun w a=>q 5 rfl ?_
  cases d
  replace a:=((((a.rowNh 3 I1).rowNh 3 I1).rowNh 28 rH).fNew 40 (rP rB (rS (rI .u32)))).k10
  exact r _ _ _ (fin2r results27 (rcs2 rfl rfl a R4 ST_68 rfl) ⟨rfl,rfl⟩ ⟨_,_,_,_,rfl,(a.k1x)⟩)
theorem sparsekit_Limbs_ok {j k:LI} {l m:Hdr} {out:Bool} (c:sparsekit_Limbs j k=some out) (d:imm (rI .u32) l.v j∈ros) (f:imm (rI .u32) m.v k∈ros) (a:St w0 ros rs w):
  Calls prog 68 #[l.v,m.v] w (fun e w=>e=.returned (.bool out)∧St w0 ros rs w):=by
 refine en func68 rfl ntmps68 fun Q h=>q 9 rfl (y (yLen SL_38 e0 a (rdI d)) (q 1 rfl (y (yLen SL_38 e0 a (rdI f)) (q 3 rfl ?_))))
 refine cIn c (fun p c=>?_) fun p c=>?_
 ·refine q 9 rfl (bE c fun r s c=>?_)
  refine lp s [0,1] (fun i=>[(5,iV i)]) (fun i=>St w0 ros rs) (fun | .inl ()=>(.exit 0,[],St w0 ros rs) | .inr ()=>(.ret,[(4,.bool false)],St w0 ros rs)) rfl a rfl ?_ ?_
  ·clear a
   intro g w a
   rcases r with ⟨⟩ | ⟨⟩
   ·refine q 8 rfl ?_
    cases c
    exact za h results68 ⟨rfl,a⟩
   ·refine q 2 rfl ?_
    cases c
    exact za h results68 ⟨rfl,a⟩
  rintro i g w x a b
  refine q 5 rfl (y (yLen SL_38 e0 a (rdI d)) (q 3 rfl (cI b (fun t b=>?_) fun t b=>?_)))
  ·refine q 5 rfl (bE b fun z n b=>bE b fun A o b=>dR [0,0,3,7,0,0,48,112,255] [] 0 folM ?_)
   replace a:=a.drew
   refine Dz [0,1,2,3,4,5,6,7,8] [] (qR 2 rfl (rQ rfl (yIa SL_38 e0 e0 a (rdI d) n) (rQ rfl (yI O_96 e0 a (rdI d) n) (qR 2 rfl (rQ rfl (yIa SL_38 e0 e0 a (rdI f) o) (rQ rfl (yI O_96 e0 a (rdI f) o) (qR 1 rfl (Rn QSn (qx 1 rfl ?_)))))))))
   refine cIn b (fun u b=>?_) fun u b=>?_
   ·refine q 8 rfl ?_
    cases b
    exact lo a
   ·refine q 8 rfl ?_
    cases b
    exact xo a
  ·refine q 2 rfl ?_
   cases b
   exact xo a
 ·refine q 7 rfl ?_
  cases c
  exact za h results68 ⟨rfl,a⟩
theorem sparsekit_Big_ok {c:Bool} {j:LI} {d:Bool} {k:LI} {f h:Hdr} {out:Bool} (i:sparsekit_Big c j d k=some out) (m:imm (rI .u32) f.v j∈ros) (n:imm (rI .u32) h.v k∈ros) (a:St w0 ros rs w):
  Calls prog 28 #[.agg #[.bool c,f.v],.agg #[.bool d,h.v]] w (fun e w=>e=.returned (.bool out)∧St w0 ros rs w):=by
 refine en func28 rfl ntmps28 fun Q o=>q 2 rfl (yb (r_box (vals:=[.bool c,f.v]) a e0 rfl) fun t w a=>yb (r_box (vals:=[.bool d,h.v]) a e0 rfl) fun u w a=>q 6 rfl (y (lb_ (.bool c) O_4 e0 a R1) (q 1 rfl (y (lb_ (.bool d) O_4 e0 a R0) (y (yeqb (by kernel_rfl) e0 e0) (bE i fun p b i=>q 1 rfl ?_))))))
 refine jW 6 [] [(16,.bool p)] (St w0 ros rs) rfl (fun l=>?_) ?_
 ·refine gJ 10 b rfl (fun r b=>?_) fun r b=>?_
  ·refine q 1 rfl (y (lb_ f.v O_38 e0 a R1) (q 1 rfl (y (lb_ h.v O_38 e0 a R0) (bE b fun x s b=>cZ (sparsekit_Limbs_ok s m n a) fun w a=>q 1 rfl ?_))))
   cases b
   exact l _ _ (a.k19) rfl
  ·refine q 6 rfl ?_
   cases b
   exact l _ _ (a.k19) rfl
 intro g w a
 refine q 4 rfl ?_
 cases i
 exact za o results28 ⟨rfl,a⟩
theorem prove_ascending_ok {m:LI} {n i:Int} {o:Hdr} {out:Bool} (c:prove_ascending m n i=some out) (h:imm I1 o.v m∈ros) (a:St w0 ros rs w):
  Calls prog 70 #[o.v,iV n,iV i] w (fun e w=>e=.returned (.bool out)∧St w0 ros rs w):=by
 refine en func70 rfl ntmps70 fun Q j=>q 9 rfl (y (yLen SL_23 e0 a (rdI h)) (q 4 rfl ?_))
 refine cIn c (fun z c=>?_) fun z c=>?_
 ·refine q 6 rfl (y (yLen SL_23 e0 a (rdI h)) (bE c fun A B c=>q 4 rfl ?_))
  refine lp B [0,2,13,14] (fun k=>[(15,iV k)]) (fun k=>St w0 ros rs) (fun | .inl ()=>(.exit 0,[],St w0 ros rs) | .inr ()=>(.ret,[(6,.bool false)],St w0 ros rs)) rfl a rfl ?_ ?_
  ·clear a
   intro g w a
   rcases A with ⟨⟩ | ⟨⟩
   ·refine q 8 rfl ?_
    cases c
    exact za j results70 ⟨rfl,a⟩
   ·refine q 2 rfl ?_
    cases c
    exact za j results70 ⟨rfl,a⟩
  rintro k g w I a b
  refine q 6 rfl (cI b (fun C b=>?_) fun C b=>?_)
  ·refine q 7 rfl (bE b fun p r b=>y (yIa SL_23 e0 e0 a (rdI h) r) (y (yI O_3 e0 a (rdI h) r) (q 9 rfl ?_)))
   refine jW 4 [0,2,7,8,13,14,15] [(26,.bool ((decide (p < 0)) || (decide (i≤p))))] (St w0 ros rs) rfl (fun s=>?_) ?_
   ·refine gB 22 rfl (fun l=>?_) fun l=>?_
    ·exact q 4 rfl (s _ _ a (hasC (congrArg Value.bool (orT l)) rfl))
    ·exact q 4 rfl (s _ _ a (hasC (congrArg Value.bool (orF l)) rfl))
   intro g w a
   refine bE b fun D d b=>q 1 rfl ?_
   refine jW 12 [0,2,13,14,15] [(39,.bool D)] (St w0 ros rs) rfl (fun t=>?_) ?_
   ·refine gJ 27 d rfl (fun E d=>?_) fun E d=>?_
    ·refine q 12 rfl ?_
     cases d
     exact t _ _ a rfl
    ·refine q 3 rfl (bE d fun F f d=>?_)
     refine jW 8 [0,2,13,14,15,27] [(38,.bool F)] (St w0 ros rs) rfl (fun u=>?_) ?_
     ·refine gI 30 f rfl (fun G f=>?_) fun G f=>?_
      ·refine q 3 rfl (bE f fun J x f=>y (yIa SL_23 e0 e0 a (rdI h) x) (y (yI O_3 e0 a (rdI h) x) (q 3 rfl ?_)))
       cases f
       exact u _ _ a rfl
      ·refine q 8 rfl ?_
       cases f
       exact u _ _ a rfl
     intro g w a
     refine q 1 rfl ?_
     cases d
     exact t _ _ a rfl
   intro g w a
   refine q 2 rfl ?_
   refine cJ b (fun H b=>?_) fun H b=>?_
   ·refine q 8 rfl ?_
    cases b
    exact xo a
   ·refine q 7 rfl ?_
    cases b
    exact lo a
  ·refine q 2 rfl ?_
   cases b
   exact xo a
 ·refine q 7 rfl ?_
  cases c
  exact za j results70 ⟨rfl,a⟩
theorem modular_square_ok {f:L2} {h:Int} {i:Hdr} {out:Int} (b:modular_square f h=some out) (d:imm S1 i.v f∈ros) (a:St w0 ros rs w):
  Calls prog 145 #[i.v,iV h] w (fun e w=>e=.returned (iV out)∧St w0 ros rs w):=by
 refine en func145 rfl ntmps145 fun Q j=>bE b fun r l b=>q 9 rfl (cZ (modular_check_ok l d a) fun w a=>bE b fun m c b=>q 9 rfl ?_)
 refine jW 6 [5] [(17,.bool m)] (St w0 ros rs) rfl (fun k=>?_) ?_
 ·refine gI 11 c rfl (fun n c=>?_) fun n c=>?_
  ·refine q 1 rfl (y (yLen SL_109 e0 a (rdI d)) (bE c fun s o c=>q 1 rfl (cZ (modular_columns_ok o d a) fun w a=>q 2 rfl ?_)))
   cases c
   exact k _ _ a rfl
  ·refine q 6 rfl ?_
   cases c
   exact k _ _ a rfl
 intro g w a
 refine q 2 rfl ?_
 refine cJ b (fun p b=>?_) fun p b=>?_
 ·refine q 7 rfl ?_
  cases b
  exact za j results145 ⟨rfl,a⟩
 ·refine q 9 rfl ?_
  cases b
  exact za j results145 ⟨rfl,a⟩
theorem modular_Det_ok {f:L2} {g:Int} {h:Hdr} {out:Int×Int} (a:modular_Det f g=some out) (c:imm S1 h.v f∈ros) (b:St w0 ros rs w):
  Calls prog 113 #[h.v,iV g] w (fun e w=>e=.returned (.tuple #[iV out.1,iV out.2])∧St w0 ros rs w):=by
 refine en func113 rfl ntmps113 fun Q d=>bE a fun n i a=>q 10 rfl (cZ (modular_square_ok i c b) fun w b=>q 10 rfl ?_)
 refine cIn a (fun j a=>?_) fun j a=>?_
 ·refine q 6 rfl (bE a fun o k a=>cT_ (modular_reduced_ok k c b) fun p r w b=>bE a fun s l a=>q 1 rfl (cT_ (modular_echelon_ok l b) fun t u w b=>q 11 rfl (y (yLen SL_23 e0 b rO2) (q 1 rfl (y (yLen SL_109 e0 b (rdI c)) (q 3 rfl (cI a (fun m a=>?_) fun m a=>?_)))))))
  ·refine q 8 rfl ?_
   cases a
   exact zb d results113 ⟨rfl,(b.k1b)⟩
  ·refine q 10 rfl ?_
   cases a
   exact zb d results113 ⟨rfl,(b.k1b)⟩
 ·refine q 9 rfl ?_
  cases a
  exact zb d results113 ⟨rfl,b⟩
end Go.Proofs.YtcoaljcfifecgagGreatDoor
