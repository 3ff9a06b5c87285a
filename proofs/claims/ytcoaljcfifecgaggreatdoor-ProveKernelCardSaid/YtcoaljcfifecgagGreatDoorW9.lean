/- Walks: each function computes its model, printed. -/
import Derived.Test.YtcoaljcfifecgagGreatDoorW8
namespace Go.Proofs.YtcoaljcfifecgagGreatDoor
open Go Sx M Go.Proofs.Tryz
set_option maxRecDepth 100000
set_option maxHeartbeats 40000000
set_option linter.unusedVariables false
attribute [local irreducible] wpList Code.wp Calls DR QR QS LA LS St
variable {w0:World} {ros:List Fact} {rs:List Res} {w:World}
theorem sparseref01_mulMag_ok {p r:LI} {s t:Hdr} {out:LI} (d:sparseref01_mulMag p r=some out) (i:imm (rI .u32) s.v p∈ros) (f:imm (rI .u32) t.v r∈ros) (a:St w0 ros rs w):
  Calls prog 109 #[s.v,t.v] w (fun e w=>∃ (u:Hdr),e=.returned (u.v)∧St w0 ros (row 96 (rI .u32) u.v out::rs) w):=by
 refine en func109 rfl ntmps109 fun Q I=>q 8 rfl (y (yLen SL_38 e0 a (rdI i)) (q 1 rfl (y (yLen SL_38 e0 a (rdI f)) (bE d fun R J d=>q 1 rfl (yh (rMk a SL_38 e0 J) fun j w a=>bE d fun x K d=>q 10 rfl ?_)))))
 refine lp K [0,1,5] (fun (k,l)=>[(6,iV l)]) (fun (k,l)=>St w0 ros (row 96 (rI .u32) j.v k::rs)) (fun | x=>(.exit 0,[],St w0 ros (row 96 (rI .u32) j.v x::rs))) rfl a rfl ?_ ?_
 ·clear a
  intro g w a
  refine q 9 rfl ?_
  cases d
  exact I _ _ _ (fin1r results109 ⟨rfl,rfl⟩ ⟨_,rfl,a⟩)
 rintro ⟨k,l⟩ g w S a c
 refine q 5 rfl (y (yLen SL_38 e0 a (rdI i)) (q 3 rfl (cI c (fun L c=>?_) fun L c=>?_)))
 ·refine q 16 rfl ?_
  obtain ⟨⟨z,m⟩,N,c⟩:=bs c
  refine lp N [0,1,5,6] (fun (n,h,o)=>[(7,.int .u64 h),(8,iV o)]) (fun (n,h,o)=>St w0 ros (row 96 (rI .u32) j.v n::rs)) (fun | (z,m)=>(.exit 2,[(7,.int .u64 m)],St w0 ros (row 96 (rI .u32) j.v z::rs))) rfl a rfl ?_ ?_
  ·clear a
   intro g w a
   refine q 6 rfl (y (yLen SL_38 e0 a (rdI f)) (bE c fun T A c=>q 3 rfl (y (yIs SL_38 e0 e0 a rO0 A) (yt (r_sti (cs:=[.int .u32 (wc .u32 m)]) a O_96 rfl e0 e0 rfl mkI A) fun w a=>q 8 rfl ?_))))
   cases c
   exact lo a
  rintro ⟨n,h,o⟩ g w U a b
  refine q 5 rfl (y (yLen SL_38 e0 a (rdI f)) (q 3 rfl (cI b (fun O b=>?_) fun O b=>?_)))
  ·refine q 5 rfl (bE b fun B C b=>bE b fun D E b=>bE b fun F G b=>dR [0,0,0,6,14,30,0,0,192,448,960,2046,4095,0,0,0,49152,122880,253952,516096,1048575,2097151] [21] 1 folM ?_)
   replace a:=a.drew
   refine D1 [0,1,2,3,4,5,6,7,8,9,10,11,12,13,14,15,16,17,18,19,20] [] 21 rfl (qR 3 rfl (rQ rfl (yIa SL_38 e0 e0 a (rdI i) C) (rQ rfl (yI O_96 e0 a (rdI i) C) (qR 3 rfl (rQ rfl (yIa SL_38 e0 e0 a (rdI f) E) (rQ rfl (yI O_96 e0 a (rdI f) E) (qR 7 rfl (rQ rfl (yIa SL_38 e0 e0 a rO0 G) (rQ rfl (yI O_96 e0 a rO0 G) (qR 2 rfl (Rn QSn (Ly wn (a_ (.int .u64 (wa .u64 (wa .u64 h (wm .u64 (wc .u64 B) (wc .u64 D))) (wc .u64 F))) e0) (dU ?_)))))))))))))
   refine Dz [] [] (Rn QSn (bE b fun V H b=>qx 9 rfl (y (yIs SL_38 e0 e0 a rO0 H) (yt (r_sti (cs:=[.int .u32 (wc .u32 (wa .u64 (wa .u64 h (wm .u64 (wc .u64 B) (wc .u64 D))) (wc .u64 F)))]) a O_96 rfl e0 e0 rfl mkI H) fun w a=>q 14 rfl ?_))))
   cases b
   exact lo a
  ·refine q 2 rfl ?_
   cases b
   exact xo a
 ·refine q 2 rfl ?_
  cases c
  exact xo a
theorem sparseref01_Mul_ok {c:Bool} {h:LI} {d:Bool} {i:LI} {g f:Hdr} {out:Bool×LI} (b:sparseref01_Mul c h d i=some out) (m:imm (rI .u32) g.v h∈ros) (n:imm (rI .u32) f.v i∈ros) (a:St w0 ros rs w):
  Calls prog 61 #[.agg #[.bool c,g.v],.agg #[.bool d,f.v]] w (fun e w=>∃ (j:Hdr),e=.returned (.agg #[.bool out.1,j.v])∧St w0 ros (row 96 (rI .u32) j.v out.2::rs) w):=by
 refine en func61 rfl ntmps61 fun Q o=>q 2 rfl (yb (r_box (vals:=[.bool c,g.v]) a e0 rfl) fun u w a=>yb (r_box (vals:=[.bool d,f.v]) a e0 rfl) fun x w a=>yb (rAl a ZT_40) fun y w a=>bE b fun z p b=>bE b fun A r b=>bE b fun B s b=>bE b fun k t b=>q 3 rfl (dR [0,1,0,4,15,0,32,96,0,256,992,2016,4095,8191] [7,10,11,12,13] 5 folM ?_))
 replace a:=a.drew
 refine D1 [0,1,2,3,4,5,6,8,9] [] 7 rfl (qR 1 rfl (rQ rfl (lb_ (.bool c) O_4 e0 a R2) (qR 1 rfl (rQ rfl (lb_ (.bool d) O_4 e0 a R1) (rQ rfl (yneb (by kernel_rfl) e0 e0) (qR 1 rfl (rQ rfl (lb_ g.v O_38 e0 a R2) (qR 1 rfl (rQ rfl (lb_ f.v O_38 e0 a R1) (Rn QSn (kO (sparseref01_trim_ok p m a) fun C w a=>dU (D1 [] [0,1,2,3,4,8,9] 10 rfl ?_))))))))))))
 refine Rn (qS rfl (sY rfl (lb_ (.bool c) O_4 e0 a R3) (qS rfl (sY rfl (lb_ (.bool d) O_4 e0 a R2) (sY rfl (yneb (by kernel_rfl) e0 e0) (qS rfl (sY rfl (lb_ f.v O_38 e0 a R2) QSn))))))) (kO (sparseref01_trim_ok r n a) fun D w a=>dU (D1 [] [0,1,2,3,4] 11 rfl (Rn (qS rfl (sY rfl (lb_ (.bool c) O_4 e0 a R4) (qS rfl (sY rfl (lb_ (.bool d) O_4 e0 a R3) (sY rfl (yneb (by kernel_rfl) e0 e0) QSn))))) ?_)))
 replace a:=((a.k10).fz).fz
 refine kO (sparseref01_mulMag_ok s F1 F0 a) fun E w a=>dU (D1 [] [0,1,2,3,4] 12 rfl (Rn (qS rfl (sY rfl (lb_ (.bool c) O_4 e0 a R3) (qS rfl (sY rfl (lb_ (.bool d) O_4 e0 a R2) (sY rfl (yneb (by kernel_rfl) e0 e0) QSn))))) ?_))
 replace a:=a.fz
 refine kO (sparseref01_make1_ok t F0 a) fun l w a=>dU (D0 [] [] 13 rfl (Rn QSn ?_))
 replace a:=a.k10
 refine LT wn (r_stbn (vals':=[.bool k.1,l.v]) (us:=[.bool k.1,l.v]) a ST_40 e0 e0 rfl rfl (one_of rfl) rfl) fun w a=>Dz [] [] (Rn QSn (qx 2 rfl ?_))
 cases b
 exact o _ _ _ (fin1r results61 (rcs2 rfl rfl a R0 ST_40 rfl) ⟨_,rfl,((a.k15).fc)⟩)
theorem sparseref01_take_ok {h u:LI} {n x:Int} {f z:Hdr} {out:LI×Bool} (b:sparseref01_take h u n x=some out) (o:imm (rI .u32) z.v u∈ros) (a:St w0 ros (row 96 (rI .u32) f.v h::rs) w):
  Calls prog 173 #[f.v,z.v,iV n,.int .u64 x] w (fun e w=>e=.returned (.bool out.2)∧St w0 ros (row 96 (rI .u32) f.v out.1::rs) w):=by
 refine en func173 rfl ntmps173 fun Q A=>q 8 rfl (y (yLen SL_38 e0 a (rdI o)) (bE b fun V I b=>q 7 rfl (yh (rMk a SL_38 e0 I) fun l w a=>q 16 rfl ?_)))
 obtain ⟨⟨p,B⟩,J,b⟩:=bs b
 refine lp J [0,1,2,3,9,10] (fun (i,j,r,m)=>[(11,.int .u64 j),(12,.int .u64 r),(13,iV m)]) (fun (i,j,r,m)=>St w0 ros (row 96 (rI .u32) f.v h::row 96 (rI .u32) l.v i::rs)) (fun | (p,B)=>(.exit 0,[(11,.int .u64 B)],St w0 ros (row 96 (rI .u32) f.v h::row 96 (rI .u32) l.v p::rs))) rfl (a.k10) rfl ?_ ?_
 ·clear a
  intro g w a
  refine q 9 rfl ?_
  refine cIn b (fun K b=>?_) fun K b=>?_
  ·refine q 9 rfl (bE b fun C L b=>?_)
   refine lp L [0,2,9,10] (fun (s,t)=>[(15,iV t)]) (fun (s,t)=>St w0 ros (row 96 (rI .u32) f.v s::row 96 (rI .u32) l.v p::rs)) (fun | C=>(.exit 2,[],St w0 ros (row 96 (rI .u32) f.v C::rs))) rfl a rfl ?_ ?_
   ·clear a
    intro g w a
    refine q 8 rfl ?_
    cases b
    exact za A results173 ⟨rfl,a⟩
   rintro ⟨s,t⟩ g w W a d
   refine q 8 rfl (cI d (fun N d=>?_) fun N d=>?_)
   ·refine q 11 rfl (bE d fun O D d=>y (yIa SL_38 e0 e0 a rO1 D) (y (yI O_96 e0 a rO1 D) (bE d fun X E d=>y (yIs SL_38 e0 e0 a rO0 E) (yt (r_sti (cs:=[.int .u32 O]) a O_96 rfl e0 e0 rfl mkI E) fun w a=>q 8 rfl ?_))))
    cases d
    exact lo a
   ·refine q 2 rfl ?_
    cases d
    exact xo (a.k11)
  ·refine q 7 rfl ?_
   cases b
   exact za A results173 ⟨rfl,(a.k11)⟩
 rintro ⟨i,j,r,m⟩ g w R a c
 refine q 8 rfl (cI c (fun S c=>?_) fun S c=>?_)
 ·refine q 12 rfl ?_
  refine jC Int [0,1,2,3,9,10,11,13] (fun k=>[(12,.int .u64 k)]) (fun k w=>St w0 ros (row 96 (rI .u32) f.v h::row 96 (rI .u32) l.v i::rs) w∧sparseref01_take_j5 h m n i j k=some R) rfl ?_ ?_
  ·rintro k g w ⟨a,b⟩
   refine bE b fun T F b=>q 7 rfl (y (yIa SL_38 e0 e0 a rO0 F) (y (yI O_96 e0 a rO0 F) (bE b fun Z G b=>q 22 rfl (y (yIs SL_38 e0 e0 a rO1 G) ?_))))
   replace a:=a.k10
   refine yt (r_sti (cs:=[.int .u32 (wc .u32 (ws .u64 (ws .u64 (wc .u64 T) j) (wand .u64 k 4294967295)))]) a O_96 rfl e0 e0 rfl mkI G) fun w a=>q 14 rfl ?_
   cases b
   exact lo (a.k10)
  refine cI c (fun U c=>?_) fun U c=>?_
  ·exact q 5 rfl (bE c fun a0 H c=>y (yIa SL_38 e0 e0 a (rdI o) H) (y (yI O_96 e0 a (rdI o) H) (q 5 rfl (jx _ ⟨a,c⟩))))
  ·exact q 1 rfl (jx _ ⟨a,c⟩)
 ·refine q 2 rfl ?_
  cases c
  exact xo a
theorem sparseref01_divMag_ok {s d:LI} {C D:Hdr} {out:LI×LI} (b:sparseref01_divMag s d=some out) (i:imm (rI .u32) C.v s∈ros) (j:imm (rI .u32) D.v d∈ros) (a:St w0 ros rs w):
  Calls prog 159 #[C.v,D.v] w (fun e w=>∃ (E F:Hdr),e=.returned (.tuple #[E.v,F.v])∧St w0 (imm (rI .u32) F.v out.2::ros) (row 96 (rI .u32) E.v out.1::rs) w):=by
 refine en func159 rfl ntmps159 fun Q G=>bE b fun b5 S b=>q 11 rfl (cZ (sparseref01_cmpMag_ok S i j a) fun w a=>q 3 rfl (cI b (fun T b=>?_) fun T b=>?_))
 ·refine q 9 rfl ?_
  cases b
  replace a:=a.rowNh 96 (rI .u32)
  exact G _ _ _ (fin2r results159 ⟨rfl,rfl⟩ ⟨rfl,rfl⟩ ⟨_,_,rfl,(a.facts (allC i allI))⟩)
 ·refine q 5 rfl (y (yLen SL_38 e0 a (rdI j)) (bE b fun b6 H b=>q 8 rfl (y (yIa SL_38 e0 e0 a (rdI j) H) (y (yI O_96 e0 a (rdI j) H) (bE b fun U V b=>cZ (math_bits_LeadingZeros32_ok V a) fun w a=>bE b fun b7 W b=>bE b fun b8 X b=>bE b fun k t b=>q 4 rfl (dR [0,0,3,0,0,31,0,127,63,511] [2,5,8,9] 4 folM ?_))))))
  replace a:=a.drew
  refine D1 [0,1,3,4,6] [] 2 rfl (qR 5 rfl (Rn QSn (kO (sparseref01_shl_ok W i a) fun Z w a=>dU (D1 [] [3,4,6] 5 rfl (Rn (qS rfl (qS rfl (qS rfl QSn))) (kO (sparseref01_shl_ok X j a) fun m w a=>dU (D1 [7] [6] 8 rfl ?_)))))))
  replace a:=a.fz
  refine rQ rfl (ySl (k1:=.i64) SL_38 e0 a (rdI F0) (.inr ⟨rfl,rfl⟩) (.inl (congrArg some e0)) t) ?_
  replace a:=a.sub F0 t
  refine Rn (qS rfl QSn) (Ly wn (a_ Z.v e0) (dU (D1 [] [6,7] 9 rfl (Rn (qS rfl (sY rfl (ySl (k1:=.i64) SL_38 e0 a (rdI F1) (.inr ⟨rfl,rfl⟩) (.inl (congrArg some e0)) t) QSn)) (Ly wn (a_ ((subH m 1 0 (d.length:Int)).v) e0) (dU (Dz [] [] (Rn QSn (qx 5 rfl (y (yLen SL_38 e0 a rO0) (q 1 rfl (y (yLen SL_38 e0 a (rdI (F_2 i))) (q 3 rfl ?_)))))))))))))
  refine jC (LI×Hdr) [0,6,7,9] (fun (p,f)=>[(8,f.v)]) (fun (p,f) w=>St w0 (imm (rI .u32) (subH m 1 0 (d.length:Int)).v k::ros) (row 96 (rI .u32) f.v p::rs) w∧sparseref01_divMag_j1 s d k U p=some out) rfl ?_ ?_
  ·rintro ⟨p,f⟩ g w ⟨a,b⟩
   refine q 4 rfl (y (yLen SL_38 e0 a (rdI (mtF i))) (bE b fun b9 a0 b=>q 3 rfl (yh (rMk a SL_38 e0 a0) fun r w a=>q 7 rfl (y (yLen SL_38 e0 a (rdI (mtF i))) (q 6 rfl ?_)))))
   obtain ⟨⟨I,J⟩,a1,b⟩:=bs b
   refine lp a1 [6,7,8,9,10] (fun (u,o,x)=>[(11,iV x)]) (fun (u,o,x)=>St w0 (imm (rI .u32) (subH m 1 0 (d.length:Int)).v k::ros) (row 96 (rI .u32) f.v u::row 96 (rI .u32) r.v o::rs)) (fun | (I,J)=>(.exit 0,[],St w0 ros (row 96 (rI .u32) f.v I::row 96 (rI .u32) r.v J::rs))) rfl (a.k10) rfl ?_ ?_
   ·clear a
    intro g w a
    refine bE b fun c0 a2 b=>q 5 rfl ?_
    replace a:=a.fz
    refine cO (sparseref01_trim_ok a2 F0 a) fun c1 w a=>bE b fun c2 a3 b=>q 1 rfl ?_
    replace a:=a.fz
    refine cO (sparseref01_shr_ok a3 F0 a) fun c3 w a=>bE b fun c4 a4 b=>q 10 rfl ?_
    replace a:=(a.k10).fz
    refine cO (sparseref01_trim_ok a4 F0 a) fun c5 w a=>bE b fun c7 a5 b=>q 1 rfl ?_
    replace a:=(a.k10).fz
    refine cO (sparseref01_trim_ok a5 F0 a) fun c8 w a=>q 5 rfl ?_
    cases b
    replace a:=a.fz
    exact G _ _ _ (fin2r results159 ⟨rfl,rfl⟩ ⟨rfl,rfl⟩ ⟨_,_,rfl,(a.facts (allC F0 (allT (allT (allT (allT (allT allI)))))))⟩)
   rintro ⟨u,o,x⟩ g w c9 a c
   refine q 7 rfl (cI c (fun a6 c=>?_) fun a6 c=>?_)
   ·refine q 5 rfl (bE c fun a7 K c=>bE c fun a8 L c=>dR [0,0,0,6,15,31,63,127,0,0,0,1536,3584,7936,16128,32512,65535,131071] [17] 1 folM ?_)
    replace a:=a.drew
    refine D1 [0,1,2,3,4,5,6,7,8,9,10,11,12,13,14,15,16] [] 17 rfl (qR 4 rfl (rQ rfl (yIa SL_38 e0 e0 a rO0 K) (rQ rfl (yI O_96 e0 a rO0 K) (qR 7 rfl (rQ rfl (yIa SL_38 e0 e0 a rO0 L) (rQ rfl (yI O_96 e0 a rO0 L) (qR 2 rfl (Rn QSn (Ly wn (a_ (.int .u64 (wor .u64 (wslc .u64 (wc .u64 a7) 32) (wc .u64 a8))) e0) (dU (Dz [] [] (Rn QSn (bE c fun d0 N c=>?_)))))))))))))
    refine qx 7 rfl (y (yIa SL_38 e0 e0 a (rdI F0) N) (y (yI O_96 e0 a (rdI F0) N) (bE c fun d1 a9 c=>q 1 rfl (y (yquo e0 e0 a9) (q 6 rfl ?_)))))
    obtain ⟨⟨O,z⟩,b0,c⟩:=bs c
    refine lp b0 [6,7,8,9,10,11] (fun (A,B)=>[(13,.int .u64 B)]) (fun (A,B)=>St w0 (imm (rI .u32) (subH m 1 0 (d.length:Int)).v k::ros) (row 96 (rI .u32) f.v A::row 96 (rI .u32) r.v o::rs)) (fun | (O,z)=>(.exit 2,[(13,.int .u64 z)],St w0 (imm (rI .u32) (subH m 1 0 (d.length:Int)).v k::ros) (row 96 (rI .u32) f.v O::row 96 (rI .u32) r.v o::rs))) rfl a rfl ?_ ?_
    ·clear a
     intro g w a
     refine bE c fun d2 R c=>q 7 rfl (y (yIs SL_38 e0 e0 a rO1 R) ?_)
     replace a:=a.k10
     refine yt (r_sti (cs:=[.int .u32 (wc .u32 z)]) a O_96 rfl e0 e0 rfl mkI R) fun w a=>q 8 rfl ?_
     cases c
     exact lo (a.k10)
    rintro ⟨A,B⟩ g w d3 a h
    refine bE h fun d4 b1 h=>q 7 rfl (cZ (sparseref01_take_ok b1 F0 a) fun w a=>q 3 rfl ?_)
    refine cJn h (fun b2 h=>?_) fun b2 h=>?_
    ·refine q 2 rfl ?_
     cases h
     exact xo a
    ·refine q 9 rfl ?_
     cases h
     exact lo a
   ·refine q 2 rfl ?_
    cases c
    exact xo (a.fc)
  refine cI b (fun b3 b=>?_) fun b3 b=>?_
  ·refine q 2 rfl (yh (rLt (n:=1) (l:=[0]) a SL_38 [.int .u32 0] (bp1 rfl) rfl rfl (mks1 (cs:=[.int .u32 0]) rfl mkI mks0)) fun d5 w a=>bE b fun d6 b4 b=>?_)
   replace a:=a.k10
   exact yh (rAp a SL_38 e0 e0 rO1 b4) fun d7 w a=>q 2 rfl (jx (_,_) ⟨((a.k11).facts (allC F0 (allT (allT allI)))),b⟩)
  ·exact q 1 rfl (jx (_,_) ⟨(a.facts (allC F0 (allT (allT allI)))),b⟩)
theorem sparseref01_DivMod_ok {E:Bool} {S:LI} {A:Bool} {T:LI} {F B:Hdr} {out:Bool×LI×Bool×LI} (b:sparseref01_DivMod E S A T=some out) (a1:imm (rI .u32) F.v S∈ros) (a2:imm (rI .u32) B.v T∈ros) (a:St w0 ros rs w):
  Calls prog 140 #[.agg #[.bool E,F.v],.agg #[.bool A,B.v]] w (fun e w=>∃ (U V:Hdr),e=.returned (.tuple #[.agg #[.bool out.1,U.v],.agg #[.bool out.2.2.1,V.v]])∧St w0 (imm (rI .u32) V.v out.2.2.2::ros) (row 96 (rI .u32) U.v out.2.1::rs) w):=by
 refine en func140 rfl ntmps140 fun Q a3=>q 2 rfl (yb (r_box (vals:=[.bool E,F.v]) a e0 rfl) fun c0 w a=>yb (r_box (vals:=[.bool A,B.v]) a e0 rfl) fun a4 w a=>yb (rAl a ZT_40) fun N w a=>yb (rAl a ZT_40) fun O w a=>bE b fun i a5 b=>bE b fun j a6 b=>q 3 rfl (dR [0,1,0,7,15,31] [1,3,4,5] 4 folM ?_))
 replace a:=a.drew
 refine D1 [0,2] [] 1 rfl (rQ rfl (lbs_ [.bool E,F.v] ST_40 e0 a R3) (rQ rfl (lbs_ [.bool A,B.v] ST_40 e0 a R2) (Rn QSn (kO (sparseref01_Norm_ok a5 a1 a) fun R w a=>dU (D1 [] [2] 3 rfl (Rn (sY rfl (lbs_ [.bool A,B.v] ST_40 e0 a R3) QSn) (kO (sparseref01_Norm_ok a6 a2 a) fun u w a=>dU (D0 [] [] 4 rfl (Rn QSn ?_)))))))))
 replace a:=a.k25
 refine LT wn (r_stbn (vals':=[.bool i.1,R.v]) (us:=[.bool i.1,R.v]) a ST_40 e0 e0 rfl rfl (one_of rfl) rfl) fun w a=>D0 [] [] 5 rfl (Rn QSn ?_)
 replace a:=a.k25
 refine LT wn (r_stbn (vals':=[.bool j.1,u.v]) (us:=[.bool j.1,u.v]) a ST_40 e0 e0 rfl rfl (one_of rfl) rfl) fun w a=>Dz [] [] (Rn QSn (qx 4 rfl (y (lb_ R.v O_38 e0 a R1) (q 1 rfl (y (lb_ u.v O_38 e0 a R0) (bE b fun c1 a7 b=>?_))))))
 replace a:=(((a.k1d).fz).k16).fz
 refine cT_ (sparseref01_divMag_ok a7 F1 F0 a) fun c2 c3 w a=>bE b fun d C b=>bE b fun f k b=>q 8 rfl ?_
 refine jN (Nat×Hdr×Nat×Hdr) [3,4,5] (fun (x,l,z,r)=>[(8,(pB x)),(9,(pB z))]) (fun (x,l,z,r)=>St w0 (imm (rI .u32) u.v j.2::ros) (box a4 40 [.bool j.1,u.v]::box N 40 [.bool false,hnil.v]::box O 40 [.bool false,hnil.v]::row 96 (rI .u32) l.v d.2::box x 40 [.bool d.1,l.v]::row 96 (rI .u32) r.v f.2::box z 40 [.bool f.1,r.v]::rs)) rfl ?_ ?_
 ·refine dR [0,1,0,4,15,0,63,0,128,0,1023,0,0,8191,16383] [6,10,11,12,13,14] 6 folM ?_
  replace a:=a.drew
  refine Dn [0,1,2,3,4,5,7,8,9] [] [6,11,12] (qR 1 rfl (rQ rfl (lb_ (.bool i.1) O_4 e0 a R2) (qR 1 rfl (rQ rfl (lb_ (.bool j.1) O_4 e0 a R1) (rQ rfl (yneb (by kernel_rfl) e0 e0) (qR 2 rfl (rQ rfl (lb_ (.bool i.1) O_4 e0 a R2) (qR 1 rfl (Rn QSn ?_)))))))))
  refine La1 rfl ?_ (La1 rfl ?_ (La1 rfl ?_ LAn))
  ·replace a:=a.fz
   refine kO (sparseref01_make1_ok C F0 a) fun h w a=>dU (Dn [] [7,8,9] [10,11,12] (Rn (qS rfl (sY rfl (lb_ (.bool i.1) O_4 e0 a R2) (qS rfl QSn))) ?_))
   refine La1 rfl ?_ (La1 rfl ?_ (La1 rfl ?_ LAn))
   ·refine kO (sparseref01_make1_ok k F1 a) fun c w a=>dU (Dn [] [] [11,12] (Rn QSn ?_))
    refine La1 rfl ?_ (La1 rfl ?_ LAn)
    ·refine LB wn (rAl a ZT_40) fun m w a=>dU (D1 [] [] 12 rfl (Rn QSn (LB wn (rAl a ZT_40) fun n w a=>dU (D0 [] [] 13 rfl (Rn QSn ?_)))))
     replace a:=a.k10
     refine LT wn (r_stbn (vals':=[.bool d.1,h.v]) (us:=[.bool d.1,h.v]) a ST_40 e0 e0 rfl rfl (one_of rfl) rfl) fun w a=>D0 [] [] 14 rfl (Rn QSn ?_)
     replace a:=a.k10
     exact LT wn (r_stbn (vals':=[.bool f.1,c.v]) (us:=[.bool f.1,c.v]) a ST_40 e0 e0 rfl rfl (one_of rfl) rfl) fun w a=>Dz [] [] (Rn QSn (jr (_,_,_,_) ((a.k3f).facts (allC F2 (allT (allT (allT (allT allI))))))))
    ·refine LB wn (rAl a ZT_40) fun n w a=>dU (D1 [] [] 11 rfl (Rn QSn (LB wn (rAl a ZT_40) fun m w a=>dU (D0 [] [] 13 rfl (Rn QSn (LT wn (r_stbn (vals':=[.bool d.1,h.v]) (us:=[.bool d.1,h.v]) a ST_40 e0 e0 rfl rfl (one_of rfl) rfl) fun w a=>D0 [] [] 14 rfl (Rn QSn ?_)))))))
     replace a:=a.k10
     exact LT wn (r_stbn (vals':=[.bool f.1,c.v]) (us:=[.bool f.1,c.v]) a ST_40 e0 e0 rfl rfl (one_of rfl) rfl) fun w a=>Dz [] [] (Rn QSn (jr (_,_,_,_) ((a.k3f).facts (allC F2 (allT (allT (allT (allT allI))))))))
   ·refine LB wn (rAl a ZT_40) fun m w a=>dU (Dn [] [7,8,9] [10,12] (Rn (qS rfl (sY rfl (lb_ (.bool i.1) O_4 e0 a R3) (qS rfl QSn))) ?_))
    refine La1 rfl ?_ (La1 rfl ?_ LAn)
    ·refine kO (sparseref01_make1_ok k F1 a) fun c w a=>dU (D1 [] [] 12 rfl (Rn QSn (LB wn (rAl a ZT_40) fun n w a=>dU (D0 [] [] 13 rfl (Rn QSn ?_)))))
     replace a:=a.k16
     refine LT wn (r_stbn (vals':=[.bool d.1,h.v]) (us:=[.bool d.1,h.v]) a ST_40 e0 e0 rfl rfl (one_of rfl) rfl) fun w a=>D0 [] [] 14 rfl (Rn QSn ?_)
     replace a:=a.k10
     exact LT wn (r_stbn (vals':=[.bool f.1,c.v]) (us:=[.bool f.1,c.v]) a ST_40 e0 e0 rfl rfl (one_of rfl) rfl) fun w a=>Dz [] [] (Rn QSn (jr (_,_,_,_) ((a.k3f).facts (allC F2 (allT (allT (allT (allT allI))))))))
    ·refine LB wn (rAl a ZT_40) fun n w a=>dU (D1 [] [7,8,9] 10 rfl (Rn (qS rfl (sY rfl (lb_ (.bool i.1) O_4 e0 a R4) (qS rfl QSn))) (kO (sparseref01_make1_ok k F1 a) fun c w a=>dU (D0 [] [] 13 rfl (Rn QSn ?_)))))
     replace a:=a.k16
     refine LT wn (r_stbn (vals':=[.bool d.1,h.v]) (us:=[.bool d.1,h.v]) a ST_40 e0 e0 rfl rfl (one_of rfl) rfl) fun w a=>D0 [] [] 14 rfl (Rn QSn ?_)
     replace a:=a.k16
     exact LT wn (r_stbn (vals':=[.bool f.1,c.v]) (us:=[.bool f.1,c.v]) a ST_40 e0 e0 rfl rfl (one_of rfl) rfl) fun w a=>Dz [] [] (Rn QSn (jr (_,_,_,_) ((a.k3f).facts (allC F2 (allT (allT (allT (allT allI))))))))
   ·refine LB wn (rAl a ZT_40) fun n w a=>dU (Dn [] [7,8,9] [10,11] (Rn (qS rfl (sY rfl (lb_ (.bool i.1) O_4 e0 a R3) (qS rfl QSn))) ?_))
    refine La1 rfl ?_ (La1 rfl ?_ LAn)
    ·refine kO (sparseref01_make1_ok k F1 a) fun c w a=>dU (D1 [] [] 11 rfl (Rn QSn (LB wn (rAl a ZT_40) fun m w a=>dU (D0 [] [] 13 rfl (Rn QSn (LT wn (r_stbn (vals':=[.bool d.1,h.v]) (us:=[.bool d.1,h.v]) a ST_40 e0 e0 rfl rfl (one_of rfl) rfl) fun w a=>D0 [] [] 14 rfl (Rn QSn ?_)))))))
     replace a:=a.k16
     exact LT wn (r_stbn (vals':=[.bool f.1,c.v]) (us:=[.bool f.1,c.v]) a ST_40 e0 e0 rfl rfl (one_of rfl) rfl) fun w a=>Dz [] [] (Rn QSn (jr (_,_,_,_) ((a.k3f).facts (allC F2 (allT (allT (allT (allT allI))))))))
    ·refine LB wn (rAl a ZT_40) fun m w a=>dU (D1 [] [7,8,9] 10 rfl (Rn (qS rfl (sY rfl (lb_ (.bool i.1) O_4 e0 a R4) (qS rfl QSn))) (kO (sparseref01_make1_ok k F1 a) fun c w a=>dU (D0 [] [] 13 rfl (Rn QSn ?_)))))
     replace a:=a.k10
     refine LT wn (r_stbn (vals':=[.bool d.1,h.v]) (us:=[.bool d.1,h.v]) a ST_40 e0 e0 rfl rfl (one_of rfl) rfl) fun w a=>D0 [] [] 14 rfl (Rn QSn ?_)
     replace a:=a.k16
     exact LT wn (r_stbn (vals':=[.bool f.1,c.v]) (us:=[.bool f.1,c.v]) a ST_40 e0 e0 rfl rfl (one_of rfl) rfl) fun w a=>Dz [] [] (Rn QSn (jr (_,_,_,_) ((a.k3f).facts (allC F2 (allT (allT (allT (allT allI))))))))
  ·refine LB wn (rAl a ZT_40) fun m w a=>dU (Dn [] [0,1,2,3,4,5,7,8,9] [6,12] (Rn (qS rfl (sY rfl (lb_ (.bool i.1) O_4 e0 a R3) (qS rfl (sY rfl (lb_ (.bool j.1) O_4 e0 a R2) (sY rfl (yneb (by kernel_rfl) e0 e0) (qS rfl (qS rfl (sY rfl (lb_ (.bool i.1) O_4 e0 a R3) (qS rfl QSn))))))))) ?_))
   refine La1 rfl ?_ (La1 rfl ?_ LAn)
   ·replace a:=a.k10
    replace a:=a.fz
    refine kO (sparseref01_make1_ok C F0 a) fun h w a=>dU (Dn [] [7,8,9] [10,12] (Rn (qS rfl (sY rfl (lb_ (.bool i.1) O_4 e0 a R3) (qS rfl QSn))) ?_))
    refine La1 rfl ?_ (La1 rfl ?_ LAn)
    ·refine kO (sparseref01_make1_ok k F1 a) fun c w a=>dU (D1 [] [] 12 rfl (Rn QSn (LB wn (rAl a ZT_40) fun n w a=>dU (D0 [] [] 13 rfl (Rn QSn ?_)))))
     replace a:=a.k1d
     refine LT wn (r_stbn (vals':=[.bool d.1,h.v]) (us:=[.bool d.1,h.v]) a ST_40 e0 e0 rfl rfl (one_of rfl) rfl) fun w a=>D0 [] [] 14 rfl (Rn QSn ?_)
     replace a:=a.k10
     exact LT wn (r_stbn (vals':=[.bool f.1,c.v]) (us:=[.bool f.1,c.v]) a ST_40 e0 e0 rfl rfl (one_of rfl) rfl) fun w a=>Dz [] [] (Rn QSn (jr (_,_,_,_) ((a.k3f).facts (allC F2 (allT (allT (allT (allT allI))))))))
    ·refine LB wn (rAl a ZT_40) fun n w a=>dU (D1 [] [7,8,9] 10 rfl (Rn (qS rfl (sY rfl (lb_ (.bool i.1) O_4 e0 a R4) (qS rfl QSn))) (kO (sparseref01_make1_ok k F1 a) fun c w a=>dU (D0 [] [] 13 rfl (Rn QSn ?_)))))
     replace a:=a.k1d
     refine LT wn (r_stbn (vals':=[.bool d.1,h.v]) (us:=[.bool d.1,h.v]) a ST_40 e0 e0 rfl rfl (one_of rfl) rfl) fun w a=>D0 [] [] 14 rfl (Rn QSn ?_)
     replace a:=a.k16
     exact LT wn (r_stbn (vals':=[.bool f.1,c.v]) (us:=[.bool f.1,c.v]) a ST_40 e0 e0 rfl rfl (one_of rfl) rfl) fun w a=>Dz [] [] (Rn QSn (jr (_,_,_,_) ((a.k3f).facts (allC F2 (allT (allT (allT (allT allI))))))))
   ·refine LB wn (rAl a ZT_40) fun n w a=>dU (D1 [] [0,1,2,3,4,5,7,8,9] 6 rfl (Rn (qS rfl (sY rfl (lb_ (.bool i.1) O_4 e0 a R4) (qS rfl (sY rfl (lb_ (.bool j.1) O_4 e0 a R3) (sY rfl (yneb (by kernel_rfl) e0 e0) (qS rfl (qS rfl (sY rfl (lb_ (.bool i.1) O_4 e0 a R4) (qS rfl QSn))))))))) ?_))
    replace a:=(a.k16).fz
    refine kO (sparseref01_make1_ok C F0 a) fun h w a=>dU (D1 [] [7,8,9] 10 rfl (Rn (qS rfl (sY rfl (lb_ (.bool i.1) O_4 e0 a R4) (qS rfl QSn))) (kO (sparseref01_make1_ok k F1 a) fun c w a=>dU (D0 [] [] 13 rfl (Rn QSn ?_)))))
    replace a:=a.k1d
    refine LT wn (r_stbn (vals':=[.bool d.1,h.v]) (us:=[.bool d.1,h.v]) a ST_40 e0 e0 rfl rfl (one_of rfl) rfl) fun w a=>D0 [] [] 14 rfl (Rn QSn ?_)
    replace a:=a.k1d
    exact LT wn (r_stbn (vals':=[.bool f.1,c.v]) (us:=[.bool f.1,c.v]) a ST_40 e0 e0 rfl rfl (one_of rfl) rfl) fun w a=>Dz [] [] (Rn QSn (jr (_,_,_,_) ((a.k3f).facts (allC F2 (allT (allT (allT (allT allI))))))))
  ·refine LB wn (rAl a ZT_40) fun n w a=>dU (Dn [] [0,1,2,3,4,5,7,8,9] [6,11] (Rn (qS rfl (sY rfl (lb_ (.bool i.1) O_4 e0 a R3) (qS rfl (sY rfl (lb_ (.bool j.1) O_4 e0 a R2) (sY rfl (yneb (by kernel_rfl) e0 e0) (qS rfl (qS rfl (sY rfl (lb_ (.bool i.1) O_4 e0 a R3) (qS rfl QSn))))))))) ?_))
   refine La1 rfl ?_ (La1 rfl ?_ LAn)
   ·replace a:=a.k10
    replace a:=a.fz
    refine kO (sparseref01_make1_ok C F0 a) fun h w a=>dU (Dn [] [7,8,9] [10,11] (Rn (qS rfl (sY rfl (lb_ (.bool i.1) O_4 e0 a R3) (qS rfl QSn))) ?_))
    refine La1 rfl ?_ (La1 rfl ?_ LAn)
    ·refine kO (sparseref01_make1_ok k F1 a) fun c w a=>dU (D1 [] [] 11 rfl (Rn QSn (LB wn (rAl a ZT_40) fun m w a=>dU (D0 [] [] 13 rfl (Rn QSn (LT wn (r_stbn (vals':=[.bool d.1,h.v]) (us:=[.bool d.1,h.v]) a ST_40 e0 e0 rfl rfl (one_of rfl) rfl) fun w a=>D0 [] [] 14 rfl (Rn QSn ?_)))))))
     replace a:=a.k1d
     exact LT wn (r_stbn (vals':=[.bool f.1,c.v]) (us:=[.bool f.1,c.v]) a ST_40 e0 e0 rfl rfl (one_of rfl) rfl) fun w a=>Dz [] [] (Rn QSn (jr (_,_,_,_) ((a.k3f).facts (allC F2 (allT (allT (allT (allT allI))))))))
    ·refine LB wn (rAl a ZT_40) fun m w a=>dU (D1 [] [7,8,9] 10 rfl (Rn (qS rfl (sY rfl (lb_ (.bool i.1) O_4 e0 a R4) (qS rfl QSn))) (kO (sparseref01_make1_ok k F1 a) fun c w a=>dU (D0 [] [] 13 rfl (Rn QSn ?_)))))
     replace a:=a.k10
     refine LT wn (r_stbn (vals':=[.bool d.1,h.v]) (us:=[.bool d.1,h.v]) a ST_40 e0 e0 rfl rfl (one_of rfl) rfl) fun w a=>D0 [] [] 14 rfl (Rn QSn ?_)
     replace a:=a.k1d
     exact LT wn (r_stbn (vals':=[.bool f.1,c.v]) (us:=[.bool f.1,c.v]) a ST_40 e0 e0 rfl rfl (one_of rfl) rfl) fun w a=>Dz [] [] (Rn QSn (jr (_,_,_,_) ((a.k3f).facts (allC F2 (allT (allT (allT (allT allI))))))))
   ·refine LB wn (rAl a ZT_40) fun m w a=>dU (D1 [] [0,1,2,3,4,5,7,8,9] 6 rfl (Rn (qS rfl (sY rfl (lb_ (.bool i.1) O_4 e0 a R4) (qS rfl (sY rfl (lb_ (.bool j.1) O_4 e0 a R3) (sY rfl (yneb (by kernel_rfl) e0 e0) (qS rfl (qS rfl (sY rfl (lb_ (.bool i.1) O_4 e0 a R4) (qS rfl QSn))))))))) ?_))
    replace a:=(a.k16).fz
    refine kO (sparseref01_make1_ok C F0 a) fun h w a=>dU (D1 [] [7,8,9] 10 rfl (Rn (qS rfl (sY rfl (lb_ (.bool i.1) O_4 e0 a R4) (qS rfl QSn))) (kO (sparseref01_make1_ok k F1 a) fun c w a=>dU (D0 [] [] 13 rfl (Rn QSn ?_)))))
    replace a:=a.k16
    refine LT wn (r_stbn (vals':=[.bool d.1,h.v]) (us:=[.bool d.1,h.v]) a ST_40 e0 e0 rfl rfl (one_of rfl) rfl) fun w a=>D0 [] [] 14 rfl (Rn QSn ?_)
    replace a:=a.k1d
    exact LT wn (r_stbn (vals':=[.bool f.1,c.v]) (us:=[.bool f.1,c.v]) a ST_40 e0 e0 rfl rfl (one_of rfl) rfl) fun w a=>Dz [] [] (Rn QSn (jr (_,_,_,_) ((a.k3f).facts (allC F2 (allT (allT (allT (allT allI))))))))
 rintro ⟨x,l,z,r⟩ g w a
 refine q 4 rfl (y (lbs_ [.bool f.1,r.v] ST_40 e0 a R6) (bE b fun c4 a8 b=>?_))
 replace a:=(a.k25).fz
 refine cZ (sparseref01_Sign_ok a8 F0 a) fun w a=>q 3 rfl ?_
 refine jC (Bool×LI×Bool×LI×Hdr×Hdr) [4,5,8,9] (fun (s,G,o,H,t,p)=>[]) (fun (s,G,o,H,t,p) w=>St w0 (imm (rI .u32) p.v H::ros) (box N 40 [.bool false,hnil.v]::box O 40 [.bool false,hnil.v]::row 96 (rI .u32) t.v G::box x 40 [.bool s,t.v]::box z 40 [.bool o,p.v]::rs) w∧sparseref01_DivMod_j3 s G o H=some out) rfl ?_ ?_
 ·rintro ⟨s,G,o,H,t,p⟩ g w ⟨a,b⟩
  refine q 2 rfl (dR [0,0,1,7] [2,3] 2 folM ?_)
  replace a:=a.drew
  refine D0 [0,1] [] 2 rfl (rQ rfl (lbs_ [.bool s,t.v] ST_40 e0 a R3) (rQ rfl (lbs_ [.bool o,p.v] ST_40 e0 a R4) (Rn QSn (LT wn (r_stbn (vals':=[.bool s,t.v]) (us:=[.bool s,t.v]) a ST_40 e0 e0 rfl rfl (one_of rfl) rfl) fun w a=>D0 [] [1] 3 rfl (Rn (sY rfl (lbs_ [.bool o,p.v] ST_40 e0 a R4) QSn) ?_)))))
  replace a:=a.k10
  refine LT wn (r_stbn (vals':=[.bool o,p.v]) (us:=[.bool o,p.v]) a ST_40 e0 e0 rfl rfl (one_of rfl) rfl) fun w a=>Dz [] [] (Rn QSn (qx 2 rfl ?_))
  cases b
  exact a3 _ _ _ (fin2r results140 (rcs2 rfl rfl a R1 ST_40 rfl) (rcs2 rfl rfl a R0 ST_40 rfl) ⟨_,_,rfl,(a.k3g)⟩)
 refine cI b (fun a9 b=>?_) fun a9 b=>?_
 ·refine q 1 rfl (bE b fun c5 b0 b=>bE b fun D b1 b=>dR [0,0,2,7,15] [2,3,4] 3 folM ?_)
  replace a:=a.drew
  refine D1 [0,1] [] 2 rfl (rQ rfl (lbs_ [.bool f.1,r.v] ST_40 e0 a R5) (rQ rfl (lbs_ [.bool j.1,u.v] ST_40 e0 a R0) (Rn QSn (kO (sparseref01_Abs_ok b0 F1 a) fun c6 w a=>dU (D1 [] [0] 3 rfl (Rn (sY rfl (lbs_ [.bool f.1,r.v] ST_40 e0 a R6) QSn) ?_))))))
  replace a:=a.fz
  refine kO (sparseref01_Add_ok b1 F1 F0 a) fun I w a=>dU (D0 [] [] 4 rfl (Rn QSn ?_))
  replace a:=a.k1t
  refine LT wn (r_stbn (vals':=[.bool D.1,I.v]) (us:=[.bool D.1,I.v]) a ST_40 e0 e0 rfl rfl (one_of rfl) rfl) fun w a=>Dz [] [] (Rn QSn (qx 4 rfl (y (lb_ (.bool j.1) O_4 e0 a R2) (q 2 rfl ?_))))
  refine jC (Bool×LI×Hdr) [4,5,8,9] (fun (J,K,L)=>[]) (fun (J,K,L) w=>St w0 ros (box N 40 [.bool false,hnil.v]::box O 40 [.bool false,hnil.v]::row 96 (rI .u32) L.v K::box x 40 [.bool J,L.v]::row 96 (rI .u32) I.v D.2::box z 40 [.bool D.1,I.v]::rs) w∧sparseref01_DivMod_j4 D J K=some out) rfl ?_ ?_
  ·rintro ⟨J,K,L⟩ g w ⟨a,b⟩
   replace a:=(a.k1e).fz
   exact jx (_,_,_,_,_,_) ⟨a,b⟩
  refine cJ b (fun b2 b=>?_) fun b2 b=>?_
  ·refine bE b fun c7 b3 b=>bE b fun W b4 b=>dR [0,0,3,7] [1,2,3] 3 folM ?_
   replace a:=a.drew
   refine D1 [0] [] 1 rfl (rQ rfl (lbs_ [.bool d.1,l.v] ST_40 e0 a R6) (Rn QSn (kO (sparseref01_FromInt_ok b3 a) fun c8 w a=>dU (D1 [] [0] 2 rfl (Rn (sY rfl (lbs_ [.bool d.1,l.v] ST_40 e0 a R7) QSn) ?_)))))
   replace a:=((a.k1t).fz).fz
   refine kO (sparseref01_Add_ok b4 F1 F0 a) fun X w a=>dU (D0 [] [] 3 rfl (Rn QSn ?_))
   replace a:=a.k1t
   exact LT wn (r_stbn (vals':=[.bool W.1,X.v]) (us:=[.bool W.1,X.v]) a ST_40 e0 e0 rfl rfl (one_of rfl) rfl) fun w a=>Dz [] [] (Rn QSn (qx 0 rfl (jx (_,_,_) ⟨((a.k3h).fc),b⟩)))
  ·refine bE b fun c9 b5 b=>bE b fun Z b6 b=>dR [0,0,3,7] [1,2,3] 3 folM ?_
   replace a:=a.drew
   refine D1 [0] [] 1 rfl (rQ rfl (lbs_ [.bool d.1,l.v] ST_40 e0 a R6) (Rn QSn (kO (sparseref01_FromInt_ok b5 a) fun d0 w a=>dU (D1 [] [0] 2 rfl (Rn (sY rfl (lbs_ [.bool d.1,l.v] ST_40 e0 a R7) QSn) ?_)))))
   replace a:=((a.k1t).fz).fz
   refine kO (sparseref01_Sub_ok b6 F1 F0 a) fun a0 w a=>dU (D0 [] [] 3 rfl (Rn QSn ?_))
   replace a:=a.k1t
   exact LT wn (r_stbn (vals':=[.bool Z.1,a0.v]) (us:=[.bool Z.1,a0.v]) a ST_40 e0 e0 rfl rfl (one_of rfl) rfl) fun w a=>Dz [] [] (Rn QSn (qx 0 rfl (jx (_,_,_) ⟨((a.k3h).fc),b⟩)))
 ·exact q 1 rfl (jx (_,_,_,_,_,_) ⟨((a.k3i).facts (allC F0 (allT (allT allI)))),b⟩)
theorem sparseref01_GCD_ok {n:Bool} {N:LI} {h:Bool} {O:LI} {o i:Hdr} {out:Bool×LI} (t:sparseref01_GCD n N h O=some out) (x:imm (rI .u32) o.v N∈ros) (j:imm (rI .u32) i.v O∈ros) (a:St w0 ros rs w):
  Calls prog 107 #[.agg #[.bool n,o.v],.agg #[.bool h,i.v]] w (fun e w=>∃ (R:Hdr),e=.returned (.agg #[.bool out.1,R.v])∧St w0 (imm (rI .u32) R.v out.2::ros) rs w):=by
 refine en func107 rfl ntmps107 fun Q T=>q 2 rfl (yb (r_box (vals:=[.bool n,o.v]) a e0 rfl) fun Z w a=>yb (r_box (vals:=[.bool h,i.v]) a e0 rfl) fun a0 w a=>yb (rAl a ZT_40) fun I w a=>bE t fun d z t=>bE t fun f k t=>q 3 rfl ?_)
 refine jN (Nat×Hdr×Nat×Hdr) [4] (fun (u,C,A,D)=>[(5,(pB u)),(6,(pB A))]) (fun (u,C,A,D)=>St w0 ros (box I 40 [.bool false,hnil.v]::row 96 (rI .u32) C.v d.2::box u 40 [.bool d.1,C.v]::row 96 (rI .u32) D.v f.2::box A 40 [.bool f.1,D.v]::rs)) rfl ?_ ?_
 ·refine dR [0,1,0,7,0,0,63,127] [1,3,4,5,6,7] 6 folM ?_
  replace a:=a.drew
  refine Dn [0,2] [] [1,4,5] (rQ rfl (lbs_ [.bool n,o.v] ST_40 e0 a R2) (rQ rfl (lbs_ [.bool h,i.v] ST_40 e0 a R1) (Rn QSn ?_)))
  refine La1 rfl ?_ (La1 rfl ?_ (La1 rfl ?_ LAn))
  ·refine kO (sparseref01_Abs_ok z x a) fun c w a=>dU (Dn [] [2] [3,4,5] (Rn (sY rfl (lbs_ [.bool h,i.v] ST_40 e0 a R2) QSn) ?_))
   refine La1 rfl ?_ (La1 rfl ?_ (La1 rfl ?_ LAn))
   ·refine kO (sparseref01_Abs_ok k j a) fun b w a=>dU (Dn [] [] [4,5] (Rn QSn ?_))
    refine La1 rfl ?_ (La1 rfl ?_ LAn)
    ·refine LB wn (rAl a ZT_40) fun p w a=>dU (D1 [] [] 5 rfl (Rn QSn (LB wn (rAl a ZT_40) fun r w a=>dU (D0 [] [] 6 rfl (Rn QSn ?_)))))
     replace a:=a.k10
     refine LT wn (r_stbn (vals':=[.bool d.1,c.v]) (us:=[.bool d.1,c.v]) a ST_40 e0 e0 rfl rfl (one_of rfl) rfl) fun w a=>D0 [] [] 7 rfl (Rn QSn ?_)
     replace a:=a.k10
     exact LT wn (r_stbn (vals':=[.bool f.1,b.v]) (us:=[.bool f.1,b.v]) a ST_40 e0 e0 rfl rfl (one_of rfl) rfl) fun w a=>Dz [] [] (Rn QSn (jr (_,_,_,_) (a.k3j)))
    ·refine LB wn (rAl a ZT_40) fun r w a=>dU (D1 [] [] 4 rfl (Rn QSn (LB wn (rAl a ZT_40) fun p w a=>dU (D0 [] [] 6 rfl (Rn QSn (LT wn (r_stbn (vals':=[.bool d.1,c.v]) (us:=[.bool d.1,c.v]) a ST_40 e0 e0 rfl rfl (one_of rfl) rfl) fun w a=>D0 [] [] 7 rfl (Rn QSn ?_)))))))
     replace a:=a.k10
     exact LT wn (r_stbn (vals':=[.bool f.1,b.v]) (us:=[.bool f.1,b.v]) a ST_40 e0 e0 rfl rfl (one_of rfl) rfl) fun w a=>Dz [] [] (Rn QSn (jr (_,_,_,_) (a.k3j)))
   ·refine LB wn (rAl a ZT_40) fun p w a=>dU (Dn [] [2] [3,5] (Rn (sY rfl (lbs_ [.bool h,i.v] ST_40 e0 a R3) QSn) ?_))
    refine La1 rfl ?_ (La1 rfl ?_ LAn)
    ·refine kO (sparseref01_Abs_ok k j a) fun b w a=>dU (D1 [] [] 5 rfl (Rn QSn (LB wn (rAl a ZT_40) fun r w a=>dU (D0 [] [] 6 rfl (Rn QSn ?_)))))
     replace a:=a.k16
     refine LT wn (r_stbn (vals':=[.bool d.1,c.v]) (us:=[.bool d.1,c.v]) a ST_40 e0 e0 rfl rfl (one_of rfl) rfl) fun w a=>D0 [] [] 7 rfl (Rn QSn ?_)
     replace a:=a.k10
     exact LT wn (r_stbn (vals':=[.bool f.1,b.v]) (us:=[.bool f.1,b.v]) a ST_40 e0 e0 rfl rfl (one_of rfl) rfl) fun w a=>Dz [] [] (Rn QSn (jr (_,_,_,_) (a.k3j)))
    ·refine LB wn (rAl a ZT_40) fun r w a=>dU (D1 [] [2] 3 rfl (Rn (sY rfl (lbs_ [.bool h,i.v] ST_40 e0 a R4) QSn) (kO (sparseref01_Abs_ok k j a) fun b w a=>dU (D0 [] [] 6 rfl (Rn QSn ?_)))))
     replace a:=a.k16
     refine LT wn (r_stbn (vals':=[.bool d.1,c.v]) (us:=[.bool d.1,c.v]) a ST_40 e0 e0 rfl rfl (one_of rfl) rfl) fun w a=>D0 [] [] 7 rfl (Rn QSn ?_)
     replace a:=a.k16
     exact LT wn (r_stbn (vals':=[.bool f.1,b.v]) (us:=[.bool f.1,b.v]) a ST_40 e0 e0 rfl rfl (one_of rfl) rfl) fun w a=>Dz [] [] (Rn QSn (jr (_,_,_,_) (a.k3j)))
   ·refine LB wn (rAl a ZT_40) fun r w a=>dU (Dn [] [2] [3,4] (Rn (sY rfl (lbs_ [.bool h,i.v] ST_40 e0 a R3) QSn) ?_))
    refine La1 rfl ?_ (La1 rfl ?_ LAn)
    ·refine kO (sparseref01_Abs_ok k j a) fun b w a=>dU (D1 [] [] 4 rfl (Rn QSn (LB wn (rAl a ZT_40) fun p w a=>dU (D0 [] [] 6 rfl (Rn QSn (LT wn (r_stbn (vals':=[.bool d.1,c.v]) (us:=[.bool d.1,c.v]) a ST_40 e0 e0 rfl rfl (one_of rfl) rfl) fun w a=>D0 [] [] 7 rfl (Rn QSn ?_)))))))
     replace a:=a.k16
     exact LT wn (r_stbn (vals':=[.bool f.1,b.v]) (us:=[.bool f.1,b.v]) a ST_40 e0 e0 rfl rfl (one_of rfl) rfl) fun w a=>Dz [] [] (Rn QSn (jr (_,_,_,_) (a.k3j)))
    ·refine LB wn (rAl a ZT_40) fun p w a=>dU (D1 [] [2] 3 rfl (Rn (sY rfl (lbs_ [.bool h,i.v] ST_40 e0 a R4) QSn) (kO (sparseref01_Abs_ok k j a) fun b w a=>dU (D0 [] [] 6 rfl (Rn QSn ?_)))))
     replace a:=a.k10
     refine LT wn (r_stbn (vals':=[.bool d.1,c.v]) (us:=[.bool d.1,c.v]) a ST_40 e0 e0 rfl rfl (one_of rfl) rfl) fun w a=>D0 [] [] 7 rfl (Rn QSn ?_)
     replace a:=a.k16
     exact LT wn (r_stbn (vals':=[.bool f.1,b.v]) (us:=[.bool f.1,b.v]) a ST_40 e0 e0 rfl rfl (one_of rfl) rfl) fun w a=>Dz [] [] (Rn QSn (jr (_,_,_,_) (a.k3j)))
  ·refine LB wn (rAl a ZT_40) fun p w a=>dU (Dn [] [0,2] [1,5] (Rn (sY rfl (lbs_ [.bool n,o.v] ST_40 e0 a R3) (sY rfl (lbs_ [.bool h,i.v] ST_40 e0 a R2) QSn)) ?_))
   refine La1 rfl ?_ (La1 rfl ?_ LAn)
   ·refine kO (sparseref01_Abs_ok z x a) fun c w a=>dU (Dn [] [2] [3,5] (Rn (sY rfl (lbs_ [.bool h,i.v] ST_40 e0 a R3) QSn) ?_))
    refine La1 rfl ?_ (La1 rfl ?_ LAn)
    ·refine kO (sparseref01_Abs_ok k j a) fun b w a=>dU (D1 [] [] 5 rfl (Rn QSn (LB wn (rAl a ZT_40) fun r w a=>dU (D0 [] [] 6 rfl (Rn QSn ?_)))))
     replace a:=a.k1d
     refine LT wn (r_stbn (vals':=[.bool d.1,c.v]) (us:=[.bool d.1,c.v]) a ST_40 e0 e0 rfl rfl (one_of rfl) rfl) fun w a=>D0 [] [] 7 rfl (Rn QSn ?_)
     replace a:=a.k10
     exact LT wn (r_stbn (vals':=[.bool f.1,b.v]) (us:=[.bool f.1,b.v]) a ST_40 e0 e0 rfl rfl (one_of rfl) rfl) fun w a=>Dz [] [] (Rn QSn (jr (_,_,_,_) (a.k3j)))
    ·refine LB wn (rAl a ZT_40) fun r w a=>dU (D1 [] [2] 3 rfl (Rn (sY rfl (lbs_ [.bool h,i.v] ST_40 e0 a R4) QSn) (kO (sparseref01_Abs_ok k j a) fun b w a=>dU (D0 [] [] 6 rfl (Rn QSn ?_)))))
     replace a:=a.k1d
     refine LT wn (r_stbn (vals':=[.bool d.1,c.v]) (us:=[.bool d.1,c.v]) a ST_40 e0 e0 rfl rfl (one_of rfl) rfl) fun w a=>D0 [] [] 7 rfl (Rn QSn ?_)
     replace a:=a.k16
     exact LT wn (r_stbn (vals':=[.bool f.1,b.v]) (us:=[.bool f.1,b.v]) a ST_40 e0 e0 rfl rfl (one_of rfl) rfl) fun w a=>Dz [] [] (Rn QSn (jr (_,_,_,_) (a.k3j)))
   ·refine LB wn (rAl a ZT_40) fun r w a=>dU (D1 [] [0,2] 1 rfl (Rn (sY rfl (lbs_ [.bool n,o.v] ST_40 e0 a R4) (sY rfl (lbs_ [.bool h,i.v] ST_40 e0 a R3) QSn)) (kO (sparseref01_Abs_ok z x a) fun c w a=>dU (D1 [] [2] 3 rfl (Rn (sY rfl (lbs_ [.bool h,i.v] ST_40 e0 a R4) QSn) (kO (sparseref01_Abs_ok k j a) fun b w a=>dU (D0 [] [] 6 rfl (Rn QSn ?_))))))))
    replace a:=a.k1d
    refine LT wn (r_stbn (vals':=[.bool d.1,c.v]) (us:=[.bool d.1,c.v]) a ST_40 e0 e0 rfl rfl (one_of rfl) rfl) fun w a=>D0 [] [] 7 rfl (Rn QSn ?_)
    replace a:=a.k1d
    exact LT wn (r_stbn (vals':=[.bool f.1,b.v]) (us:=[.bool f.1,b.v]) a ST_40 e0 e0 rfl rfl (one_of rfl) rfl) fun w a=>Dz [] [] (Rn QSn (jr (_,_,_,_) (a.k3j)))
  ·refine LB wn (rAl a ZT_40) fun r w a=>dU (Dn [] [0,2] [1,4] (Rn (sY rfl (lbs_ [.bool n,o.v] ST_40 e0 a R3) (sY rfl (lbs_ [.bool h,i.v] ST_40 e0 a R2) QSn)) ?_))
   refine La1 rfl ?_ (La1 rfl ?_ LAn)
   ·refine kO (sparseref01_Abs_ok z x a) fun c w a=>dU (Dn [] [2] [3,4] (Rn (sY rfl (lbs_ [.bool h,i.v] ST_40 e0 a R3) QSn) ?_))
    refine La1 rfl ?_ (La1 rfl ?_ LAn)
    ·refine kO (sparseref01_Abs_ok k j a) fun b w a=>dU (D1 [] [] 4 rfl (Rn QSn (LB wn (rAl a ZT_40) fun p w a=>dU (D0 [] [] 6 rfl (Rn QSn (LT wn (r_stbn (vals':=[.bool d.1,c.v]) (us:=[.bool d.1,c.v]) a ST_40 e0 e0 rfl rfl (one_of rfl) rfl) fun w a=>D0 [] [] 7 rfl (Rn QSn ?_)))))))
     replace a:=a.k1d
     exact LT wn (r_stbn (vals':=[.bool f.1,b.v]) (us:=[.bool f.1,b.v]) a ST_40 e0 e0 rfl rfl (one_of rfl) rfl) fun w a=>Dz [] [] (Rn QSn (jr (_,_,_,_) (a.k3j)))
    ·refine LB wn (rAl a ZT_40) fun p w a=>dU (D1 [] [2] 3 rfl (Rn (sY rfl (lbs_ [.bool h,i.v] ST_40 e0 a R4) QSn) (kO (sparseref01_Abs_ok k j a) fun b w a=>dU (D0 [] [] 6 rfl (Rn QSn ?_)))))
     replace a:=a.k10
     refine LT wn (r_stbn (vals':=[.bool d.1,c.v]) (us:=[.bool d.1,c.v]) a ST_40 e0 e0 rfl rfl (one_of rfl) rfl) fun w a=>D0 [] [] 7 rfl (Rn QSn ?_)
     replace a:=a.k1d
     exact LT wn (r_stbn (vals':=[.bool f.1,b.v]) (us:=[.bool f.1,b.v]) a ST_40 e0 e0 rfl rfl (one_of rfl) rfl) fun w a=>Dz [] [] (Rn QSn (jr (_,_,_,_) (a.k3j)))
   ·refine LB wn (rAl a ZT_40) fun p w a=>dU (D1 [] [0,2] 1 rfl (Rn (sY rfl (lbs_ [.bool n,o.v] ST_40 e0 a R4) (sY rfl (lbs_ [.bool h,i.v] ST_40 e0 a R3) QSn)) (kO (sparseref01_Abs_ok z x a) fun c w a=>dU (D1 [] [2] 3 rfl (Rn (sY rfl (lbs_ [.bool h,i.v] ST_40 e0 a R4) QSn) (kO (sparseref01_Abs_ok k j a) fun b w a=>dU (D0 [] [] 6 rfl (Rn QSn ?_))))))))
    replace a:=a.k16
    refine LT wn (r_stbn (vals':=[.bool d.1,c.v]) (us:=[.bool d.1,c.v]) a ST_40 e0 e0 rfl rfl (one_of rfl) rfl) fun w a=>D0 [] [] 7 rfl (Rn QSn ?_)
    replace a:=a.k1d
    exact LT wn (r_stbn (vals':=[.bool f.1,b.v]) (us:=[.bool f.1,b.v]) a ST_40 e0 e0 rfl rfl (one_of rfl) rfl) fun w a=>Dz [] [] (Rn QSn (jr (_,_,_,_) (a.k3j)))
 rintro ⟨u,C,A,D⟩ g w a
 refine q 3 rfl ?_
 obtain ⟨⟨J,S⟩,U,t⟩:=bs t
 replace a:=(((a.k10).fz).k16).fz
 refine lpN (Hdr×Hdr) Hdr U [4,5,6] (fun (E,K,s,L) (B,l)=>[]) (fun (E,K,s,L) (B,l)=>St w0 (imm (rI .u32) B.v K::imm (rI .u32) l.v L::ros) (box I 40 [.bool false,hnil.v]::box u 40 [.bool E,B.v]::box A 40 [.bool s,l.v]::rs)) (fun | (J,S),F=>(.exit 0,[],St w0 (imm (rI .u32) F.v S::ros) (box I 40 [.bool false,hnil.v]::box u 40 [.bool J,F.v]::rs))) rfl (_,_) (a.facts (allC F1 (allC F0 (allT (allT allI))))) rfl ?_ ?_
 ·clear a
  rintro F g w a
  refine q 4 rfl (y (lbs_ [.bool J,F.v] ST_40 e0 a R1) (sB rfl a ST_40 fun w a=>q 3 rfl ?_))
  cases t
  exact T _ _ _ (fin1r results107 (rcs2 rfl rfl a R0 ST_40 rfl) ⟨_,rfl,(a.k19)⟩)
 rintro ⟨E,K,s,L⟩ ⟨B,l⟩ g w a1 a m
 refine q 3 rfl (y (lbs_ [.bool s,l.v] ST_40 e0 a R2) (bE m fun a2 V m=>cZ (sparseref01_Sign_ok V F1 a) fun w a=>q 3 rfl ?_))
 refine cIn m (fun W m=>?_) fun W m=>?_
 ·refine q 2 rfl ?_
  cases m
  exact lx _ ((a.k2e).facts (allC F0 (allT (allT allI))))
 ·refine q 5 rfl (y (lbs_ [.bool E,B.v] ST_40 e0 a R1) (y (lbs_ [.bool s,l.v] ST_40 e0 a R2) (bE m fun G X m=>cT_ (sparseref01_DivMod_ok X F0 F1 a) fun a3 H w a=>q 3 rfl (yb (rAl a ZT_40) fun a4 w a=>yb (rAl a ZT_40) fun a5 w a=>?_))))
  replace a:=a.k10
  refine sB rfl a ST_40 fun w a=>?_
  replace a:=a.k10
  refine sB rfl a ST_40 fun w a=>q 2 rfl (dR [0,0,1,7] [2,3] 2 folM ?_)
  replace a:=a.drew
  refine D0 [0,1] [] 2 rfl (rQ rfl (lbs_ [.bool s,l.v] ST_40 e0 a R5) (rQ rfl (lbs_ [.bool G.2.2.1,H.v] ST_40 e0 a R0) (Rn QSn ?_)))
  replace a:=a.k1e
  refine LT wn (r_stbn (vals':=[.bool s,l.v]) (us:=[.bool s,l.v]) a ST_40 e0 e0 rfl rfl (one_of rfl) rfl) fun w a=>D0 [] [1] 3 rfl (Rn (sY rfl (lbs_ [.bool G.2.2.1,H.v] ST_40 e0 a R1) QSn) ?_)
  replace a:=a.k25
  refine LT wn (r_stbn (vals':=[.bool G.2.2.1,H.v]) (us:=[.bool G.2.2.1,H.v]) a ST_40 e0 e0 rfl rfl (one_of rfl) rfl) fun w a=>Dz [] [] (Rn QSn (qx 1 rfl ?_))
  cases m
  exact ln (_,_) ((a.k3k).facts (allC F2 (allC F0 (allT (allT (allT allI))))))
theorem sparseref01_Quo_ok {c:Bool} {h:LI} {d:Bool} {i:LI} {f g:Hdr} {out:Bool×LI×Bool} (b:sparseref01_Quo c h d i=some out) (m:imm (rI .u32) f.v h∈ros) (n:imm (rI .u32) g.v i∈ros) (a:St w0 ros rs w):
  Calls prog 108 #[.agg #[.bool c,f.v],.agg #[.bool d,g.v]] w (fun e w=>∃ (j:Hdr),e=.returned (.tuple #[.agg #[.bool out.1,j.v],.bool out.2.2])∧St w0 ros (row 96 (rI .u32) j.v out.2.1::rs) w):=by
 refine en func108 rfl ntmps108 fun Q k=>q 2 rfl (yb (r_box (vals:=[.bool c,f.v]) a e0 rfl) fun u w a=>yb (r_box (vals:=[.bool d,g.v]) a e0 rfl) fun x w a=>yb (rAl a ZT_40) fun z w a=>q 5 rfl (y (lbs_ [.bool c,f.v] ST_40 e0 a R2) (y (lbs_ [.bool d,g.v] ST_40 e0 a R1) (bE b fun l o b=>cT_ (sparseref01_DivMod_ok o m n a) fun p r w a=>q 3 rfl ?_))))
 refine yb (rAl a ZT_40) fun A w a=>yb (rAl a ZT_40) fun B w a=>?_
 replace a:=a.k10
 refine sB rfl a ST_40 fun w a=>?_
 replace a:=a.k10
 refine sB rfl a ST_40 fun w a=>q 5 rfl (y (lbs_ [.bool l.2.2.1,r.v] ST_40 e0 a R0) (bE b fun C s b=>cZ (sparseref01_Sign_ok s F0 a) fun w a=>q 3 rfl ?_))
 refine cIn b (fun t b=>?_) fun t b=>?_
 ·refine q 4 rfl (y (lbs_ [.bool l.1,p.v] ST_40 e0 a R1) ?_)
  replace a:=a.k1d
  refine sB rfl a ST_40 fun w a=>q 4 rfl ?_
  cases b
  exact k _ _ _ (fin2r results108 (rcs2 rfl rfl a R0 ST_40 rfl) ⟨rfl,rfl⟩ ⟨_,rfl,((a.k3l).fc)⟩)
 ·refine q 2 rfl (y (ybuild (us:=[.bool false,hnil.v]) [] SO_40 bp0 rfl) ?_)
  replace a:=a.k1d
  refine sB rfl a ST_40 fun w a=>q 5 rfl ?_
  cases b
  replace a:=a.rowNh 96 (rI .u32)
  exact k _ _ _ (fin2r results108 (rcs2 rfl rfl a R1 ST_40 rfl) ⟨rfl,rfl⟩ ⟨_,rfl,((a.k3m).fc)⟩)
theorem sparseref08_frac_ok {d:Bool} {l:LI} {c:Bool} {m:LI} {h f:Hdr} {out:Bool×LI×Bool×LI} (b:sparseref08_frac d l c m=some out) (t:imm (rI .u32) h.v l∈ros) (n:imm (rI .u32) f.v m∈ros) (a:St w0 ros rs w):
  Calls prog 60 #[.agg #[.bool d,h.v],.agg #[.bool c,f.v]] w (fun e w=>∃ (u x:Hdr),e=.returned (.agg #[.bool out.1,u.v,.bool out.2.2.1,x.v])∧St w0 ros (row 96 (rI .u32) u.v out.2.1::row 96 (rI .u32) x.v out.2.2.2::rs) w):=by
 refine en func60 rfl ntmps60 fun Q z=>q 2 rfl (yb (r_box (vals:=[.bool d,h.v]) a e0 rfl) fun A w a=>yb (r_box (vals:=[.bool c,f.v]) a e0 rfl) fun B w a=>yb (rAl a ZT_61) fun C w a=>q 4 rfl (y (lbs_ [.bool d,h.v] ST_40 e0 a R2) (y (lbs_ [.bool c,f.v] ST_40 e0 a R1) (bE b fun D E b=>cO (sparseref01_GCD_ok E t n a) fun F w a=>yb (rAl a ZT_40) ?_))))
 refine fun G w a=>sB rfl a ST_40 fun w a=>q 5 rfl (y (lbs_ [.bool c,f.v] ST_40 e0 a R2) (bE b fun N H b=>cZ (sparseref01_Sign_ok H (mtF n) a) fun w a=>q 3 rfl ?_))
 refine jC (Bool×LI×Hdr) [2,3,4,5] (fun (i,k,j)=>[]) (fun (i,k,j) w=>St w0 (imm (rI .u32) j.v k::ros) (box A 40 [.bool d,h.v]::box B 40 [.bool c,f.v]::box C 61 [.bool false,hnil.v,.bool false,hnil.v]::box G 40 [.bool i,j.v]::rs) w∧sparseref08_frac_j1 d l c m i k=some out) rfl ?_ ?_
 ·rintro ⟨i,k,j⟩ g w ⟨a,b⟩
  refine q 3 rfl (y (lbs_ [.bool d,h.v] ST_40 e0 a R0) (y (lbs_ [.bool i,j.v] ST_40 e0 a R3) (bE b fun o I b=>cO (sparseref01_Quo_ok I (mtF t) F0 a) fun p w a=>q 3 rfl (yb (rAl a ZT_40) fun O w a=>sB rfl a ST_40 fun w a=>q 5 rfl (y (lbs_ [.bool c,f.v] ST_40 e0 a R3) (y (lbs_ [.bool i,j.v] ST_40 e0 a R5) (bE b fun r J b=>?_)))))))
  refine cO (sparseref01_Quo_ok J (mtF n) F0 a) fun s w a=>q 3 rfl (yb (rAl a ZT_40) fun R w a=>sB rfl a ST_40 fun w a=>q 5 rfl (y (lbs_ [.bool o.1,p.v] ST_40 e0 a R2) (y (lbs_ [.bool r.1,s.v] ST_40 e0 a R0) (y (ybuild (us:=[.bool o.1,p.v,.bool r.1,s.v]) [(0,.agg #[.bool o.1,p.v]),(1,.agg #[.bool r.1,s.v])] SO_61 (bp2 e0 e0) rfl) ?_))))
  replace a:=a.k1t
  refine sB rfl a ST_61 fun w a=>q 3 rfl ?_
  cases b
  exact z _ _ _ (fin1r results60 (rcs2 rfl rfl a R0 ST_61 rfl) ⟨_,_,rfl,((a.k3n).fc)⟩)
 refine cI b (fun K b=>?_) fun K b=>?_
 ·refine q 1 rfl (y (lbs_ [.bool D.1,F.v] ST_40 e0 a R0) (bE b fun S L b=>cO (sparseref01_Neg_ok L F0 a) fun T w a=>?_))
  replace a:=a.k10
  refine sB rfl a ST_40 fun w a=>q 1 rfl ?_
  replace a:=(a.k10).fz
  exact jx (_,_,_) ⟨((a.k21).facts (allC F0 (allT (allT allI)))),b⟩
 ·exact q 1 rfl (jx (_,_,_) ⟨(a.k21),b⟩)
theorem sparseref08_minus_ok {x:Bool} {S:LI} {n:Bool} {T:LI} {y:Bool} {U:LI} {j:Bool} {V:LI} {z:Bool} {W:LI} {k:Bool} {X:LI} {d:Bool} {Z:LI} {r:Bool} {a0:LI} {A o B l C m f s:Hdr} {out:Bool×LI×Bool×LI} (c:sparseref08_minus x S n T y U j V z W k X d Z r a0=some out) (b0:imm (rI .u32) A.v S∈ros) (a1:imm (rI .u32) o.v T∈ros) (a2:imm (rI .u32) B.v U∈ros) (G:imm (rI .u32) l.v V∈ros) (a3:imm (rI .u32) C.v W∈ros) (H:imm (rI .u32) m.v X∈ros) (D:imm (rI .u32) f.v Z∈ros) (N:imm (rI .u32) s.v a0∈ros) (a:St w0 ros rs w):
  Calls prog 62 #[.agg #[.bool x,A.v,.bool n,o.v],.agg #[.bool y,B.v,.bool j,l.v],.agg #[.bool z,C.v,.bool k,m.v],.agg #[.bool d,f.v,.bool r,s.v]] w (fun e w=>∃ (a4 a5:Hdr),e=.returned (.agg #[.bool out.1,a4.v,.bool out.2.2.1,a5.v])∧St w0 ros (row 96 (rI .u32) a4.v out.2.1::row 96 (rI .u32) a5.v out.2.2.2::rs) w):=by
 refine en func62 rfl ntmps62 fun Q b1=>q 2 rfl (yb (r_box (vals:=[.bool x,A.v,.bool n,o.v]) a e0 rfl) fun b2 w a=>yb (r_box (vals:=[.bool y,B.v,.bool j,l.v]) a e0 rfl) fun c0 w a=>yb (r_box (vals:=[.bool z,C.v,.bool k,m.v]) a e0 rfl) fun c1 w a=>yb (r_box (vals:=[.bool d,f.v,.bool r,s.v]) a e0 rfl) fun c2 w a=>yb (rAl a ZT_61) fun b3 w a=>bE c fun c3 a6 c=>bE c fun c4 O c=>?_)
 refine bE c fun c5 I c=>bE c fun c6 E c=>bE c fun b t c=>q 3 rfl ?_
 refine jN (Nat×Hdr×Hdr) [4,8] (fun (J,u,p)=>[(9,(pB J))]) (fun (J,u,p)=>St w0 ros (box b2 61 [.bool x,A.v,.bool n,o.v]::box b3 61 [.bool false,hnil.v,.bool false,hnil.v]::row 96 (rI .u32) u.v b.2.1::row 96 (rI .u32) p.v b.2.2.2::box J 61 [.bool b.1,u.v,.bool b.2.2.1,p.v]::rs)) rfl ?_ ?_
 ·refine dR [0,1,0,4,15,0,32,127,0,256,0,1024,4095,0,8192,32767,65535,0,262143] [4,7,12,15,16,17,18] 7 folM ?_
  replace a:=a.drew
  refine Dn [0,1,2,3,5,6,8,9,10,11,13,14] [] [4,17] (qR 1 rfl (rQ rfl (lbs_ [.bool y,B.v] ST_40 e0 a R3) (qR 1 rfl (rQ rfl (lbs_ [.bool z,C.v] ST_40 e0 a R2) (qR 1 rfl (rQ rfl (lbs_ [.bool r,s.v] ST_40 e0 a R1) (qR 1 rfl (rQ rfl (lbs_ [.bool j,l.v] ST_40 e0 a R3) (qR 1 rfl (rQ rfl (lbs_ [.bool k,m.v] ST_40 e0 a R2) (qR 1 rfl (rQ rfl (lbs_ [.bool d,f.v] ST_40 e0 a R1) (Rn QSn ?_)))))))))))))
  refine La1 rfl ?_ (La1 rfl ?_ LAn)
  ·refine kO (sparseref01_Mul_ok a6 a2 a3 a) fun b4 w a=>dU (Dn [] [5,6,8,9,10,11,13,14] [7,17] (Rn (qS rfl (sY rfl (lbs_ [.bool r,s.v] ST_40 e0 a R2) (qS rfl (sY rfl (lbs_ [.bool j,l.v] ST_40 e0 a R4) (qS rfl (sY rfl (lbs_ [.bool k,m.v] ST_40 e0 a R3) (qS rfl (sY rfl (lbs_ [.bool d,f.v] ST_40 e0 a R2) QSn)))))))) ?_))
   refine La1 rfl ?_ (La1 rfl ?_ LAn)
   ·replace a:=a.fz
    refine kO (sparseref01_Mul_ok O F0 (mtF N) a) fun a7 w a=>dU (Dn [] [8,9,10,11,13,14] [12,17] (Rn (qS rfl (sY rfl (lbs_ [.bool j,l.v] ST_40 e0 a R4) (qS rfl (sY rfl (lbs_ [.bool k,m.v] ST_40 e0 a R3) (qS rfl (sY rfl (lbs_ [.bool d,f.v] ST_40 e0 a R2) QSn)))))) ?_))
    refine La1 rfl ?_ (La1 rfl ?_ LAn)
    ·refine kO (sparseref01_Mul_ok I (mtF G) (mtF H) a) fun R w a=>dU (Dn [] [13,14] [15,17] (Rn (qS rfl (sY rfl (lbs_ [.bool d,f.v] ST_40 e0 a R3) QSn)) ?_))
     refine La1 rfl ?_ (La1 rfl ?_ LAn)
     ·replace a:=a.fz
      refine kO (sparseref01_Mul_ok E F0 (F_2 D) a) fun K w a=>dU (Dn [] [] [16,17] (Rn QSn ?_))
      refine La1 rfl ?_ (La1 rfl ?_ LAn)
      ·replace a:=a.k10
       replace a:=a.fz.fz
       exact kT_ (sparseref08_frac_ok t F1 F0 a) fun h i w a=>dU (D1 [] [] 17 rfl (Rn QSn (LB wn (rAl a ZT_61) fun F w a=>dU (D0 [] [] 18 rfl (Rn QSn (LT wn (r_stbn (vals':=[.bool b.1,h.v,.bool b.2.2.1,i.v]) (us:=[.bool b.1,h.v,.bool b.2.2.1,i.v]) a ST_61 e0 e0 rfl rfl (one_of rfl) rfl) fun w a=>Dz [] [] (Rn QSn (jr (_,_,_) ((a.k3o).fc)))))))))
      ·refine LB wn (rAl a ZT_61) fun F w a=>dU (D1 [] [] 16 rfl (Rn QSn ?_))
       replace a:=(((a.k16).fz).k10).fz
       refine kT_ (sparseref08_frac_ok t F1 F0 a) fun h i w a=>dU (D0 [] [] 18 rfl (Rn QSn ?_))
       replace a:=a.k16
       exact LT wn (r_stbn (vals':=[.bool b.1,h.v,.bool b.2.2.1,i.v]) (us:=[.bool b.1,h.v,.bool b.2.2.1,i.v]) a ST_61 e0 e0 rfl rfl (one_of rfl) rfl) fun w a=>Dz [] [] (Rn QSn (jr (_,_,_) ((a.k3o).fc)))
     ·refine LB wn (rAl a ZT_61) fun F w a=>dU (D1 [] [13,14] 15 rfl (Rn (qS rfl (sY rfl (lbs_ [.bool d,f.v] ST_40 e0 a R4) QSn)) ?_))
      replace a:=(a.k10).fz
      refine kO (sparseref01_Mul_ok E F0 (F_2 D) a) fun K w a=>dU (D1 [] [] 16 rfl (Rn QSn ?_))
      replace a:=((a.k16).fz).fz
      refine kT_ (sparseref08_frac_ok t F1 F0 a) fun h i w a=>dU (D0 [] [] 18 rfl (Rn QSn ?_))
      replace a:=a.k16
      exact LT wn (r_stbn (vals':=[.bool b.1,h.v,.bool b.2.2.1,i.v]) (us:=[.bool b.1,h.v,.bool b.2.2.1,i.v]) a ST_61 e0 e0 rfl rfl (one_of rfl) rfl) fun w a=>Dz [] [] (Rn QSn (jr (_,_,_) ((a.k3o).fc)))
    ·refine LB wn (rAl a ZT_61) fun F w a=>dU (D1 [] [8,9,10,11,13,14] 12 rfl (Rn (qS rfl (sY rfl (lbs_ [.bool j,l.v] ST_40 e0 a R5) (qS rfl (sY rfl (lbs_ [.bool k,m.v] ST_40 e0 a R4) (qS rfl (sY rfl (lbs_ [.bool d,f.v] ST_40 e0 a R3) QSn)))))) (kO (sparseref01_Mul_ok I (mtF G) (mtF H) a) fun R w a=>dU (D1 [] [13,14] 15 rfl (Rn (qS rfl (sY rfl (lbs_ [.bool d,f.v] ST_40 e0 a R4) QSn)) ?_)))))
     replace a:=a.fz
     refine kO (sparseref01_Mul_ok E F0 (F_2 D) a) fun K w a=>dU (D1 [] [] 16 rfl (Rn QSn ?_))
     replace a:=((a.k16).fz).fz
     refine kT_ (sparseref08_frac_ok t F1 F0 a) fun h i w a=>dU (D0 [] [] 18 rfl (Rn QSn ?_))
     replace a:=a.k16
     exact LT wn (r_stbn (vals':=[.bool b.1,h.v,.bool b.2.2.1,i.v]) (us:=[.bool b.1,h.v,.bool b.2.2.1,i.v]) a ST_61 e0 e0 rfl rfl (one_of rfl) rfl) fun w a=>Dz [] [] (Rn QSn (jr (_,_,_) ((a.k3o).fc)))
   ·refine LB wn (rAl a ZT_61) fun F w a=>dU (D1 [] [5,6,8,9,10,11,13,14] 7 rfl (Rn (qS rfl (sY rfl (lbs_ [.bool r,s.v] ST_40 e0 a R3) (qS rfl (sY rfl (lbs_ [.bool j,l.v] ST_40 e0 a R5) (qS rfl (sY rfl (lbs_ [.bool k,m.v] ST_40 e0 a R4) (qS rfl (sY rfl (lbs_ [.bool d,f.v] ST_40 e0 a R3) QSn)))))))) ?_))
    replace a:=(a.k10).fz
    refine kO (sparseref01_Mul_ok O F0 (mtF N) a) fun a7 w a=>dU (D1 [] [8,9,10,11,13,14] 12 rfl (Rn (qS rfl (sY rfl (lbs_ [.bool j,l.v] ST_40 e0 a R5) (qS rfl (sY rfl (lbs_ [.bool k,m.v] ST_40 e0 a R4) (qS rfl (sY rfl (lbs_ [.bool d,f.v] ST_40 e0 a R3) QSn)))))) (kO (sparseref01_Mul_ok I (mtF G) (mtF H) a) fun R w a=>dU (D1 [] [13,14] 15 rfl (Rn (qS rfl (sY rfl (lbs_ [.bool d,f.v] ST_40 e0 a R4) QSn)) ?_)))))
    replace a:=a.fz
    refine kO (sparseref01_Mul_ok E F0 (F_2 D) a) fun K w a=>dU (D1 [] [] 16 rfl (Rn QSn ?_))
    replace a:=((a.k10).fz).fz
    refine kT_ (sparseref08_frac_ok t F1 F0 a) fun h i w a=>dU (D0 [] [] 18 rfl (Rn QSn ?_))
    replace a:=a.k16
    exact LT wn (r_stbn (vals':=[.bool b.1,h.v,.bool b.2.2.1,i.v]) (us:=[.bool b.1,h.v,.bool b.2.2.1,i.v]) a ST_61 e0 e0 rfl rfl (one_of rfl) rfl) fun w a=>Dz [] [] (Rn QSn (jr (_,_,_) ((a.k3o).fc)))
  ·refine LB wn (rAl a ZT_61) fun F w a=>dU (D1 [] [0,1,2,3,5,6,8,9,10,11,13,14] 4 rfl (Rn (qS rfl (sY rfl (lbs_ [.bool y,B.v] ST_40 e0 a R4) (qS rfl (sY rfl (lbs_ [.bool z,C.v] ST_40 e0 a R3) (qS rfl (sY rfl (lbs_ [.bool r,s.v] ST_40 e0 a R2) (qS rfl (sY rfl (lbs_ [.bool j,l.v] ST_40 e0 a R4) (qS rfl (sY rfl (lbs_ [.bool k,m.v] ST_40 e0 a R3) (qS rfl (sY rfl (lbs_ [.bool d,f.v] ST_40 e0 a R2) QSn)))))))))))) (kO (sparseref01_Mul_ok a6 a2 a3 a) fun b4 w a=>dU (D1 [] [5,6,8,9,10,11,13,14] 7 rfl (Rn (qS rfl (sY rfl (lbs_ [.bool r,s.v] ST_40 e0 a R3) (qS rfl (sY rfl (lbs_ [.bool j,l.v] ST_40 e0 a R5) (qS rfl (sY rfl (lbs_ [.bool k,m.v] ST_40 e0 a R4) (qS rfl (sY rfl (lbs_ [.bool d,f.v] ST_40 e0 a R3) QSn)))))))) ?_)))))
   replace a:=a.fz
   refine kO (sparseref01_Mul_ok O F0 (mtF N) a) fun a7 w a=>dU (D1 [] [8,9,10,11,13,14] 12 rfl (Rn (qS rfl (sY rfl (lbs_ [.bool j,l.v] ST_40 e0 a R5) (qS rfl (sY rfl (lbs_ [.bool k,m.v] ST_40 e0 a R4) (qS rfl (sY rfl (lbs_ [.bool d,f.v] ST_40 e0 a R3) QSn)))))) (kO (sparseref01_Mul_ok I (mtF G) (mtF H) a) fun R w a=>dU (D1 [] [13,14] 15 rfl (Rn (qS rfl (sY rfl (lbs_ [.bool d,f.v] ST_40 e0 a R4) QSn)) ?_)))))
   replace a:=a.fz
   refine kO (sparseref01_Mul_ok E F0 (F_2 D) a) fun K w a=>dU (D1 [] [] 16 rfl (Rn QSn ?_))
   replace a:=((a.k10).fz).fz
   refine kT_ (sparseref08_frac_ok t F1 F0 a) fun h i w a=>dU (D0 [] [] 18 rfl (Rn QSn ?_))
   replace a:=a.k16
   exact LT wn (r_stbn (vals':=[.bool b.1,h.v,.bool b.2.2.1,i.v]) (us:=[.bool b.1,h.v,.bool b.2.2.1,i.v]) a ST_61 e0 e0 rfl rfl (one_of rfl) rfl) fun w a=>Dz [] [] (Rn QSn (jr (_,_,_) ((a.k3o).fc)))
 rintro ⟨J,u,p⟩ g w a
 refine bE c fun c7 b5 c=>bE c fun c8 b6 c=>bE c fun c9 b7 c=>bE c fun d0 b8 c=>bE c fun L b9 c=>q 2 rfl (dR [0,1,0,4,15,0,32,0,128,511,1023,0,2048,0,8192,32767,65535,131071] [4,9,10,15,16,17] 6 folM ?_)
 replace a:=a.drew
 refine D1 [0,1,2,3,5,6,7,8,11,12,13,14] [] 4 rfl (qR 1 rfl (rQ rfl (lbs_ [.bool x,A.v] ST_40 e0 a R0) (qR 1 rfl (rQ rfl (lbs_ [.bool b.2.2.1,p.v] ST_40 e0 a R4) (qR 1 rfl (rQ rfl (lbs_ [.bool b.1,u.v] ST_40 e0 a R4) (qR 1 rfl (rQ rfl (lbs_ [.bool n,o.v] ST_40 e0 a R0) (qR 1 rfl (rQ rfl (lbs_ [.bool n,o.v] ST_40 e0 a R0) (qR 1 rfl (rQ rfl (lbs_ [.bool b.2.2.1,p.v] ST_40 e0 a R4) (Rn QSn ?_)))))))))))))
 replace a:=(a.k1d).fz
 refine kO (sparseref01_Mul_ok b5 (mtF b0) F0 a) fun d1 w a=>dU (D1 [] [5,6,7,8,11,12,13,14] 9 rfl (Rn (qS rfl (sY rfl (lbs_ [.bool b.1,u.v] ST_40 e0 a R4) (qS rfl (sY rfl (lbs_ [.bool n,o.v] ST_40 e0 a R1) (qS rfl (sY rfl (lbs_ [.bool n,o.v] ST_40 e0 a R1) (qS rfl (sY rfl (lbs_ [.bool b.2.2.1,p.v] ST_40 e0 a R4) QSn)))))))) ?_))
 replace a:=(a.k1d).fz
 refine kO (sparseref01_Mul_ok b6 F0 (F_2 a1) a) fun d2 w a=>dU (D1 [] [11,12,13,14] 10 rfl (Rn (qS rfl (sY rfl (lbs_ [.bool n,o.v] ST_40 e0 a R2) (qS rfl (sY rfl (lbs_ [.bool b.2.2.1,p.v] ST_40 e0 a R4) QSn)))) ?_))
 replace a:=((a.k10).fz).fz
 refine kO (sparseref01_Sub_ok b7 F1 F0 a) fun d3 w a=>dU (D1 [] [11,12,13,14] 15 rfl (Rn (qS rfl (sY rfl (lbs_ [.bool n,o.v] ST_40 e0 a R1) (qS rfl (sY rfl (lbs_ [.bool b.2.2.1,p.v] ST_40 e0 a R3) QSn)))) (kO (sparseref01_Mul_ok b8 (F_4 a1) F3 a) fun d4 w a=>dU (D1 [] [] 16 rfl (Rn QSn ?_)))))
 replace a:=((a.k10).fz).fz
 refine kT_ (sparseref08_frac_ok b9 F1 F0 a) fun a8 a9 w a=>dU (D0 [] [] 17 rfl (Rn QSn ?_))
 replace a:=a.k1d
 refine LT wn (r_stbn (vals':=[.bool L.1,a8.v,.bool L.2.2.1,a9.v]) (us:=[.bool L.1,a8.v,.bool L.2.2.1,a9.v]) a ST_61 e0 e0 rfl rfl (one_of rfl) rfl) fun w a=>Dz [] [] (Rn QSn (qx 2 rfl ?_))
 cases c
 exact b1 _ _ _ (fin1r results62 (rcs2 rfl rfl a R0 ST_61 rfl) ⟨_,_,rfl,((a.k3p).fc)⟩)
theorem sparseref08_echelon_ok {e2:List (List (Bool×LI×Bool×LI))} {c1:Int} {i:Hdr} {e3:List Hdr} {out:(List (List (Bool×LI×Bool×LI)))×LI×Bool×LI×Bool×LI} (b:sparseref08_echelon e2 c1=some out) (a:St w0 ros (row 104 rH i.v e3::fam 61 (rP rB (rP (rS (rI .u32)) (rP rB (rS (rI .u32))))) e3 e2::rs) w):
  Calls prog 23 #[i.v,iV c1] w (fun e w=>∃ (e4:List Hdr) (e5 e6 e7:Hdr),e=.returned (.tuple #[e5.v,.agg #[.bool out.2.2.1,e6.v,.bool out.2.2.2.2.1,e7.v]])∧St w0 ros (row 104 rH i.v e4::fam 61 (rP rB (rP (rS (rI .u32)) (rP rB (rS (rI .u32))))) e4 out.1::row 3 I1 e5.v out.2.1::row 96 (rI .u32) e6.v out.2.2.2.1::row 96 (rI .u32) e7.v out.2.2.2.2.2::rs) w):=by
 refine en func23 rfl ntmps23 fun Q i5=>q 3 rfl (yb (rAl a ZT_61) fun o w a=>bE b fun e8 i6 b=>q 4 rfl (cO (sparseref01_FromInt_ok i6 a) fun e9 w a=>bE b fun f0 i7 b=>cO (sparseref01_FromInt_ok i7 a) fun f1 w a=>y (ybuild (us:=[.bool e8.1,e9.v,.bool f0.1,f1.v]) [(0,.agg #[.bool e8.1,e9.v]),(1,.agg #[.bool f0.1,f1.v])] SO_61 (bp2 e0 e0) rfl) (yb (rAl a ZT_61) fun p w a=>sB rfl a ST_61 fun w a=>?_)))
 refine q 14 rfl ?_
 obtain ⟨⟨f2,L,f3,N,f4,f5⟩,i8,b⟩:=bs b
 replace a:=a.rowNh 3 I1
 refine lpN ((List Hdr)×Hdr×Hdr×Hdr) ((List Hdr)×Hdr×Hdr×Hdr) i8 [0,1,5,6] (fun (O,F,R,r,C,j,D) (z,s,h,k)=>[(7,k.v),(8,iV D)]) (fun (O,F,R,r,C,j,D) (z,s,h,k)=>St w0 ros (row 104 rH i.v z::fam 61 (rP rB (rP (rS (rI .u32)) (rP rB (rS (rI .u32))))) z O::box o 61 [.bool false,hnil.v,.bool false,hnil.v]::row 96 (rI .u32) s.v R::row 96 (rI .u32) h.v C::box p 61 [.bool F,s.v,.bool r,h.v]::row 3 I1 k.v j::rs)) (fun | (f2,L,f3,N,f4,f5),(c2,G,H,V)=>(.exit 0,[(7,V.v)],St w0 ros (row 104 rH i.v c2::fam 61 (rP rB (rP (rS (rI .u32)) (rP rB (rS (rI .u32))))) c2 f2::box o 61 [.bool false,hnil.v,.bool false,hnil.v]::row 96 (rI .u32) G.v f3::row 96 (rI .u32) H.v f4::box p 61 [.bool L,G.v,.bool N,H.v]::row 3 I1 V.v f5::rs))) rfl (_,_,_,_) (a.k3q) rfl ?_ ?_
 ·clear a
  rintro ⟨c2,G,H,V⟩ g w a
  refine q 3 rfl (dR [0,0,1,7] [2,3] 2 folM ?_)
  replace a:=a.drew
  refine D1 [0,1] [] 2 rfl (qR 1 rfl (rQ rfl (lbs_ [.bool L,G.v,.bool N,H.v] ST_61 e0 a R5) (Rn QSn (Ly wn (a_ V.v e0) (dU (D0 [] [1] 3 rfl (Rn (sY rfl (lbs_ [.bool L,G.v,.bool N,H.v] ST_61 e0 a R5) QSn) ?_)))))))
  replace a:=a.k16
  refine LT wn (r_stbn (vals':=[.bool L,G.v,.bool N,H.v]) (us:=[.bool L,G.v,.bool N,H.v]) a ST_61 e0 e0 rfl rfl (one_of rfl) rfl) fun w a=>Dz [] [] (Rn QSn (qx 2 rfl ?_))
  cases b
  exact i5 _ _ _ (fin2r results23 ⟨rfl,rfl⟩ (rcs2 rfl rfl a R0 ST_61 rfl) ⟨_,_,_,_,rfl,(a.k3r)⟩)
 rintro ⟨O,F,R,r,C,j,D⟩ ⟨z,s,h,k⟩ g w f6 a c
 refine q 8 rfl (cI c (fun i9 c=>?_) fun i9 c=>?_)
 ·refine q 3 rfl ?_
  refine jC ((List (List (Bool×LI×Bool×LI)))×Bool×LI×Bool×LI×LI×(List Hdr)×Hdr×Hdr×Hdr) [0,1,5,6,8] (fun (W,X,Z,a0,a1,a2,a3,a4,a5,a6)=>[(7,a6.v)]) (fun (W,X,Z,a0,a1,a2,a3,a4,a5,a6) w=>St w0 ros (row 104 rH i.v a3::fam 61 (rP rB (rP (rS (rI .u32)) (rP rB (rS (rI .u32))))) a3 W::box o 61 [.bool false,hnil.v,.bool false,hnil.v]::row 96 (rI .u32) a4.v Z::row 96 (rI .u32) a5.v a1::box p 61 [.bool X,a4.v,.bool a0,a5.v]::row 3 I1 a6.v a2::rs) w∧sparseref08_echelon_j76 D W X Z a0 a1 a2=some f6) rfl ?_ ?_
  ·rintro ⟨W,X,Z,a0,a1,a2,a3,a4,a5,a6⟩ g w ⟨a,b⟩
   refine q 6 rfl ?_
   cases b
   exact ln (_,_,_,_) a
  refine q 4 rfl (y (yLen SL_23 e0 a rO6) (bE c fun f7 j0 c=>q 11 rfl ?_))
  refine lp j0 [0,1,5,6,7,8,9] (fun c3=>[(10,iV c3)]) (fun c3=>St w0 ros (row 104 rH i.v z::fam 61 (rP rB (rP (rS (rI .u32)) (rP rB (rS (rI .u32))))) z O::box o 61 [.bool false,hnil.v,.bool false,hnil.v]::row 96 (rI .u32) s.v R::row 96 (rI .u32) h.v C::box p 61 [.bool F,s.v,.bool r,h.v]::row 3 I1 k.v j::rs)) (fun | f7=>(.exit 2,[(10,iV f7)],St w0 ros (row 104 rH i.v z::fam 61 (rP rB (rP (rS (rI .u32)) (rP rB (rS (rI .u32))))) z O::box o 61 [.bool false,hnil.v,.bool false,hnil.v]::row 96 (rI .u32) s.v R::row 96 (rI .u32) h.v C::box p 61 [.bool F,s.v,.bool r,h.v]::row 3 I1 k.v j::rs))) rfl a rfl ?_ ?_
  ·clear a
   intro g w a
   refine q 7 rfl (y (yLenF SLH_64 e0 a rO0 R1) (q 3 rfl (cI c (fun j1 c=>?_) fun j1 c=>?_)))
   ·exact q 3 rfl (jx (_,_,_,_,_,_,_,_,_,_) ⟨a,c⟩)
   ·refine q 10 rfl ?_
    refine jC ((List (List (Bool×LI×Bool×LI)))×Bool×LI×(List Hdr)×Hdr) [0,1,5,6,7,8,9] (fun (a7,T,a8,m,U)=>[]) (fun (a7,T,a8,m,U) w=>St w0 ros (row 104 rH i.v m::fam 61 (rP rB (rP (rS (rI .u32)) (rP rB (rS (rI .u32))))) m a7::box o 61 [.bool false,hnil.v,.bool false,hnil.v]::row 96 (rI .u32) U.v a8::row 96 (rI .u32) h.v C::box p 61 [.bool T,U.v,.bool r,h.v]::row 3 I1 k.v j::rs) w∧sparseref08_echelon_j80 j D r C c1 a7 T a8=some f6) rfl ?_ ?_
    ·rintro ⟨a7,T,a8,m,U⟩ g w ⟨a,b⟩
     refine bE b fun m0 c4 b=>bE b fun c5 f8 b=>bE b fun m1 j2 b=>bE b fun m2 a9 b=>bE b fun S c6 b=>bE b fun m3 j3 b=>bE b fun f j4 b=>q 2 rfl (dR [0,1,0,0,12,28,0,124,252,508,1023,0,2048,0,0,24576,57344,0,253952,516096,1040384,2097151,4194303,8388607] [10,21,22,23] 4 folM ?_)
     replace a:=a.drew
     refine D1 [0,1,2,3,4,5,6,7,8,9,11,12,13,14,15,16,17,18,19,20] [] 10 rfl (qR 1 rfl (rQ rfl (lbs_ [.bool T,U.v] ST_40 e0 a R5) (qR 2 rfl ?_)))
     obtain ⟨m4,b0⟩:=a.famI R1 c4
     refine rQ rfl (yIa SLH_64 e0 e0 a rO0 b0) (rQ rfl (yF1 O_104 e0 a rO0 b0 rfl) (qR 1 rfl (rQ rfl (yIa SL_104 e0 e0 a (rdF R1 b0 c4) f8) (rQ rfl (yFe FL_61_0 e0) ?_))))
     obtain ⟨m5,m6,cc5068,a⟩:=a.ld (rdF R1 b0 c4) f8
     replace a:=a.eltP
     obtain ⟨m7,m8,rfl,a⟩:=a
     replace a:=a.eltB
     obtain ⟨rfl,a⟩:=a
     replace a:=a.eltP
     obtain ⟨m9,n0,rfl,a⟩:=a
     replace a:=a.eltS
     obtain ⟨f9,rfl,a⟩:=a
     replace a:=a.swf.eltP
     obtain ⟨n1,n2,rfl,a⟩:=a
     replace a:=a.eltB
     obtain ⟨rfl,a⟩:=a
     replace a:=a.eltS
     obtain ⟨j5,rfl,a⟩:=a
     refine rQ rfl (yCfn (cs:=[.bool c5.1,f9.v,.bool c5.2.2.1,j5.v]) (us:=[.bool c5.1,f9.v]) ST_40 e0 cc5068 rfl rfl) (qR 1 rfl (rQ rfl (lbs_ [.bool r,h.v] ST_40 e0 a R5) (qR 2 rfl ?_)))
     obtain ⟨n3,I⟩:=a.famI R1 a9
     refine rQ rfl (yIa SLH_64 e0 e0 a rO0 I) (rQ rfl (yF1 O_104 e0 a rO0 I rfl) (qR 1 rfl (rQ rfl (yIa SL_104 e0 e0 a (rdF R1 I a9) c6) (rQ rfl (yFe FL_61_1 e0) ?_))))
     replace a:=(a.k10).pin0
     obtain ⟨n4,a⟩:=St.pinF I a9 a c6
     obtain ⟨n5,n6,rfl,a⟩:=a.eltP
     obtain ⟨rfl,a⟩:=a.eltB
     obtain ⟨n7,n8,rfl,a⟩:=a.eltP
     obtain ⟨g0,rfl,a⟩:=a.eltS
     replace a:=a.swf
     obtain ⟨n9,o0,rfl,a⟩:=a.eltP
     obtain ⟨rfl,a⟩:=a.eltB
     obtain ⟨b1,rfl,a⟩:=a.eltS
     refine rQ rfl (yCfn (cs:=[.bool S.1,g0.v,.bool S.2.2.1,b1.v]) (us:=[.bool S.2.2.1,b1.v]) ST_40 e0 (a.cAtP R0 mhP) rfl rfl) (Rn QSn ?_)
     replace a:=(a.k1d).fz
     refine kO (sparseref01_Mul_ok j2 F0 F4 a) fun o1 w a=>dU (D1 [] [11,12,13,14,15,16,17,18,19,20] 21 rfl (Rn (qS rfl (sY rfl (lbs_ [.bool r,h.v] ST_40 e0 a R5) (qS rfl (qS rfl (sY rfl (yIa SLH_64 e0 e0 a rO2 I) (sY rfl (yF1 O_104 e0 a rO2 I rfl) (qS rfl (sY rfl (yIa SL_104 e0 e0 a (rdFP R1 I a9) c6) (sY rfl (yFe FL_61_1 e0) (sY rfl (yCfn (cs:=[.bool S.1,g0.v,.bool S.2.2.1,b1.v]) (us:=[.bool S.2.2.1,b1.v]) ST_40 e0 (a.cAtP R1 mhP) rfl rfl) QSn)))))))))) ?_))
     replace a:=(a.k1e).fz
     refine kO (sparseref01_Mul_ok j3 F0 F2 a) fun o2 w a=>dU (D1 [] [] 22 rfl (Rn QSn ?_))
     replace a:=((a.k10).fz).fz
     refine kT_ (sparseref08_frac_ok j4 F1 F0 a) fun A B w a=>dU (D0 [] [] 23 rfl (Rn QSn ?_))
     replace a:=a.k25
     refine LT wn (r_stbn (vals':=[.bool f.1,A.v,.bool f.2.2.1,B.v]) (us:=[.bool f.1,A.v,.bool f.2.2.1,B.v]) a ST_61 e0 e0 rfl rfl (one_of rfl) rfl) fun w a=>Dz [] [] (Rn QSn ?_)
     replace a:=(a.k1d).unpin
     refine bE b fun g1 j6 b=>qx 10 rfl ?_
     refine lp j6 [0,1,5,6,7,8,9] (fun (c7,c8)=>[(11,iV c8)]) (fun (c7,c8)=>St w0 ros (row 104 rH i.v m::fam 61 (rP rB (rP (rS (rI .u32)) (rP rB (rS (rI .u32))))) m c7::box o 61 [.bool false,hnil.v,.bool false,hnil.v]::row 96 (rI .u32) A.v f.2.1::row 96 (rI .u32) B.v f.2.2.2::box p 61 [.bool f.1,A.v,.bool f.2.2.1,B.v]::row 3 I1 k.v j::rs)) (fun | g1=>(.exit 4,[],St w0 ros (row 104 rH i.v m::fam 61 (rP rB (rP (rS (rI .u32)) (rP rB (rS (rI .u32))))) m g1::box o 61 [.bool false,hnil.v,.bool false,hnil.v]::row 96 (rI .u32) A.v f.2.1::row 96 (rI .u32) B.v f.2.2.2::box p 61 [.bool f.1,A.v,.bool f.2.2.1,B.v]::row 3 I1 k.v j::rs))) rfl ((a.k3s).fc) rfl ?_ ?_
     ·clear a
      intro g w a
      refine q 5 rfl (yh (rLt (n:=1) (l:=[D]) a SL_23 [iV D] (bp1 e0) rfl rfl (mks1 (cs:=[iV D]) rfl mkI mks0)) fun o3 w a=>bE b fun o4 j7 b=>?_)
      replace a:=a.k2a
      exact yh (rAp a SL_23 e0 e0 rO1 j7) fun o5 w a=>q 3 rfl (jx (_,_,_,_,_,_,_,_,_,_) ⟨(a.k3t),b⟩)
     rintro ⟨c7,c8⟩ g w o6 a t
     refine q 5 rfl (y (yLenF SLH_64 e0 a rO0 R1) (q 3 rfl (cI t (fun j8 t=>?_) fun j8 t=>?_)))
     ·refine q 8 rfl (bE t fun o7 c9 t=>?_)
      obtain ⟨o8,b2⟩:=a.famI R1 c9
      refine y (yIa SLH_64 e0 e0 a rO0 b2) (y (yF1 O_104 e0 a rO0 b2 rfl) (bE t fun E g2 t=>q 1 rfl (y (yIa SL_104 e0 e0 a (rdF R1 b2 c9) g2) ?_)))
      obtain ⟨o9,p0,cc5398,a⟩:=a.ld (rdF R1 b2 c9) g2
      replace a:=a.eltP
      obtain ⟨p1,p2,rfl,a⟩:=a
      replace a:=a.eltB
      obtain ⟨rfl,a⟩:=a
      replace a:=a.eltP
      obtain ⟨p3,p4,rfl,a⟩:=a
      replace a:=a.eltS
      obtain ⟨b3,rfl,a⟩:=a
      replace a:=a.swf.eltP
      obtain ⟨p5,p6,rfl,a⟩:=a
      replace a:=a.eltB
      obtain ⟨rfl,a⟩:=a
      replace a:=a.eltS
      obtain ⟨b4,rfl,a⟩:=a
      refine y (yCn (cs:=[.bool E.1,b3.v,.bool E.2.2.1,b4.v]) ST_61 rfl e0 cc5398) (yb (rAl a ZT_61) fun j9 w a=>sB rfl a ST_61 fun w a=>bE t fun g3 k0 t=>q 9 rfl ?_)
      refine lp k0 [0,1,5,6,7,8,9,11,12] (fun (d0,d1)=>[(13,iV d1)]) (fun (d0,d1)=>St w0 (imm (rI .u32) b3.v E.2.1::imm (rI .u32) b4.v E.2.2.2::ros) (row 104 rH i.v m::fam 61 (rP rB (rP (rS (rI .u32)) (rP rB (rS (rI .u32))))) m d0::box o 61 [.bool false,hnil.v,.bool false,hnil.v]::row 96 (rI .u32) A.v f.2.1::row 96 (rI .u32) B.v f.2.2.2::box p 61 [.bool f.1,A.v,.bool f.2.2.1,B.v]::row 3 I1 k.v j::box j9 61 [.bool E.1,b3.v,.bool E.2.2.1,b4.v]::rs)) (fun | g3=>(.exit 6,[],St w0 ros (row 104 rH i.v m::fam 61 (rP rB (rP (rS (rI .u32)) (rP rB (rS (rI .u32))))) m g3::box o 61 [.bool false,hnil.v,.bool false,hnil.v]::row 96 (rI .u32) A.v f.2.1::row 96 (rI .u32) B.v f.2.2.2::box p 61 [.bool f.1,A.v,.bool f.2.2.1,B.v]::row 3 I1 k.v j::rs))) rfl ((a.k32).facts (allC F1 (allC F0 (allT (allT allI))))) rfl ?_ ?_
      ·clear a
       intro g w a
       refine q 8 rfl ?_
       cases t
       exact lo a
      rintro ⟨d0,d1⟩ g w p7 a d
      refine q 8 rfl (cI d (fun k1 d=>?_) fun k1 d=>?_)
      ·refine q 4 rfl (bE d fun p8 d2 d=>bE d fun p9 d3 d=>bE d fun g4 g5 d=>bE d fun q0 d4 d=>bE d fun g6 g7 d=>bE d fun q1 d5 d=>bE d fun g8 g9 d=>bE d fun h0 k2 d=>bE d fun q2 h1 d=>bE d fun q3 k3 d=>dR [0,0,3,7,0,0,0,96,224,0,992,2016,0,0,0,24576,57344,0,253952,516096,0,0,3145728,7340032,0,32505856,66060288,134217696,268435455,536870911] [27,29] 2 folM ?_)
       replace a:=a.drew
       refine D1 [0,1,2,3,4,5,6,7,8,9,10,11,12,13,14,15,16,17,18,19,20,21,22,23,24,25,26] [] 27 rfl (qR 2 rfl ?_)
       obtain ⟨q4,J⟩:=a.famI R1 d2
       refine rQ rfl (yIa SLH_64 e0 e0 a rO0 J) (rQ rfl (yF1 O_104 e0 a rO0 J rfl) (qR 3 rfl ?_))
       obtain ⟨q5,b6⟩:=a.famI R1 d3
       refine rQ rfl (yIa SLH_64 e0 e0 a rO0 b6) (rQ rfl (yF1 O_104 e0 a rO0 b6 rfl) (qR 1 rfl (rQ rfl (yIa SL_104 e0 e0 a (rdF R1 b6 d3) g5) ?_)))
       obtain ⟨q6,q7,cc5522,a⟩:=a.ld (rdF R1 b6 d3) g5
       replace a:=a.eltP
       obtain ⟨q8,q9,rfl,a⟩:=a
       replace a:=a.eltB
       obtain ⟨rfl,a⟩:=a
       replace a:=a.eltP
       obtain ⟨r0,r1,rfl,a⟩:=a
       replace a:=a.eltS
       obtain ⟨k4,rfl,a⟩:=a
       replace a:=a.swf.eltP
       obtain ⟨r2,r3,rfl,a⟩:=a
       replace a:=a.eltB
       obtain ⟨rfl,a⟩:=a
       replace a:=a.eltS
       obtain ⟨k5,rfl,a⟩:=a
       refine rQ rfl (yCn (cs:=[.bool g4.1,k4.v,.bool g4.2.2.1,k5.v]) ST_61 rfl e0 cc5522) (rQ rfl (lbs_ [.bool E.1,b3.v,.bool E.2.2.1,b4.v] ST_61 e0 a R7) (qR 2 rfl ?_))
       obtain ⟨r4,b7⟩:=a.famI R1 d4
       refine rQ rfl (yIa SLH_64 e0 e0 a rO0 b7) (rQ rfl (yF1 O_104 e0 a rO0 b7 rfl) (qR 1 rfl (rQ rfl (yIa SL_104 e0 e0 a (rdF R1 b7 d4) g7) ?_)))
       obtain ⟨r5,r7,cc5529,a⟩:=a.ld (rdF R1 b7 d4) g7
       replace a:=a.eltP
       obtain ⟨r9,s0,rfl,a⟩:=a
       replace a:=a.eltB
       obtain ⟨rfl,a⟩:=a
       replace a:=a.eltP
       obtain ⟨s1,s2,rfl,a⟩:=a
       replace a:=a.eltS
       obtain ⟨k6,rfl,a⟩:=a
       replace a:=a.swf.eltP
       obtain ⟨s3,s4,rfl,a⟩:=a
       replace a:=a.eltB
       obtain ⟨rfl,a⟩:=a
       replace a:=a.eltS
       obtain ⟨k7,rfl,a⟩:=a
       refine rQ rfl (yCn (cs:=[.bool g6.1,k6.v,.bool g6.2.2.1,k7.v]) ST_61 rfl e0 cc5529) (qR 2 rfl ?_)
       obtain ⟨s5,b8⟩:=a.famI R1 d5
       refine rQ rfl (yIa SLH_64 e0 e0 a rO0 b8) (rQ rfl (yF1 O_104 e0 a rO0 b8 rfl) (qR 1 rfl (rQ rfl (yIa SL_104 e0 e0 a (rdF R1 b8 d5) g9) ?_)))
       obtain ⟨s6,s7,cc5536,a⟩:=a.ld (rdF R1 b8 d5) g9
       replace a:=a.eltP
       obtain ⟨s8,s9,rfl,a⟩:=a
       replace a:=a.eltB
       obtain ⟨rfl,a⟩:=a
       replace a:=a.eltP
       obtain ⟨t0,t1,rfl,a⟩:=a
       replace a:=a.eltS
       obtain ⟨k8,rfl,a⟩:=a
       replace a:=a.swf.eltP
       obtain ⟨t2,t3,rfl,a⟩:=a
       replace a:=a.eltB
       obtain ⟨rfl,a⟩:=a
       replace a:=a.eltS
       obtain ⟨k9,rfl,a⟩:=a
       refine rQ rfl (yCn (cs:=[.bool g8.1,k8.v,.bool g8.2.2.1,k9.v]) ST_61 rfl e0 cc5536) (Rn QSn (kT_ (sparseref08_minus_ok k2 F5 F4 F6 F7 F3 F2 F1 F0 a) fun l0 l1 w a=>dU (D0 [28] [0,1,2,3,4] 29 rfl (rQ rfl (yIs SL_104 e0 e0 a (rdF R3 J d2) h1) (Rn (qS rfl (qS rfl (sY rfl (yIa SLH_64 e0 e0 a rO2 J) (sY rfl (yF1 O_104 e0 a rO2 J rfl) (qS rfl QSn))))) ?_)))))
       replace a:=(a.fz.fz).k10
       refine LT wn (r_stn (cs:=[.bool h0.1,l0.v,.bool h0.2.2.1,l1.v]) (a.foc J d2) ST_61 e0 e0 rfl (mkP mkB (mkP (mkS F1) (mkP mkB (mkS F0)))) h1) fun w a=>?_
       replace a:=a.unfoc' J k3
       refine Dz [] [] (Rn QSn (qx 7 rfl ?_))
       cases d
       exact lo ((a.k3u).facts (allC F8 (allC F9 (allT (allT (allT (allT (allT (allT (allT (allT (allT (allT allI)))))))))))))
      ·refine q 2 rfl ?_
       cases d
       exact xo ((a.k3v).fc)
     ·refine q 2 rfl ?_
      cases t
      exact xo a
    refine cIn c (fun l2 c=>?_) fun l2 c=>?_
    ·exact q 1 rfl (jx (_,_,_,_,_) ⟨a,c⟩)
    ·refine q 1 rfl (bE c fun t4 h3 c=>bE c fun t5 h4 c=>bE c fun t6 d6 c=>bE c fun t7 h5 c=>dR [0,0,0,0,0,0,48,112,0,0,768,1792,4083,8179,16383,32767] [13,15] 2 folM ?_)
     replace a:=a.drew
     refine D0 [0,1,2,3,4,5,6,7,8,9,10,11,12] [] 13 rfl (qR 6 rfl ?_)
     obtain ⟨h6,d7⟩:=a.famI R1 h3
     refine rQ rfl (yIa SLH_64 e0 e0 a rO0 d7) (rQ rfl (yF1 O_104 e0 a rO0 d7 rfl) (qR 2 rfl ?_))
     obtain ⟨h8,d8⟩:=a.famI R1 h4
     refine rQ rfl (yIa SLH_64 e0 e0 a rO0 d8) (rQ rfl (yF1 O_104 e0 a rO0 d8 rfl) ?_)
     obtain ⟨t8,b9⟩:=setI_len (u:=h6) d6 (a.famL (mtR mhR))
     refine rQ rfl (yIs SLH_64 e0 e0 a rO0 b9) (Rn QSn (LT wn (r_sti (cs:=[h6.v]) a O_104 rfl e0 e0 rfl (mkF rfl) b9) fun w a=>D0 [14] [2,3] 15 rfl ?_))
     obtain ⟨t9,d9⟩:=setI_len (u:=h8) h5 (swap_len d6 b9 (a.famL (mtR mhR)))
     refine rQ rfl (yIs SLH_64 e0 e0 a rO0 d9) (Rn (qS rfl (qS rfl QSn)) (LT wn (r_sti (cs:=[h8.v]) a O_104 rfl e0 e0 rfl (mkF rfl) d9) fun w a=>?_))
     replace a:=(a.k10).fswap d7 h3 d8 h4 b9 d6 d9 h5
     refine Dz [] [] (Rn QSn (qx 3 rfl (y (lbs_ [.bool F,s.v] ST_40 e0 a R5) (bE c fun i0 l3 c=>?_))))
     replace a:=(a.k1d).fz
     refine cO (sparseref01_Neg_ok l3 F0 a) fun i1 w a=>q 1 rfl ?_
     replace a:=a.k25
     exact yt (r_stbn (vals':=[.bool i0.1,i1.v,.bool r,h.v]) (us:=[.bool i0.1,i1.v]) a ST_40 e0 e0 rfl rfl (one_of rfl) rfl) fun w a=>q 1 rfl (jx (_,_,_,_,_) ⟨((a.k3w).fc),c⟩)
  rintro c3 g w u0 a K
  refine q 5 rfl (y (yLenF SLH_64 e0 a rO0 R1) (bE K fun l4 x K=>q 2 rfl ?_))
  refine jW 9 [0,1,5,6,7,8,9,10] [(38,.bool l4)] (St w0 ros (row 104 rH i.v z::fam 61 (rP rB (rP (rS (rI .u32)) (rP rB (rS (rI .u32))))) z O::box o 61 [.bool false,hnil.v,.bool false,hnil.v]::row 96 (rI .u32) s.v R::row 96 (rI .u32) h.v C::box p 61 [.bool F,s.v,.bool r,h.v]::row 3 I1 k.v j::rs)) rfl (fun i2=>?_) ?_
  ·refine gI 29 x rfl (fun l5 x=>?_) fun l5 x=>?_
   ·refine q 2 rfl (bE x fun u1 e1 x=>?_)
    obtain ⟨u2,c0⟩:=a.famI R1 e1
    refine y (yIa SLH_64 e0 e0 a rO0 c0) (y (yF1 O_104 e0 a rO0 c0 rfl) (bE x fun i3 i4 x=>q 1 rfl (y (yIa SL_104 e0 e0 a (rdF R1 c0 e1) i4) ?_)))
    obtain ⟨u3,u4,cc5575,a⟩:=a.ld (rdF R1 c0 e1) i4
    replace a:=a.eltP
    obtain ⟨u5,u6,rfl,a⟩:=a
    replace a:=a.eltB
    obtain ⟨rfl,a⟩:=a
    replace a:=a.eltP
    obtain ⟨u7,u8,rfl,a⟩:=a
    replace a:=a.eltS
    obtain ⟨l6,rfl,a⟩:=a
    replace a:=a.swf.eltP
    obtain ⟨u9,v0,rfl,a⟩:=a
    replace a:=a.eltB
    obtain ⟨rfl,a⟩:=a
    replace a:=a.eltS
    obtain ⟨l7,rfl,a⟩:=a
    refine y (yCn (cs:=[.bool i3.1,l6.v,.bool i3.2.2.1,l7.v]) ST_61 rfl e0 cc5575) (bE x fun v1 l8 x=>cZ (sparseref08_zero_ok l8 F1 F0 a) fun w a=>q 1 rfl ?_)
    cases x
    exact i2 _ _ (a.fc) rfl
   ·refine q 9 rfl ?_
    cases x
    exact i2 _ _ a rfl
  intro g w a
  refine q 2 rfl ?_
  refine cJ K (fun l9 K=>?_) fun l9 K=>?_
  ·refine q 9 rfl ?_
   cases K
   exact lo a
  ·refine q 2 rfl ?_
   cases K
   exact xo a
 ·refine q 2 rfl ?_
  cases c
  exact lx (_,_,_,_) a
theorem sparseref08_Rank_ok {c:List (List (Bool×LI))} {d:Hdr} {out:Int} (b:sparseref08_Rank c=some out) (f:imm (rS (rP rB (rS (rI .u32)))) d.v c∈ros) (a:St w0 ros rs w):
  Calls prog 7 #[d.v] w (fun e w=>e=.returned (iV out)∧St w0 ros rs w):=by
 refine en func7 rfl ntmps7 fun Q g=>bE b fun k h b=>q 8 rfl (cT_ (sparseref08_fracs_ok h f a) fun l m w a=>bE b fun n i b=>q 1 rfl (cZ (sparseref08_Cols_ok i f a) fun w a=>bE b fun o j b=>yC (yCall FN_23 (a2 e0 e0)) (sparseref08_echelon_ok j a) ?_))
 rintro _ w ⟨p,r,s,t,rfl,a⟩
 refine ⟨_,rfl,?_⟩
 refine nf (q 3 rfl (yb (rAl a ZT_61) fun u w a=>q 1 rfl (sB rfl a ST_61 fun w a=>q 5 rfl (y (yLen SL_23 e0 a rO3) (q 4 rfl ?_)))))
 cases b
 exact za g results7 ⟨rfl,(a.k20)⟩
theorem sparseref08_Dot_ok {m n:List (Bool×LI)} {o p:Hdr} {out:Bool×LI} (h:sparseref08_Dot m n=some out) (i:imm (rP rB (rS (rI .u32))) o.v m∈ros) (r:imm (rP rB (rS (rI .u32))) p.v n∈ros) (a:St w0 ros rs w):
  Calls prog 32 #[o.v,p.v] w (fun e w=>∃ (s:Hdr),e=.returned (.agg #[.bool out.1,s.v])∧St w0 ros (row 96 (rI .u32) s.v out.2::rs) w):=by
 refine en func32 rfl ntmps32 fun Q D=>q 2 rfl (yb (rAl a ZT_40) fun t w a=>q 4 rfl (y (ybuild (us:=[.bool false,hnil.v]) [] SO_40 bp0 rfl) (yb (rAl a ZT_40) fun u w a=>sB rfl a ST_40 fun w a=>q 9 rfl ?_)))
 obtain ⟨⟨j,x⟩,E,h⟩:=bs h
 replace a:=a.rowNh 96 (rI .u32)
 refine lpN Hdr Hdr E [0,1,4,5] (fun (d,k,l) c=>[(6,iV l)]) (fun (d,k,l) c=>St w0 ros (box t 40 [.bool false,hnil.v]::row 96 (rI .u32) c.v k::box u 40 [.bool d,c.v]::rs)) (fun | (j,x),f=>(.exit 0,[],St w0 ros (box t 40 [.bool false,hnil.v]::row 96 (rI .u32) f.v x::box u 40 [.bool j,f.v]::rs))) rfl _ (a.k16) rfl ?_ ?_
 ·clear a
  rintro f g w a
  refine q 4 rfl (y (lbs_ [.bool j,f.v] ST_40 e0 a R2) (sB rfl a ST_40 fun w a=>q 3 rfl ?_))
  cases h
  exact D _ _ _ (fin1r results32 (rcs2 rfl rfl a R0 ST_40 rfl) ⟨_,rfl,(a.k13)⟩)
 rintro ⟨d,k,l⟩ c g w N a b
 refine q 5 rfl (y (yLen SL_28 e0 a (rdI i)) (q 3 rfl (cI b (fun F b=>?_) fun F b=>?_)))
 ·refine q 4 rfl (bE b fun G z b=>bE b fun H A b=>bE b fun O I b=>bE b fun B J b=>dR [0,0,0,6,14,0,0,96,224,510,1023,2047] [9,10,11] 3 folM ?_)
  replace a:=a.drew
  refine D1 [0,1,2,3,4,5,6,7,8] [] 9 rfl (rQ rfl (lbs_ [.bool d,c.v] ST_40 e0 a R2) (qR 2 rfl (rQ rfl (yIa SL_28 e0 e0 a (rdI i) z) ?_)))
  obtain ⟨R,S,a⟩:=iLd a i z
  obtain ⟨T,U,rfl,a⟩:=a.eltP
  obtain ⟨rfl,a⟩:=a.eltB
  obtain ⟨K,rfl,a⟩:=a.eltS
  refine rQ rfl (yCtn (cs:=[.bool G.1,K.v]) ST_40 rfl e0 a F1) (qR 2 rfl (rQ rfl (yIa SL_28 e0 e0 a (rdI (F_2 r)) A) ?_))
  obtain ⟨V,W,a⟩:=iLd a (F_2 r) A
  obtain ⟨X,Z,rfl,a⟩:=a.eltP
  obtain ⟨rfl,a⟩:=a.eltB
  obtain ⟨L,rfl,a⟩:=a.eltS
  refine rQ rfl (yCtn (cs:=[.bool H.1,L.v]) ST_40 rfl e0 a F1) (Rn QSn (kO (sparseref01_Mul_ok I F2 F0 a) fun a0 w a=>dU (D1 [] [0] 10 rfl (Rn (sY rfl (lbs_ [.bool d,c.v] ST_40 e0 a R3) QSn) ?_))))
  replace a:=((a.k16).fz).fz
  refine kO (sparseref01_Add_ok J F1 F0 a) fun C w a=>dU (D0 [] [] 11 rfl (Rn QSn ?_))
  replace a:=a.k16
  refine LT wn (r_stbn (vals':=[.bool B.1,C.v]) (us:=[.bool B.1,C.v]) a ST_40 e0 e0 rfl rfl (one_of rfl) rfl) fun w a=>Dz [] [] (Rn QSn (qx 7 rfl ?_))
  cases b
  exact ln _ ((a.k18).fc)
 ·refine q 2 rfl ?_
  cases b
  exact lx _ a
theorem sparseref08_Times_ok {m:List (List (Bool×LI))} {o:List (Bool×LI)} {p r:Hdr} {out:(List (Bool×LI))} (f:sparseref08_Times m o=some out) (h:imm (rS (rP rB (rS (rI .u32)))) p.v m∈ros) (z:imm (rP rB (rS (rI .u32))) r.v o∈ros) (a:St w0 ros rs w):
  Calls prog 10 #[p.v,r.v] w (fun e w=>∃ (s:Hdr),e=.returned (s.v)∧St w0 ros (row 40 (rP rB (rS (rI .u32))) s.v out::rs) w):=by
 refine en func10 rfl ntmps10 fun Q A=>bE f fun t B f=>q 17 rfl ?_
 replace a:=a.rowNh 40 (rP rB (rS (rI .u32)))
 refine lpN Hdr Hdr B [0,1] (fun (i,j) c=>[(5,c.v),(6,iV j)]) (fun (i,j) c=>St w0 ros (row 40 (rP rB (rS (rI .u32))) c.v i::rs)) (fun | t,k=>(.exit 0,[(5,k.v)],St w0 ros (row 40 (rP rB (rS (rI .u32))) k.v t::rs))) rfl _ a rfl ?_ ?_
 ·clear a
  rintro k g w a
  refine q 9 rfl ?_
  cases f
  exact A _ _ _ (fin1r results10 ⟨rfl,rfl⟩ ⟨_,rfl,a⟩)
 rintro ⟨i,j⟩ c g w F a b
 refine q 5 rfl (y (yLen SL_32 e0 a (rdI h)) (q 3 rfl (cI b (fun C b=>?_) fun C b=>?_)))
 ·refine q 8 rfl (bE b fun G u b=>y (yIa SL_32 e0 e0 a (rdI h) u) ?_)
  obtain ⟨H,a⟩:=iLs a h u
  refine y (yCt O_28 e0 a F1 rfl) (bE b fun d D b=>q 1 rfl (cO (sparseref08_Dot_ok D F0 (F_2 z) a) fun x w a=>?_))
  replace a:=a.fz
  refine yh (rLt (n:=1) (l:=[(d.1,d.2)]) a SL_28 [.agg #[.bool d.1,x.v]] (bp1 e0) rfl rfl (mks1 (cs:=[.bool d.1,x.v]) rfl (mkP mkB (mkS F0)) mks0)) fun I w a=>bE b fun J E b=>?_
  replace a:=a.k10
  refine yh (rAp a SL_28 e0 e0 rO1 E) fun K w a=>q 9 rfl ?_
  cases b
  exact ln _ ((a.k11).fc)
 ·refine q 2 rfl ?_
  cases b
  exact lx _ a
theorem modular_IsPrime_ok {d:Int} {out:Bool} (c:modular_IsPrime d=some out) (a:St w0 ros rs w):
  Calls prog 69 #[iV d] w (fun e w=>e=.returned (.bool out)∧St w0 ros rs w):=by
 refine en func69 rfl ntmps69 fun Q f=>q 11 rfl ?_
 refine jW 3 [0] [(9,.bool ((decide (d < 2)) || (decide ((2147483647:Int) < d))))] (St w0 ros rs) rfl (fun j=>?_) ?_
 ·refine gB 6 rfl (fun h=>?_) fun h=>?_
  ·exact q 3 rfl (j _ _ a (hasC (congrArg Value.bool (orT h)) rfl))
  ·exact q 3 rfl (j _ _ a (hasC (congrArg Value.bool (orF h)) rfl))
 intro g w a
 refine q 2 rfl ?_
 refine cJ c (fun k c=>?_) fun k c=>?_
 ·refine q 7 rfl ?_
  cases c
  exact za f results69 ⟨rfl,a⟩
 ·refine q 9 rfl (bE c fun l m c=>?_)
  refine lp m [0] (fun i=>[(3,iV i)]) (fun i=>St w0 ros rs) (fun | .inl ()=>(.exit 0,[],St w0 ros rs) | .inr ()=>(.ret,[(2,.bool false)],St w0 ros rs)) rfl a rfl ?_ ?_
  ·clear a
   intro g w a
   rcases l with ⟨⟩ | ⟨⟩
   ·refine q 8 rfl ?_
    cases c
    exact za f results69 ⟨rfl,a⟩
   ·refine q 2 rfl ?_
    cases c
    exact za f results69 ⟨rfl,a⟩
  rintro i g w r a b
  refine q 10 rfl (cI b (fun n b=>?_) fun n b=>?_)
  ·refine q 8 rfl (bE b fun s o b=>y (yrem e0 e0 o) (q 3 rfl (cI b (fun p b=>?_) fun p b=>?_)))
   ·refine q 8 rfl ?_
    cases b
    exact xo a
   ·refine q 8 rfl ?_
    cases b
    exact lo a
  ·refine q 2 rfl ?_
   cases b
   exact xo a
end Go.Proofs.YtcoaljcfifecgagGreatDoor
