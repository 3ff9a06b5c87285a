/- Walks: each function computes its model, printed. -/
import Derived.Test.YtcoaljcfifecgagGreatDoorSxX
import Derived.Test.YtcoaljcfifecgagGreatDoorTy
import Derived.Test.YtcoaljcfifecgagGreatDoorM12
import Derived.Test.YtcoaljcfifecgagGreatDoorSxT
namespace Go.Proofs.YtcoaljcfifecgagGreatDoor
open Go Sx M Go.Proofs.Tryz
set_option maxRecDepth 100000
set_option maxHeartbeats 40000000
set_option linter.unusedVariables false
attribute [local irreducible] wpList Code.wp Calls DR QR QS LA LS St
variable {w0:World} {ros:List Fact} {rs:List Res} {w:World}
theorem sparsegen_Mod_ok {b c out:Int} (a:sparsegen_Mod b c=some out) (d:St w0 ros rs w):
  Calls prog 11 #[iV b,iV c] w (fun e w=>e=.returned (iV out)∧St w0 ros rs w):=by
 refine en func11 rfl ntmps11 fun Q f=>bE a fun h g a=>q 11 rfl (y (yrem e0 e0 g) (q 5 rfl ?_))
 cases a
 exact za f results11 ⟨rfl,d⟩
theorem sparsegen_Word_ok {f:LI} {h:Int} {i:Hdr} {out:Int} (a:sparsegen_Word f h=some out) (c:imm (rI .u64) i.v f∈ros) (b:St w0 ros rs w):
  Calls prog 13 #[i.v,iV h] w (fun e w=>e=.returned (.int .u64 out)∧St w0 ros rs w):=by
 refine en func13 rfl ntmps13 fun Q k=>q 18 rfl (y (yLen SL_22 e0 b (rdI c)) (q 3 rfl ?_))
 refine jC Int [] (fun d=>[(5,.int .u64 d)]) (fun d w=>St w0 ros rs w∧sparsegen_Word_j1 d=some out) rfl ?_ ?_
 ·rintro d g w ⟨b,a⟩
  refine q 21 rfl ?_
  cases a
  exact za k results13 ⟨rfl,b⟩
 refine cI a (fun l a=>?_) fun l a=>?_
 ·exact q 5 rfl (y (yLen SL_22 e0 b (rdI c)) (bE a fun n m a=>cZ (sparsegen_Mod_ok m b) fun w b=>bE a fun o j a=>y (yIa SL_22 e0 e0 b (rdI c) j) (y (yI O_45 e0 b (rdI c) j) (q 3 rfl (jx _ ⟨b,a⟩)))))
 ·exact q 1 rfl (jx _ ⟨b,a⟩)
theorem sparseref03_IsFinite_ok {a:Int} {out:Bool} (b:sparseref03_IsFinite a=some out) (c:St w0 ros rs w):
  Calls prog 48 #[.int .u64 a] w (fun e w=>e=.returned (.bool out)∧St w0 ros rs w):=by
 refine en func48 rfl ntmps48 fun Q d=>q 15 rfl ?_
 cases b
 exact za d results48 ⟨rfl,c⟩
theorem sparseref01_trim_ok {r:LI} {s:Hdr} {out:LI} (f:sparseref01_trim r=some out) (h:imm (rI .u32) s.v r∈ros) (a:St w0 ros rs w):
  Calls prog 106 #[s.v] w (fun e w=>∃ (t:Hdr),e=.returned (t.v)∧St w0 ros (row 96 (rI .u32) t.v out::rs) w):=by
 refine en func106 rfl ntmps106 fun Q C=>q 8 rfl (y (yLen SL_38 e0 a (rdI h)) (bE f fun u D f=>q 5 rfl ?_))
 refine lp D [0] (fun j=>[(3,iV j)]) (fun j=>St w0 ros rs) (fun | u=>(.exit 0,[(3,iV u)],St w0 ros rs)) rfl a rfl ?_ ?_
 ·clear a
  intro g w a
  refine bE f fun x E f=>q 14 rfl ?_
  replace a:=a.rowNh 96 (rI .u32)
  refine lpN Hdr Hdr E [0,3] (fun (k,m) i=>[(4,i.v),(5,iV m)]) (fun (k,m) i=>St w0 ros (row 96 (rI .u32) i.v k::rs)) (fun | x,o=>(.exit 2,[(4,o.v)],St w0 ros (row 96 (rI .u32) o.v x::rs))) rfl _ a rfl ?_ ?_
  ·clear a
   rintro o g w a
   refine q 9 rfl ?_
   cases f
   exact C _ _ _ (fin1r results106 ⟨rfl,rfl⟩ ⟨_,rfl,a⟩)
  rintro ⟨k,m⟩ i g w K a b
  refine q 8 rfl (cI b (fun F b=>?_) fun F b=>?_)
  ·refine q 8 rfl (bE b fun p z b=>y (yIa SL_38 e0 e0 a (rdI h) z) (y (yI O_96 e0 a (rdI h) z) (yh (rLt (n:=1) (l:=[p]) a SL_38 [.int .u32 p] (bp1 e0) rfl rfl (mks1 (cs:=[.int .u32 p]) rfl mkI mks0)) fun L w a=>bE b fun N G b=>?_)))
   replace a:=a.k10
   refine yh (rAp a SL_38 e0 e0 rO1 G) fun O w a=>q 9 rfl ?_
   cases b
   exact ln _ (a.k11)
  ·refine q 2 rfl ?_
   cases b
   exact lx _ a
 rintro j g w R a c
 refine bE c fun H d c=>q 6 rfl ?_
 refine jW 7 [0,3] [(17,.bool H)] (St w0 ros rs) rfl (fun A=>?_) ?_
 ·refine gI 10 d rfl (fun I d=>?_) fun I d=>?_
  ·refine q 3 rfl (bE d fun S B d=>y (yIa SL_38 e0 e0 a (rdI h) B) (y (yI O_96 e0 a (rdI h) B) (q 2 rfl ?_)))
   cases d
   exact A _ _ a rfl
  ·refine q 7 rfl ?_
   cases d
   exact A _ _ a rfl
 intro g w a
 refine q 2 rfl ?_
 refine cJ c (fun J c=>?_) fun J c=>?_
 ·refine q 9 rfl ?_
  cases c
  exact lo a
 ·refine q 2 rfl ?_
  cases c
  exact xo a
theorem sparseref01_make1_ok {b:Bool} {i:LI} {j:Hdr} {out:Bool×LI} (f:sparseref01_make1 b i=some out) (m:imm (rI .u32) j.v i∈ros) (a:St w0 ros rs w):
  Calls prog 54 #[.bool b,j.v] w (fun e w=>∃ (k:Hdr),e=.returned (.agg #[.bool out.1,k.v])∧St w0 ros (row 96 (rI .u32) k.v out.2::rs) w):=by
 refine en func54 rfl ntmps54 fun Q n=>q 2 rfl (yb (rAl a ZT_40) fun o w a=>bE f fun c p f=>q 5 rfl (cO (sparseref01_trim_ok p m a) fun d w a=>q 7 rfl ?_))
 refine jW 4 [1,4] [(12,.bool (b && (decide ((0:Int) < (c.length:Int)))))] (St w0 ros (row 96 (rI .u32) d.v c::box o 40 [.bool false,hnil.v]::rs)) rfl (fun l=>?_) ?_
 ·refine gB 8 rfl (fun h=>?_) fun h=>?_
  ·exact q 1 rfl (y (yLen SL_38 e0 a rO0) (q 2 rfl (l _ _ a (hasC (congrArg Value.bool (andT h)) rfl))))
  ·exact q 4 rfl (l _ _ a (hasC (congrArg Value.bool (andF h)) rfl))
 intro g w a
 refine q 1 rfl (y (ybuild (us:=[.bool (b && (decide ((0:Int) < (c.length:Int)))),d.v]) [(0,.bool (b && (decide ((0:Int) < (c.length:Int))))),(1,d.v)] SO_40 (bp2 e0 e0) rfl) ?_)
 replace a:=a.k10
 refine yt (r_stbn (vals':=[.bool (b && (decide ((0:Int) < (c.length:Int)))),d.v]) (us:=[.bool (b && (decide ((0:Int) < (c.length:Int)))),d.v]) a ST_40 e0 e0 rfl rfl (one_of rfl) rfl) fun w a=>q 3 rfl ?_
 cases f
 exact n _ _ _ (fin1r results54 (rcs2 rfl rfl a R0 ST_40 rfl) ⟨_,rfl,(a.k12)⟩)
theorem sparseref01_FromInt_ok {d:Int} {out:Bool×LI} (c:sparseref01_FromInt d=some out) (a:St w0 ros rs w):
  Calls prog 29 #[iV d] w (fun e w=>∃ (f:Hdr),e=.returned (.agg #[.bool out.1,f.v])∧St w0 ros (row 96 (rI .u32) f.v out.2::rs) w):=by
 refine en func29 rfl ntmps29 fun Q h=>q 2 rfl (yb (rAl a ZT_40) fun i w a=>q 16 rfl ?_)
 refine jC Int [0,2] (fun b=>[(3,.int .u64 b)]) (fun b w=>St w0 ros (box i 40 [.bool false,hnil.v]::rs) w∧sparseref01_FromInt_j1 d b=some out) rfl ?_ ?_
 ·rintro b g w ⟨a,c⟩
  refine q 10 rfl (yh (rLt (n:=2) (l:=[wc .u32 b,wc .u32 (wsrc .u64 b 32)]) a SL_38 [.int .u32 (wc .u32 b),.int .u32 (wc .u32 (wsrc .u64 b 32))] (bp2 e0 e0) rfl rfl (mks1 (cs:=[.int .u32 (wc .u32 b)]) rfl mkI (mks1 (cs:=[.int .u32 (wc .u32 (wsrc .u64 b 32))]) rfl mkI mks0))) fun m w a=>bE c fun o j c=>?_)
  replace a:=a.fz
  refine cO (sparseref01_make1_ok j F0 a) fun p w a=>?_
  replace a:=a.k10
  refine sB rfl a ST_40 fun w a=>q 3 rfl ?_
  cases c
  exact h _ _ _ (fin1r results29 (rcs2 rfl rfl a R0 ST_40 rfl) ⟨_,rfl,((a.k12).fc)⟩)
 refine cI c (fun k c=>?_) fun k c=>?_
 ·exact q 8 rfl (jx _ ⟨a,c⟩)
 ·exact q 1 rfl (jx _ ⟨a,c⟩)
theorem sparseref01_Norm_ok {b:Bool} {f:LI} {c:Hdr} {out:Bool×LI} (d:sparseref01_Norm b f=some out) (h:imm (rI .u32) c.v f∈ros) (a:St w0 ros rs w):
  Calls prog 31 #[.agg #[.bool b,c.v]] w (fun e w=>∃ (g:Hdr),e=.returned (.agg #[.bool out.1,g.v])∧St w0 ros (row 96 (rI .u32) g.v out.2::rs) w):=by
 refine en func31 rfl ntmps31 fun Q i=>q 2 rfl (yb (r_box (vals:=[.bool b,c.v]) a e0 rfl) fun k w a=>yb (rAl a ZT_40) fun l w a=>q 5 rfl (y (lb_ (.bool b) O_4 e0 a R1) (q 1 rfl (y (lb_ c.v O_38 e0 a R1) (bE d fun m j d=>cO (sparseref01_make1_ok j h a) fun n w a=>?_)))))
 replace a:=a.k10
 refine sB rfl a ST_40 fun w a=>q 3 rfl ?_
 cases d
 exact i _ _ _ (fin1r results31 (rcs2 rfl rfl a R0 ST_40 rfl) ⟨_,rfl,(a.k13)⟩)
theorem sparseref02_Bad_ok {out:Bool×Bool×Int} (b:sparseref02_Bad=some out) (a:St w0 ros rs w):
  Calls prog 49 #[] w (fun e w=>e=.returned (.agg #[.bool out.1,.bool out.2.1,hnil.v,iV out.2.2])∧St w0 ros rs w):=by
 refine en func49 rfl ntmps49 fun Q c=>q 2 rfl (yb (rAl a ZT_53) fun d w a=>q 4 rfl (y (ybuild (us:=[.bool true,.bool false,hnil.v,iV 0]) [(0,.bool true)] SO_53 (bp1 rfl) rfl) (sB rfl a ST_53 fun w a=>q 3 rfl ?_)))
 cases b
 exact c _ _ _ (fin1r results49 (rcs2 rfl rfl a R0 ST_53 rfl) ⟨rfl,(a.k14)⟩)
theorem sparseref01_TrailingZeros_ok {f:Bool} {i:LI} {d:Hdr} {out:Int} (c:sparseref01_TrailingZeros f i=some out) (n:imm (rI .u32) d.v i∈ros) (o:globF∈ros) (a:St w0 ros rs w):
  Calls prog 103 #[.agg #[.bool f,d.v]] w (fun e w=>e=.returned (iV out)∧St w0 ros rs w):=by
 refine en func103 rfl ntmps103 fun Q j=>q 2 rfl (yb (r_box (vals:=[.bool f,d.v]) a e0 rfl) fun B w a=>q 6 rfl (y (lb_ d.v O_38 e0 a R0) (bE c fun p r c=>cO (sparseref01_trim_ok r n a) fun s w a=>bE c fun t u c=>q 10 rfl ?_)))
 refine lp u [3] (fun h=>[(4,iV h)]) (fun h=>St w0 ros (row 96 (rI .u32) s.v p::rs)) (fun | .inl ()=>(.exit 0,[],St w0 ros rs) | .inr k=>(.ret,[(2,iV k)],St w0 ros rs)) rfl (a.k11) rfl ?_ ?_
 ·clear a
  intro g w a
  rcases t with ⟨⟩ | k
  ·refine q 8 rfl ?_
   cases c
   exact za j results103 ⟨rfl,a⟩
  ·refine q 2 rfl ?_
   cases c
   exact za j results103 ⟨rfl,a⟩
 rintro h g w C a b
 refine q 5 rfl (y (yLen SL_38 e0 a rO0) (q 3 rfl (cI b (fun x b=>?_) fun x b=>?_)))
 ·refine q 8 rfl (bE b fun D l b=>y (yIa SL_38 e0 e0 a rO0 l) (y (yI O_96 e0 a rO0 l) (q 3 rfl ?_)))
  refine cIn b (fun z b=>?_) fun z b=>?_
  ·refine q 8 rfl ?_
   cases b
   exact lo a
  ·refine q 6 rfl (bE b fun E m b=>y (yIa SL_38 e0 e0 a rO0 m) (y (yI O_96 e0 a rO0 m) (bE b fun F A b=>cZ (tz32_ok A o a) fun w a=>q 7 rfl ?_)))
   cases b
   exact xo (a.k14)
 ·refine q 2 rfl ?_
  cases b
  exact xo (a.k14)
theorem sparseref01_Abs_ok {c:Bool} {f:LI} {b:Hdr} {out:Bool×LI} (d:sparseref01_Abs c f=some out) (h:imm (rI .u32) b.v f∈ros) (a:St w0 ros rs w):
  Calls prog 77 #[.agg #[.bool c,b.v]] w (fun e w=>∃ (g:Hdr),e=.returned (.agg #[.bool out.1,g.v])∧St w0 ros (row 96 (rI .u32) g.v out.2::rs) w):=by
 refine en func77 rfl ntmps77 fun Q i=>q 2 rfl (yb (r_box (vals:=[.bool c,b.v]) a e0 rfl) fun k w a=>yb (rAl a ZT_40) fun l w a=>q 5 rfl (y (lb_ b.v O_38 e0 a R1) (bE d fun m j d=>cO (sparseref01_make1_ok j h a) fun n w a=>?_)))
 replace a:=a.k10
 refine sB rfl a ST_40 fun w a=>q 3 rfl ?_
 cases d
 exact i _ _ _ (fin1r results77 (rcs2 rfl rfl a R0 ST_40 rfl) ⟨_,rfl,(a.k13)⟩)
theorem sparseref01_shl_ok {p:LI} {r:Int} {s:Hdr} {out:LI} (c:sparseref01_shl p r=some out) (i:imm (rI .u32) s.v p∈ros) (a:St w0 ros rs w):
  Calls prog 55 #[s.v,iV r] w (fun e w=>∃ (t:Hdr),e=.returned (t.v)∧St w0 ros (row 96 (rI .u32) t.v out::rs) w):=by
 refine en func55 rfl ntmps55 fun Q z=>bE c fun G A c=>q 9 rfl (yh (rMk a SL_38 e0 A) fun H w a=>q 15 rfl ?_)
 obtain ⟨⟨u,f⟩,B,c⟩:=bs c
 refine lpN Hdr Hdr B [0,1] (fun (j,d,k) h=>[(5,h.v),(6,.int .u64 d),(7,iV k)]) (fun (j,d,k) h=>St w0 ros (row 96 (rI .u32) h.v j::rs)) (fun | (u,f),m=>(.exit 0,[(5,m.v),(6,.int .u64 f)],St w0 ros (row 96 (rI .u32) m.v u::rs))) rfl _ a rfl ?_ ?_
 ·clear a
  rintro m g w a
  refine q 7 rfl (yh (rLt (n:=1) (l:=[wc .u32 f]) a SL_38 [.int .u32 (wc .u32 f)] (bp1 e0) rfl rfl (mks1 (cs:=[.int .u32 (wc .u32 f)]) rfl mkI mks0)) fun I w a=>bE c fun J C c=>?_)
  replace a:=a.k10
  refine yh (rAp a SL_38 e0 e0 rO1 C) fun K w a=>q 4 rfl ?_
  cases c
  exact z _ _ _ (fin1r results55 ⟨rfl,rfl⟩ ⟨_,rfl,(a.k11)⟩)
 rintro ⟨j,d,k⟩ h g w L a b
 refine q 5 rfl (y (yLen SL_38 e0 a (rdI i)) (q 3 rfl (cI b (fun D b=>?_) fun D b=>?_)))
 ·refine q 9 rfl (bE b fun N x b=>y (yIa SL_38 e0 e0 a (rdI i) x) (y (yI O_96 e0 a (rdI i) x) (bE b fun o E b=>q 3 rfl (y (yshl e0 e0 E) (q 9 rfl (yh (rLt (n:=1) (l:=[wc .u32 (wor .u64 d o)]) a SL_38 [.int .u32 (wc .u32 (wor .u64 d o))] (bp1 e0) rfl rfl (mks1 (cs:=[.int .u32 (wc .u32 (wor .u64 d o))]) rfl mkI mks0)) fun O w a=>bE b fun R F b=>?_))))))
  replace a:=a.k10
  refine yh (rAp a SL_38 e0 e0 rO1 F) fun S w a=>q 15 rfl ?_
  cases b
  exact ln _ (a.k11)
 ·refine q 2 rfl ?_
  cases b
  exact lx _ a
theorem sparseref01_shr_ok {s:LI} {m:Int} {E:Hdr} {out:LI×Bool} (b:sparseref01_shr s m=some out) (d:imm (rI .u32) E.v s∈ros) (a:St w0 ros rs w):
  Calls prog 56 #[E.v,iV m] w (fun e w=>∃ (F:Hdr),e=.returned (.tuple #[F.v,.bool out.2])∧St w0 ros (row 96 (rI .u32) F.v out.1::rs) w):=by
 refine en func56 rfl ntmps56 fun Q T=>bE b fun G U b=>q 18 rfl ?_
 refine lp U [0,1] (fun (x,o)=>[(6,.bool x),(7,iV o)]) (fun (x,o)=>St w0 ros rs) (fun | G=>(.exit 0,[(6,.bool G)],St w0 ros rs)) rfl a rfl ?_ ?_
 ·clear a
  intro g w a
  refine q 23 rfl ?_
  obtain ⟨⟨H,I⟩,V,b⟩:=bs b
  replace a:=a.rowNh 96 (rI .u32)
  refine lpN Hdr Hdr V [0,1,9] (fun (t,h,p) i=>[(6,.bool t),(8,i.v),(10,iV p)]) (fun (t,h,p) i=>St w0 ros (row 96 (rI .u32) i.v h::rs)) (fun | (H,I),z=>(.exit 2,[(6,.bool H),(8,z.v)],St w0 ros (row 96 (rI .u32) z.v I::rs))) rfl _ a rfl ?_ ?_
  ·clear a
   rintro z g w a
   refine q 11 rfl ?_
   cases b
   exact T _ _ _ (fin2r results56 ⟨rfl,rfl⟩ ⟨rfl,rfl⟩ ⟨_,rfl,a⟩)
  rintro ⟨t,h,p⟩ i g w J a c
  refine q 5 rfl (y (yLen SL_38 e0 a (rdI d)) (q 3 rfl (cI c (fun W c=>?_) fun W c=>?_)))
  ·refine q 8 rfl (bE c fun a8 K c=>y (yIa SL_38 e0 e0 a (rdI d) K) (y (yI O_96 e0 a (rdI d) K) (q 10 rfl (y (yLen SL_38 e0 a (rdI d)) (q 3 rfl ?_)))))
   refine jC Int [0,1,6,8,9,10] (fun r=>[(11,.int .u64 r)]) (fun r w=>St w0 ros (row 96 (rI .u32) i.v h::rs) w∧sparseref01_shr_j16 p m s h t r=some J) rfl ?_ ?_
   ·rintro r g w ⟨a,b⟩
    refine bE b fun A f b=>q 3 rfl ?_
    refine jN Unit [0,1,6,8,9,10,11] (fun _=>[(75,.bool A)]) (fun _=>St w0 ros (row 96 (rI .u32) i.v h::rs)) rfl ?_ ?_
    ·rcases iteS f with ⟨B,f⟩ | ⟨B,f⟩
     ·refine bE f fun a9 L f=>bE f fun b0 X f=>?_
      have Z:=someI f
      refine dR [0,0,2,7,15,31,31,127,255,31,543,1567,4095,8191,16383] [] 0 folM ?_
      replace a:=a.drew
      exact Dz [0,1,2,3,4,5,6,7,8,9,10,11,12,13,14] [] (qR 5 rfl (rK 65 rfl (dT B) (qR 2 rfl (rQ rfl (yIa SL_38 e0 e0 a (rdI d) L) (rQ rfl (yI O_96 e0 a (rdI d) L) (qR 1 rfl (rQ rfl (yshl rfl e0 X) (qR 3 rfl (rQ rfl (pt_ (.bool A) e0 rfl (eqv Z e0)) (Rn QSn (jr () a)))))))))))
     ·have a0:=someI f
      refine dR [0,0,2,7,15,31,31,127,255,31,543,1567,4095,8191,16383] [] 0 folM ?_
      replace a:=a.drew
      exact Dz [0,1,2,3,4,5,6,7,8,9,10,11,12,13,14] [] (qR 5 rfl (rK 65 rfl (dF B) (qR 9 rfl (rQ rfl (pf_ (.bool A) e0 rfl (eqv a0 rfl)) (Rn QSn (jr () a))))))
    rintro _ g w a
    refine q 1 rfl ?_
    refine jC Bool [0,1,8,9,10,11] (fun u=>[(6,.bool u)]) (fun u w=>St w0 ros (row 96 (rI .u32) i.v h::rs) w∧sparseref01_shr_j20 r m h p u=some J) rfl ?_ ?_
    ·rintro u g w ⟨a,b⟩
     refine bE b fun C a1 b=>q 5 rfl (y (yshr e0 e0 a1) (q 1 rfl (yh (rLt (n:=1) (l:=[wc .u32 C]) a SL_38 [.int .u32 (wc .u32 C)] (bp1 e0) rfl rfl (mks1 (cs:=[.int .u32 (wc .u32 C)]) rfl mkI mks0)) fun b1 w a=>bE b fun b2 a2 b=>?_)))
     replace a:=a.k10
     refine yh (rAp a SL_38 e0 e0 rO1 a2) fun b3 w a=>q 9 rfl ?_
     cases b
     exact ln _ (a.k11)
    refine cJ b (fun a3 b=>?_) fun a3 b=>?_
    ·exact q 3 rfl (jx _ ⟨a,b⟩)
    ·exact q 1 rfl (jx _ ⟨a,b⟩)
   refine cI c (fun a4 c=>?_) fun a4 c=>?_
   ·exact q 5 rfl (bE c fun b4 N c=>y (yIa SL_38 e0 e0 a (rdI d) N) (y (yI O_96 e0 a (rdI d) N) (q 5 rfl (jx _ ⟨a,c⟩))))
   ·exact q 1 rfl (jx _ ⟨a,c⟩)
  ·refine q 2 rfl ?_
   cases c
   exact lx _ a
 rintro ⟨x,o⟩ g w b5 a j
 refine q 8 rfl ?_
 refine jW 5 [0,1,6,7] [(21,.bool ((decide (o < (wqc .i64 m 32))) && (decide (o < (s.length:Int)))))] (St w0 ros rs) rfl (fun O=>?_) ?_
 ·refine gB 16 rfl (fun D=>?_) fun D=>?_
  ·exact q 2 rfl (y (yLen SL_38 e0 a (rdI d)) (q 2 rfl (O _ _ a (hasC (congrArg Value.bool (andT D)) rfl))))
  ·exact q 5 rfl (O _ _ a (hasC (congrArg Value.bool (andF D)) rfl))
 intro g w a
 refine q 2 rfl ?_
 refine cJ j (fun a5 j=>?_) fun a5 j=>?_
 ·refine q 7 rfl (bE j fun a6 k j=>?_)
  refine jW 6 [0,1,7] [(31,.bool a6)] (St w0 ros rs) rfl (fun R=>?_) ?_
  ·refine gJ 25 k rfl (fun a7 k=>?_) fun a7 k=>?_
   ·refine q 6 rfl ?_
    cases k
    exact R _ _ a rfl
   ·refine q 2 rfl (bE k fun b6 S k=>y (yIa SL_38 e0 e0 a (rdI d) S) (y (yI O_96 e0 a (rdI d) S) (q 2 rfl ?_)))
    cases k
    exact R _ _ a rfl
  intro g w a
  refine q 9 rfl ?_
  cases j
  exact lo a
 ·refine q 2 rfl ?_
  cases j
  exact xo a
theorem sparseref01_Neg_ok {b:Bool} {f:LI} {c:Hdr} {out:Bool×LI} (d:sparseref01_Neg b f=some out) (h:imm (rI .u32) c.v f∈ros) (a:St w0 ros rs w):
  Calls prog 59 #[.agg #[.bool b,c.v]] w (fun e w=>∃ (g:Hdr),e=.returned (.agg #[.bool out.1,g.v])∧St w0 ros (row 96 (rI .u32) g.v out.2::rs) w):=by
 refine en func59 rfl ntmps59 fun Q i=>q 2 rfl (yb (r_box (vals:=[.bool b,c.v]) a e0 rfl) fun k w a=>yb (rAl a ZT_40) fun l w a=>q 5 rfl (y (lb_ (.bool b) O_4 e0 a R1) (q 2 rfl (y (lb_ c.v O_38 e0 a R1) (bE d fun m j d=>cO (sparseref01_make1_ok j h a) fun n w a=>?_)))))
 replace a:=a.k10
 refine sB rfl a ST_40 fun w a=>q 3 rfl ?_
 cases d
 exact i _ _ _ (fin1r results59 (rcs2 rfl rfl a R0 ST_40 rfl) ⟨_,rfl,(a.k13)⟩)
theorem sparseref01_addMag_ok {t p:LI} {u x:Hdr} {out:LI} (b:sparseref01_addMag t p=some out) (k:imm (rI .u32) u.v t∈ros) (m:imm (rI .u32) x.v p∈ros) (a:St w0 ros rs w):
  Calls prog 116 #[u.v,x.v] w (fun e w=>∃ (z:Hdr),e=.returned (z.v)∧St w0 ros (row 96 (rI .u32) z.v out::rs) w):=by
 refine en func116 rfl ntmps116 fun Q E=>q 22 rfl ?_
 obtain ⟨⟨A,i⟩,F,b⟩:=bs b
 replace a:=a.rowNh 96 (rI .u32)
 refine lpN Hdr Hdr F [0,1] (fun (d,r,j) h=>[(5,h.v),(6,.int .u64 r),(7,iV j)]) (fun (d,r,j) h=>St w0 ros (row 96 (rI .u32) h.v d::rs)) (fun | (A,i),s=>(.exit 0,[(5,s.v),(6,.int .u64 i)],St w0 ros (row 96 (rI .u32) s.v A::rs))) rfl _ a rfl ?_ ?_
 ·clear a
  rintro s g w a
  refine q 7 rfl (yh (rLt (n:=1) (l:=[wc .u32 i]) a SL_38 [.int .u32 (wc .u32 i)] (bp1 e0) rfl rfl (mks1 (cs:=[.int .u32 (wc .u32 i)]) rfl mkI mks0)) fun L w a=>bE b fun N G b=>?_)
  replace a:=a.k10
  refine yh (rAp a SL_38 e0 e0 rO1 G) fun O w a=>q 4 rfl ?_
  cases b
  exact E _ _ _ (fin1r results116 ⟨rfl,rfl⟩ ⟨_,rfl,(a.k11)⟩)
 rintro ⟨d,r,j⟩ h g w B a c
 refine q 5 rfl (y (yLen SL_38 e0 a (rdI k)) (q 1 rfl (y (yLen SL_38 e0 a (rdI m)) (q 4 rfl (cI c (fun H c=>?_) fun H c=>?_)))))
 ·refine q 9 rfl (y (yLen SL_38 e0 a (rdI k)) (q 3 rfl ?_))
  refine jC Int [0,1,5,7] (fun o=>[(6,.int .u64 o)]) (fun o w=>St w0 ros (row 96 (rI .u32) h.v d::rs) w∧sparseref01_addMag_j6 j p d o=some B) rfl ?_ ?_
  ·rintro o g w ⟨a,b⟩
   refine q 6 rfl (y (yLen SL_38 e0 a (rdI m)) (q 3 rfl ?_))
   refine jC Int [0,1,5,7] (fun f=>[(6,.int .u64 f)]) (fun f w=>St w0 ros (row 96 (rI .u32) h.v d::rs) w∧sparseref01_addMag_j7 d j f=some B) rfl ?_ ?_
   ·rintro f g w ⟨a,b⟩
    refine q 6 rfl (yh (rLt (n:=1) (l:=[wc .u32 f]) a SL_38 [.int .u32 (wc .u32 f)] (bp1 e0) rfl rfl (mks1 (cs:=[.int .u32 (wc .u32 f)]) rfl mkI mks0)) fun R w a=>bE b fun S I b=>?_)
    replace a:=a.k10
    refine yh (rAp a SL_38 e0 e0 rO1 I) fun T w a=>q 15 rfl ?_
    cases b
    exact ln _ (a.k11)
   refine cI b (fun J b=>?_) fun J b=>?_
   ·exact q 4 rfl (bE b fun U C b=>y (yIa SL_38 e0 e0 a (rdI m) C) (y (yI O_96 e0 a (rdI m) C) (q 4 rfl (jx _ ⟨a,b⟩))))
   ·exact q 1 rfl (jx _ ⟨a,b⟩)
  refine cI c (fun K c=>?_) fun K c=>?_
  ·exact q 4 rfl (bE c fun V D c=>y (yIa SL_38 e0 e0 a (rdI k) D) (y (yI O_96 e0 a (rdI k) D) (q 4 rfl (jx _ ⟨a,c⟩))))
  ·exact q 1 rfl (jx _ ⟨a,c⟩)
 ·refine q 2 rfl ?_
  cases c
  exact lx _ a
end Go.Proofs.YtcoaljcfifecgagGreatDoor
