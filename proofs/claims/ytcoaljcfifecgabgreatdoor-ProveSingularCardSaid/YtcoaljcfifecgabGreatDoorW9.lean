/- Walks: each function computes its model, printed. -/
import Derived.Test.YtcoaljcfifecgabGreatDoorW8
namespace Go.Proofs.YtcoaljcfifecgabGreatDoor
open Go Sx M Go.Proofs.Tryz
set_option maxRecDepth 100000
set_option maxHeartbeats 40000000
set_option linter.unusedVariables false
attribute [local irreducible] wpList Code.wp Calls DR QR QS LA LS St row box fam imm rowS loop
variable {w0:World} {ros:List Fact} {rs:List Res} {w:World}
theorem w_ds {b:Bool} {d:LI} {f:Bool} {g:LI} {h i:Hdr} {out:Bool} (c:m_gv b d f g=some out) (k:imm (rI .u32) h.v d∈ros) (l:imm (rI .u32) i.v g∈ros) (a:St w0 ros rs w):
  Calls prog 137 #[.agg #[.bool b,h.v,.bool f,i.v]] w (fun e w=>e=.returned (.bool out)∧St w0 ros rs w):=by
 refine en func137 rfl ntmps137 fun Q j=>?_
 refine z 3 5 ?_;intro m w a n o c w a
 cases c
 exact za j results137 ⟨rfl,(a.k13)⟩
instance:CL prog 137 (type_of% @w_ds):=⟨@w_ds⟩
theorem w_dt {l m:LI} {n o:Hdr} {out:LI} (c:m_gy l m=some out) (I:imm (rI .u32) n.v l∈ros) (J:imm (rI .u32) o.v m∈ros) (a:St w0 ros rs w):
  Calls prog 138 #[n.v,o.v] w (fun e w=>∃ (p:Hdr),e=.returned (p.v)∧St w0 ros (row 94 (rI .u32) p.v out::rs) w):=by
 refine en func138 rfl ntmps138 fun Q x=>?_
 refine z 2 1 ?_
 refine bE c fun K A c=>yh (rMk a SL_47 e0 A) fun b w a=>bE c fun r B c=>q 10 rfl ?_
 refine lp B [0,1,5] (fun (f,h)=>[(6,iV h)]) (fun (f,h)=>St w0 ros (row 94 (rI .u32) b.v f::rs)) (fun | r=>(.exit 0,[],St w0 ros (row 94 (rI .u32) b.v r::rs))) rfl a rfl ?_ ?_
 ·clear a
  intro g w a
  refine q 9 rfl ?_
  cases c
  exact x _ _ _ (fin1r results138 ⟨rfl,rfl⟩ ⟨_,rfl,a⟩)
 rintro ⟨f,h⟩ g w L a c
 refine z 1 3 ?_
 refine cI c (fun C c=>?_) fun C c=>?_
 ·refine q 16 rfl ?_
  obtain ⟨⟨s,i⟩,D,c⟩:=bs c
  refine lp D [0,1,5,6] (fun (j,d,k)=>[(7,.int .u64 d),(8,iV k)]) (fun (j,d,k)=>St w0 ros (row 94 (rI .u32) b.v j::rs)) (fun | (s,i)=>(.exit 2,[(7,.int .u64 i)],St w0 ros (row 94 (rI .u32) b.v s::rs))) rfl a rfl ?_ ?_
  ·clear a
   intro g w a
   refine z 1 3 ?_
   refine bE c fun N t c=>y (yIs SL_47 e0 e0 a rO0 t) (yt (r_sti (cs:=[.int .u32 (wc .u32 i)]) a O_94 rfl e0 e0 rfl mkI t) fun w a=>q 8 rfl ?_)
   cases c
   exact lo a
  rintro ⟨j,d,k⟩ g w O a c
  refine z 1 3 ?_
  refine cI c (fun E c=>?_) fun E c=>?_
  ·refine q 5 rfl (bE c fun F R c=>bE c fun G S c=>bE c fun H T c=>dS [21] 1 folM ?_)
   replace a:=a.drew
   refine z 7 9 ?_
   refine bE c fun U u c=>y (yIs SL_47 e0 e0 a rO0 u) (yt (r_sti (cs:=[.int .u32 (wc .u32 (wa .u64 (wa .u64 d (wm .u64 (wc .u64 F) (wc .u64 G))) (wc .u64 H)))]) a O_94 rfl e0 e0 rfl mkI u) fun w a=>q 14 rfl ?_)
   cases c
   exact lo a
  ·refine q 2 rfl ?_
   cases c
   exact xo a
 ·refine q 2 rfl ?_
  cases c
  exact xo a
instance:CL prog 138 (type_of% @w_dt):=⟨@w_dt⟩
theorem w_du {b:Bool} {d:LI} {f:Bool} {g:LI} {h i:Hdr} {out:Bool×LI} (c:m_gz b d f g=some out) (l:imm (rI .u32) h.v d∈ros) (m:imm (rI .u32) i.v g∈ros) (a:St w0 ros rs w):
  Calls prog 103 #[.agg #[.bool b,h.v],.agg #[.bool f,i.v]] w (fun e w=>∃ (j:Hdr),e=.returned (.agg #[.bool out.1,j.v])∧St w0 ros (row 94 (rI .u32) j.v out.2::rs) w):=by
 refine en func103 rfl ntmps103 fun Q k=>?_
 refine z 3 3 ?_;intro n w a o w a p w a
 refine bE c fun q r c=>bE c fun s t c=>bE c fun u x c=>bE c fun y A c=>dS [7,10,11,12,13] 5 folM ?_
 replace a:=a.drew
 refine z 10 2 ?_;intro B w a C w a D w a E w a w a
 cases c
 exact k _ _ _ (fin1r results103 (rcs2 rfl rfl a R0 ST_49 rfl) ⟨_,rfl,((a.k14).fc)⟩)
instance:CL prog 103 (type_of% @w_du):=⟨@w_du⟩
theorem w_dv {d r:LI} {l s:Int} {b t:Hdr} {out:LI×Bool} (c:m_g3 d r l s=some out) (O:imm (rI .u32) t.v r∈ros) (a:St w0 ros (row 94 (rI .u32) b.v d::rs) w):
  Calls prog 177 #[b.v,t.v,iV l,.int .u64 s] w (fun e w=>e=.returned (.bool out.2)∧St w0 ros (row 94 (rI .u32) b.v out.1::rs) w):=by
 refine en func177 rfl ntmps177 fun Q u=>?_
 refine z 1 7 ?_
 refine bE c fun R D c=>yh (rMk a SL_47 e0 D) fun j w a=>q 16 rfl ?_
 obtain ⟨⟨m,x⟩,E,c⟩:=bs c
 refine lp E [0,1,2,3,9,10] (fun (f,h,n,k)=>[(11,.int .u64 h),(12,.int .u64 n),(13,iV k)]) (fun (f,h,n,k)=>St w0 ros (row 94 (rI .u32) b.v d::row 94 (rI .u32) j.v f::rs)) (fun | (m,x)=>(.exit 0,[(11,.int .u64 x)],St w0 ros (row 94 (rI .u32) b.v d::row 94 (rI .u32) j.v m::rs))) rfl (a.k16) rfl ?_ ?_
 ·clear a
  intro g w a
  refine q 9 rfl ?_
  refine cIn c (fun F c=>?_) fun F c=>?_
  ·refine q 9 rfl (bE c fun A G c=>?_)
   refine lp G [0,2,9,10] (fun (o,p)=>[(15,iV p)]) (fun (o,p)=>St w0 ros (row 94 (rI .u32) b.v o::row 94 (rI .u32) j.v m::rs)) (fun | A=>(.exit 2,[],St w0 ros (row 94 (rI .u32) b.v A::rs))) rfl a rfl ?_ ?_
   ·clear a
    intro g w a
    refine q 8 rfl ?_
    cases c
    exact za u results177 ⟨rfl,a⟩
   rintro ⟨o,p⟩ g w S a c
   refine q 8 rfl (cI c (fun H c=>?_) fun H c=>?_)
   ·refine z 2 0 ?_;intro I T c
    refine bE c fun U B c=>y (yIs SL_47 e0 e0 a rO0 B) (yt (r_sti (cs:=[.int .u32 I]) a O_94 rfl e0 e0 rfl mkI B) fun w a=>q 8 rfl ?_)
    cases c
    exact lo a
   ·refine q 2 rfl ?_
    cases c
    exact xo (a.k10)
  ·refine q 7 rfl ?_
   cases c
   exact za u results177 ⟨rfl,(a.k10)⟩
 rintro ⟨f,h,n,k⟩ g w J a c
 refine q 8 rfl (cI c (fun K c=>?_) fun K c=>?_)
 ·refine q 12 rfl ?_
  refine jC Int [0,1,2,3,9,10,11,13] (fun i=>[(12,.int .u64 i)]) (fun i w=>St w0 ros (row 94 (rI .u32) b.v d::row 94 (rI .u32) j.v f::rs) w∧m_g1 d k l f h i=some J) rfl ?_ ?_
  ·rintro i g w ⟨a,c⟩
   refine z 2 22 ?_;intro L V c
   refine bE c fun W C c=>y (yIs SL_47 e0 e0 a rO1 C) ?_
   replace a:=a.k16
   refine yt (r_sti (cs:=[.int .u32 (wc .u32 (ws .u64 (ws .u64 (wc .u64 L) h) (wand .u64 i 4294967295)))]) a O_94 rfl e0 e0 rfl mkI C) fun w a=>q 14 rfl ?_
   cases c
   exact lo (a.k16)
  refine cI c (fun N c=>?_) fun N c=>?_
  ·refine z 2 5 ?_;intro X Z c
   exact jx _ ⟨a,c⟩
  ·exact q 1 rfl (jx _ ⟨a,c⟩)
 ·refine q 2 rfl ?_
  cases c
  exact xo a
instance:CL prog 177 (type_of% @w_dv):=⟨@w_dv⟩
theorem w_dw {p b:LI} {A B:Hdr} {out:LI×LI} (c:m_g7 p b=some out) (f:imm (rI .u32) A.v p∈ros) (h:imm (rI .u32) B.v b∈ros) (a:St w0 ros rs w):
  Calls prog 163 #[A.v,B.v] w (fun e w=>∃ (C D:Hdr),e=.returned (.tuple #[C.v,D.v])∧St w0 (imm (rI .u32) D.v out.2::ros) (row 94 (rI .u32) C.v out.1::rs) w):=by
 refine en func163 rfl ntmps163 fun Q E=>bE c fun b3 O c=>q 11 rfl (cZ (w_o O f h a) fun w a=>q 3 rfl (cI c (fun R c=>?_) fun R c=>?_))
 ·refine q 9 rfl ?_
  cases c
  replace a:=a.rowNh 94 (rI .u32)
  exact E _ _ _ (fin2r results163 ⟨rfl,rfl⟩ ⟨rfl,rfl⟩ ⟨_,_,rfl,(a.facts (allC f allI))⟩)
 ·refine q 5 rfl (y (yLen SL_47 e0 a (rdI h)) (bE c fun b4 F c=>q 8 rfl (y (yIa SL_47 e0 e0 a (rdI h) F) (y (yI O_94 e0 a (rdI h) F) (bE c fun S T c=>cZ (w_c4 T a) fun w a=>bE c fun b5 U c=>bE c fun b6 V c=>bE c fun i r c=>q 4 rfl (dS [2,5,8,9] 4 folM ?_))))))
  replace a:=a.drew
  refine D1 91 0 2 rfl (qR 5 rfl (Rn QSn (kO (w_k U f a) fun W w a=>dU (D1 0 88 5 rfl (Rn (qS rfl (qS rfl (qS rfl QSn))) (kO (w_k V h a) fun j w a=>dU (D1 128 64 8 rfl ?_)))))))
  replace a:=a.fz
  refine rQ rfl (ySl (k1:=.i64) SL_47 e0 a (rdI F0) (.inr ⟨rfl,rfl⟩) (.inl (congrArg some e0)) r) ?_
  replace a:=a.sub F0 r
  refine Rn (qS rfl QSn) (Ly wn (a_ W.v e0) (dU (D1 0 192 9 rfl (Rn (qS rfl (sY rfl (ySl (k1:=.i64) SL_47 e0 a (rdI F1) (.inr ⟨rfl,rfl⟩) (.inl (congrArg some e0)) r) QSn)) (Ly wn (a_ ((subH j 1 0 (b.length:Int)).v) e0) (dU (Dw 0 0 (Rn QSn (qx 5 rfl (y (yLen SL_47 e0 a rO0) (q 1 rfl (y (yLen SL_47 e0 a (rdI (F_2 f))) (q 3 rfl ?_)))))))))))))
  refine jC (LI×Hdr) [0,6,7,9] (fun (m,d)=>[(8,d.v)]) (fun (m,d) w=>St w0 (imm (rI .u32) (subH j 1 0 (b.length:Int)).v i::ros) (row 94 (rI .u32) d.v m::rs) w∧m_g6 p b i S m=some out) rfl ?_ ?_
  ·rintro ⟨m,d⟩ g w ⟨a,c⟩
   refine q 4 rfl (y (yLen SL_47 e0 a (rdI (mtF f))) (bE c fun b7 X c=>q 3 rfl (yh (rMk a SL_47 e0 X) fun o w a=>q 7 rfl (y (yLen SL_47 e0 a (rdI (mtF f))) (q 6 rfl ?_)))))
   obtain ⟨⟨G,H⟩,Z,c⟩:=bs c
   refine lp Z [6,7,8,9,10] (fun (s,k,t)=>[(11,iV t)]) (fun (s,k,t)=>St w0 (imm (rI .u32) (subH j 1 0 (b.length:Int)).v i::ros) (row 94 (rI .u32) d.v s::row 94 (rI .u32) o.v k::rs)) (fun | (G,H)=>(.exit 0,[],St w0 ros (row 94 (rI .u32) d.v G::row 94 (rI .u32) o.v H::rs))) rfl (a.k16) rfl ?_ ?_
   ·clear a
    intro g w a
    refine bE c fun b8 a0 c=>q 5 rfl ?_
    replace a:=a.fz
    refine cO (w_d a0 F0 a) fun b9 w a=>bE c fun c0 a1 c=>q 1 rfl ?_
    replace a:=a.fz
    refine cO (w_l a1 F0 a) fun c1 w a=>bE c fun c2 a2 c=>q 10 rfl ?_
    replace a:=(a.k16).fz
    refine cO (w_d a2 F0 a) fun c3 w a=>bE c fun c4 a3 c=>q 1 rfl ?_
    replace a:=(a.k16).fz
    refine cO (w_d a3 F0 a) fun c5 w a=>q 5 rfl ?_
    cases c
    replace a:=a.fz
    exact E _ _ _ (fin2r results163 ⟨rfl,rfl⟩ ⟨rfl,rfl⟩ ⟨_,_,rfl,(a.facts (allC F0 (allT (allT (allT (allT (allT allI)))))))⟩)
   rintro ⟨s,k,t⟩ g w c7 a c
   refine q 7 rfl (cI c (fun a4 c=>?_) fun a4 c=>?_)
   ·refine q 5 rfl (bE c fun a5 I c=>bE c fun a6 J c=>dS [17] 1 folM ?_)
    replace a:=a.drew
    refine D1 131071 0 17 rfl (qR 4 rfl (rQ rfl (yIa SL_47 e0 e0 a rO0 I) (rQ rfl (yI O_94 e0 a rO0 I) (qR 7 rfl (rQ rfl (yIa SL_47 e0 e0 a rO0 J) (rQ rfl (yI O_94 e0 a rO0 J) (qR 2 rfl (Rn QSn (Ly wn (a_ (.int .u64 (wor .u64 (wslc .u64 (wc .u64 a5) 32) (wc .u64 a6))) e0) (dU (Dw 0 0 (Rn QSn (bE c fun c8 K c=>?_)))))))))))))
    refine qx 7 rfl (y (yIa SL_47 e0 e0 a (rdI F0) K) (y (yI O_94 e0 a (rdI F0) K) (bE c fun c9 a7 c=>q 1 rfl (y (yquo e0 e0 a7) (q 6 rfl ?_)))))
    obtain ⟨⟨L,u⟩,a8,c⟩:=bs c
    refine lp a8 [6,7,8,9,10,11] (fun (x,z)=>[(13,.int .u64 z)]) (fun (x,z)=>St w0 (imm (rI .u32) (subH j 1 0 (b.length:Int)).v i::ros) (row 94 (rI .u32) d.v x::row 94 (rI .u32) o.v k::rs)) (fun | (L,u)=>(.exit 2,[(13,.int .u64 u)],St w0 (imm (rI .u32) (subH j 1 0 (b.length:Int)).v i::ros) (row 94 (rI .u32) d.v L::row 94 (rI .u32) o.v k::rs))) rfl a rfl ?_ ?_
    ·clear a
     intro g w a
     refine bE c fun d0 N c=>q 7 rfl (y (yIs SL_47 e0 e0 a rO1 N) ?_)
     replace a:=a.k16
     refine yt (r_sti (cs:=[.int .u32 (wc .u32 u)]) a O_94 rfl e0 e0 rfl mkI N) fun w a=>q 8 rfl ?_
     cases c
     exact lo (a.k16)
    rintro ⟨x,z⟩ g w d1 a c
    refine bE c fun d2 a9 c=>q 7 rfl (cZ (w_dv a9 F0 a) fun w a=>q 3 rfl ?_)
    refine cJn c (fun b0 c=>?_) fun b0 c=>?_
    ·refine q 2 rfl ?_
     cases c
     exact xo a
    ·refine q 9 rfl ?_
     cases c
     exact lo a
   ·refine q 2 rfl ?_
    cases c
    exact xo (a.fc)
  refine cI c (fun b1 c=>?_) fun b1 c=>?_
  ·refine q 2 rfl (yh (rLt (n:=1) (l:=[0]) a SL_47 [.int .u32 0] (bp1 rfl) rfl rfl (mks1 (cs:=[.int .u32 0]) rfl mkI mks0)) fun d3 w a=>bE c fun d4 b2 c=>?_)
   replace a:=a.k16
   exact yh (rAp a SL_47 e0 e0 rO1 b2) fun d5 w a=>q 2 rfl (jx (_,_) ⟨((a.k10).facts (allC F0 (allT (allT allI)))),c⟩)
  ·exact q 1 rfl (jx (_,_) ⟨(a.facts (allC F0 (allT (allT allI)))),c⟩)
instance:CL prog 163 (type_of% @w_dw):=⟨@w_dw⟩
theorem w_dx {K:Bool} {R:LI} {C:Bool} {S:LI} {L D:Hdr} {out:Bool×LI×Bool×LI} (c:m_ha K R C S=some out) (a1:imm (rI .u32) L.v R∈ros) (a2:imm (rI .u32) D.v S∈ros) (a:St w0 ros rs w):
  Calls prog 139 #[.agg #[.bool K,L.v],.agg #[.bool C,D.v]] w (fun e w=>∃ (T U:Hdr),e=.returned (.tuple #[.agg #[.bool out.1,T.v],.agg #[.bool out.2.2.1,U.v]])∧St w0 (imm (rI .u32) U.v out.2.2.2::ros) (row 94 (rI .u32) T.v out.2.1::rs) w):=by
 refine en func139 rfl ntmps139 fun Q a3=>?_
 refine z 4 3 ?_;intro b5 w a a4 w a N w a O w a
 refine bE c fun i a5 c=>bE c fun k a6 c=>dS [1,3,4,5] 4 folM ?_
 replace a:=a.drew
 refine D1 5 0 1 rfl (rQ rfl (lbs_ [.bool K,L.v] ST_49 e0 a R3) (rQ rfl (lbs_ [.bool C,D.v] ST_49 e0 a R2) (Rn QSn (kO (w_g a5 a1 a) fun V w a=>dU (D1 0 4 3 rfl (Rn (sY rfl (lbs_ [.bool C,D.v] ST_49 e0 a R3) QSn) (kO (w_g a6 a2 a) fun y w a=>dU (D0 0 0 4 rfl (Rn QSn ?_)))))))))
 replace a:=a.k3d
 refine LT wn (r_stbn (vals':=[.bool i.1,V.v]) (us:=[.bool i.1,V.v]) a ST_49 e0 e0 rfl rfl (one_of rfl) rfl) fun w a=>D0 0 0 5 rfl (Rn QSn ?_)
 replace a:=a.k3d
 refine LT wn (r_stbn (vals':=[.bool k.1,y.v]) (us:=[.bool k.1,y.v]) a ST_49 e0 e0 rfl rfl (one_of rfl) rfl) fun w a=>Dw 0 0 (Rn QSn (qx 0 rfl ?_))
 refine z 3 8 ?_;intro b6 c0 c c1 c2 w a
 refine bE c fun d A c=>bE c fun f j c=>?_
 refine jN (Nat×Hdr×Nat×Hdr) [3,4,5] (fun (t,l,u,x)=>[(8,(pB t)),(9,(pB u))]) (fun (t,l,u,x)=>St w0 (imm (rI .u32) y.v k.2::ros) (box a4 49 [.bool k.1,y.v]::box N 49 [.bool false,hnil.v]::box O 49 [.bool false,hnil.v]::row 94 (rI .u32) l.v d.2::box t 49 [.bool d.1,l.v]::row 94 (rI .u32) x.v f.2::box u 49 [.bool f.1,x.v]::rs)) rfl ?_ ?_
 ·refine dS [6,10,11,12,13,14] 6 folM ?_
  replace a:=a.drew
  refine Dm 959 0 [6,11,12] (qR 1 rfl (rQ rfl (lb_ (.bool i.1) O_4 e0 a R2) (qR 1 rfl (rQ rfl (lb_ (.bool k.1) O_4 e0 a R1) (rQ rfl (yneb (by kernel_rfl) e0 e0) (qR 2 rfl (rQ rfl (lb_ (.bool i.1) O_4 e0 a R2) (qR 1 rfl (Rn QSn ?_)))))))))
  refine La1 rfl ?_ (La1 rfl ?_ (La1 rfl ?_ LAn))
  ·replace a:=a.fz
   refine kO (w_e A F0 a) fun h w a=>dU (Dm 0 896 [10,11,12] (Rn (qS rfl (sY rfl (lb_ (.bool i.1) O_4 e0 a R2) (qS rfl QSn))) ?_))
   refine La1 rfl ?_ (La1 rfl ?_ (La1 rfl ?_ LAn))
   ·refine kO (w_e j F1 a) fun b w a=>dU (Dm 0 0 [11,12] (Rn QSn ?_))
    refine La1 rfl ?_ (La1 rfl ?_ LAn)
    ·refine LB wn (rAl a ZT_49) fun m w a=>dU (D1 0 0 12 rfl (Rn QSn (LB wn (rAl a ZT_49) fun n w a=>dU (D0 0 0 13 rfl (Rn QSn ?_)))))
     replace a:=a.k16
     refine LT wn (r_stbn (vals':=[.bool d.1,h.v]) (us:=[.bool d.1,h.v]) a ST_49 e0 e0 rfl rfl (one_of rfl) rfl) fun w a=>D0 0 0 14 rfl (Rn QSn ?_)
     replace a:=a.k16
     exact LT wn (r_stbn (vals':=[.bool f.1,b.v]) (us:=[.bool f.1,b.v]) a ST_49 e0 e0 rfl rfl (one_of rfl) rfl) fun w a=>Dw 0 0 (Rn QSn (jr (_,_,_,_) ((a.k3e).facts (allC F2 (allT (allT (allT (allT allI))))))))
    ·refine LB wn (rAl a ZT_49) fun n w a=>dU (D1 0 0 11 rfl (Rn QSn (LB wn (rAl a ZT_49) fun m w a=>dU (D0 0 0 13 rfl (Rn QSn (LT wn (r_stbn (vals':=[.bool d.1,h.v]) (us:=[.bool d.1,h.v]) a ST_49 e0 e0 rfl rfl (one_of rfl) rfl) fun w a=>D0 0 0 14 rfl (Rn QSn ?_)))))))
     replace a:=a.k16
     exact LT wn (r_stbn (vals':=[.bool f.1,b.v]) (us:=[.bool f.1,b.v]) a ST_49 e0 e0 rfl rfl (one_of rfl) rfl) fun w a=>Dw 0 0 (Rn QSn (jr (_,_,_,_) ((a.k3e).facts (allC F2 (allT (allT (allT (allT allI))))))))
   ·refine LB wn (rAl a ZT_49) fun m w a=>dU (Dm 0 896 [10,12] (Rn (qS rfl (sY rfl (lb_ (.bool i.1) O_4 e0 a R3) (qS rfl QSn))) ?_))
    refine La1 rfl ?_ (La1 rfl ?_ LAn)
    ·refine kO (w_e j F1 a) fun b w a=>dU (D1 0 0 12 rfl (Rn QSn (LB wn (rAl a ZT_49) fun n w a=>dU (D0 0 0 13 rfl (Rn QSn ?_)))))
     replace a:=a.k15
     refine LT wn (r_stbn (vals':=[.bool d.1,h.v]) (us:=[.bool d.1,h.v]) a ST_49 e0 e0 rfl rfl (one_of rfl) rfl) fun w a=>D0 0 0 14 rfl (Rn QSn ?_)
     replace a:=a.k16
     exact LT wn (r_stbn (vals':=[.bool f.1,b.v]) (us:=[.bool f.1,b.v]) a ST_49 e0 e0 rfl rfl (one_of rfl) rfl) fun w a=>Dw 0 0 (Rn QSn (jr (_,_,_,_) ((a.k3e).facts (allC F2 (allT (allT (allT (allT allI))))))))
    ·refine LB wn (rAl a ZT_49) fun n w a=>dU (D1 0 896 10 rfl (Rn (qS rfl (sY rfl (lb_ (.bool i.1) O_4 e0 a R4) (qS rfl QSn))) (kO (w_e j F1 a) fun b w a=>dU (D0 0 0 13 rfl (Rn QSn ?_)))))
     replace a:=a.k15
     refine LT wn (r_stbn (vals':=[.bool d.1,h.v]) (us:=[.bool d.1,h.v]) a ST_49 e0 e0 rfl rfl (one_of rfl) rfl) fun w a=>D0 0 0 14 rfl (Rn QSn ?_)
     replace a:=a.k15
     exact LT wn (r_stbn (vals':=[.bool f.1,b.v]) (us:=[.bool f.1,b.v]) a ST_49 e0 e0 rfl rfl (one_of rfl) rfl) fun w a=>Dw 0 0 (Rn QSn (jr (_,_,_,_) ((a.k3e).facts (allC F2 (allT (allT (allT (allT allI))))))))
   ·refine LB wn (rAl a ZT_49) fun n w a=>dU (Dm 0 896 [10,11] (Rn (qS rfl (sY rfl (lb_ (.bool i.1) O_4 e0 a R3) (qS rfl QSn))) ?_))
    refine La1 rfl ?_ (La1 rfl ?_ LAn)
    ·refine kO (w_e j F1 a) fun b w a=>dU (D1 0 0 11 rfl (Rn QSn (LB wn (rAl a ZT_49) fun m w a=>dU (D0 0 0 13 rfl (Rn QSn (LT wn (r_stbn (vals':=[.bool d.1,h.v]) (us:=[.bool d.1,h.v]) a ST_49 e0 e0 rfl rfl (one_of rfl) rfl) fun w a=>D0 0 0 14 rfl (Rn QSn ?_)))))))
     replace a:=a.k15
     exact LT wn (r_stbn (vals':=[.bool f.1,b.v]) (us:=[.bool f.1,b.v]) a ST_49 e0 e0 rfl rfl (one_of rfl) rfl) fun w a=>Dw 0 0 (Rn QSn (jr (_,_,_,_) ((a.k3e).facts (allC F2 (allT (allT (allT (allT allI))))))))
    ·refine LB wn (rAl a ZT_49) fun m w a=>dU (D1 0 896 10 rfl (Rn (qS rfl (sY rfl (lb_ (.bool i.1) O_4 e0 a R4) (qS rfl QSn))) (kO (w_e j F1 a) fun b w a=>dU (D0 0 0 13 rfl (Rn QSn ?_)))))
     replace a:=a.k16
     refine LT wn (r_stbn (vals':=[.bool d.1,h.v]) (us:=[.bool d.1,h.v]) a ST_49 e0 e0 rfl rfl (one_of rfl) rfl) fun w a=>D0 0 0 14 rfl (Rn QSn ?_)
     replace a:=a.k15
     exact LT wn (r_stbn (vals':=[.bool f.1,b.v]) (us:=[.bool f.1,b.v]) a ST_49 e0 e0 rfl rfl (one_of rfl) rfl) fun w a=>Dw 0 0 (Rn QSn (jr (_,_,_,_) ((a.k3e).facts (allC F2 (allT (allT (allT (allT allI))))))))
  ·refine LB wn (rAl a ZT_49) fun m w a=>dU (Dm 0 959 [6,12] (Rn (qS rfl (sY rfl (lb_ (.bool i.1) O_4 e0 a R3) (qS rfl (sY rfl (lb_ (.bool k.1) O_4 e0 a R2) (sY rfl (yneb (by kernel_rfl) e0 e0) (qS rfl (qS rfl (sY rfl (lb_ (.bool i.1) O_4 e0 a R3) (qS rfl QSn))))))))) ?_))
   refine La1 rfl ?_ (La1 rfl ?_ LAn)
   ·replace a:=a.k16
    replace a:=a.fz
    refine kO (w_e A F0 a) fun h w a=>dU (Dm 0 896 [10,12] (Rn (qS rfl (sY rfl (lb_ (.bool i.1) O_4 e0 a R3) (qS rfl QSn))) ?_))
    refine La1 rfl ?_ (La1 rfl ?_ LAn)
    ·refine kO (w_e j F1 a) fun b w a=>dU (D1 0 0 12 rfl (Rn QSn (LB wn (rAl a ZT_49) fun n w a=>dU (D0 0 0 13 rfl (Rn QSn ?_)))))
     replace a:=a.k1e
     refine LT wn (r_stbn (vals':=[.bool d.1,h.v]) (us:=[.bool d.1,h.v]) a ST_49 e0 e0 rfl rfl (one_of rfl) rfl) fun w a=>D0 0 0 14 rfl (Rn QSn ?_)
     replace a:=a.k16
     exact LT wn (r_stbn (vals':=[.bool f.1,b.v]) (us:=[.bool f.1,b.v]) a ST_49 e0 e0 rfl rfl (one_of rfl) rfl) fun w a=>Dw 0 0 (Rn QSn (jr (_,_,_,_) ((a.k3e).facts (allC F2 (allT (allT (allT (allT allI))))))))
    ·refine LB wn (rAl a ZT_49) fun n w a=>dU (D1 0 896 10 rfl (Rn (qS rfl (sY rfl (lb_ (.bool i.1) O_4 e0 a R4) (qS rfl QSn))) (kO (w_e j F1 a) fun b w a=>dU (D0 0 0 13 rfl (Rn QSn ?_)))))
     replace a:=a.k1e
     refine LT wn (r_stbn (vals':=[.bool d.1,h.v]) (us:=[.bool d.1,h.v]) a ST_49 e0 e0 rfl rfl (one_of rfl) rfl) fun w a=>D0 0 0 14 rfl (Rn QSn ?_)
     replace a:=a.k15
     exact LT wn (r_stbn (vals':=[.bool f.1,b.v]) (us:=[.bool f.1,b.v]) a ST_49 e0 e0 rfl rfl (one_of rfl) rfl) fun w a=>Dw 0 0 (Rn QSn (jr (_,_,_,_) ((a.k3e).facts (allC F2 (allT (allT (allT (allT allI))))))))
   ·refine LB wn (rAl a ZT_49) fun n w a=>dU (D1 0 959 6 rfl (Rn (qS rfl (sY rfl (lb_ (.bool i.1) O_4 e0 a R4) (qS rfl (sY rfl (lb_ (.bool k.1) O_4 e0 a R3) (sY rfl (yneb (by kernel_rfl) e0 e0) (qS rfl (qS rfl (sY rfl (lb_ (.bool i.1) O_4 e0 a R4) (qS rfl QSn))))))))) ?_))
    replace a:=(a.k15).fz
    refine kO (w_e A F0 a) fun h w a=>dU (D1 0 896 10 rfl (Rn (qS rfl (sY rfl (lb_ (.bool i.1) O_4 e0 a R4) (qS rfl QSn))) (kO (w_e j F1 a) fun b w a=>dU (D0 0 0 13 rfl (Rn QSn ?_)))))
    replace a:=a.k1e
    refine LT wn (r_stbn (vals':=[.bool d.1,h.v]) (us:=[.bool d.1,h.v]) a ST_49 e0 e0 rfl rfl (one_of rfl) rfl) fun w a=>D0 0 0 14 rfl (Rn QSn ?_)
    replace a:=a.k1e
    exact LT wn (r_stbn (vals':=[.bool f.1,b.v]) (us:=[.bool f.1,b.v]) a ST_49 e0 e0 rfl rfl (one_of rfl) rfl) fun w a=>Dw 0 0 (Rn QSn (jr (_,_,_,_) ((a.k3e).facts (allC F2 (allT (allT (allT (allT allI))))))))
  ·refine LB wn (rAl a ZT_49) fun n w a=>dU (Dm 0 959 [6,11] (Rn (qS rfl (sY rfl (lb_ (.bool i.1) O_4 e0 a R3) (qS rfl (sY rfl (lb_ (.bool k.1) O_4 e0 a R2) (sY rfl (yneb (by kernel_rfl) e0 e0) (qS rfl (qS rfl (sY rfl (lb_ (.bool i.1) O_4 e0 a R3) (qS rfl QSn))))))))) ?_))
   refine La1 rfl ?_ (La1 rfl ?_ LAn)
   ·replace a:=a.k16
    replace a:=a.fz
    refine kO (w_e A F0 a) fun h w a=>dU (Dm 0 896 [10,11] (Rn (qS rfl (sY rfl (lb_ (.bool i.1) O_4 e0 a R3) (qS rfl QSn))) ?_))
    refine La1 rfl ?_ (La1 rfl ?_ LAn)
    ·refine kO (w_e j F1 a) fun b w a=>dU (D1 0 0 11 rfl (Rn QSn (LB wn (rAl a ZT_49) fun m w a=>dU (D0 0 0 13 rfl (Rn QSn (LT wn (r_stbn (vals':=[.bool d.1,h.v]) (us:=[.bool d.1,h.v]) a ST_49 e0 e0 rfl rfl (one_of rfl) rfl) fun w a=>D0 0 0 14 rfl (Rn QSn ?_)))))))
     replace a:=a.k1e
     exact LT wn (r_stbn (vals':=[.bool f.1,b.v]) (us:=[.bool f.1,b.v]) a ST_49 e0 e0 rfl rfl (one_of rfl) rfl) fun w a=>Dw 0 0 (Rn QSn (jr (_,_,_,_) ((a.k3e).facts (allC F2 (allT (allT (allT (allT allI))))))))
    ·refine LB wn (rAl a ZT_49) fun m w a=>dU (D1 0 896 10 rfl (Rn (qS rfl (sY rfl (lb_ (.bool i.1) O_4 e0 a R4) (qS rfl QSn))) (kO (w_e j F1 a) fun b w a=>dU (D0 0 0 13 rfl (Rn QSn ?_)))))
     replace a:=a.k16
     refine LT wn (r_stbn (vals':=[.bool d.1,h.v]) (us:=[.bool d.1,h.v]) a ST_49 e0 e0 rfl rfl (one_of rfl) rfl) fun w a=>D0 0 0 14 rfl (Rn QSn ?_)
     replace a:=a.k1e
     exact LT wn (r_stbn (vals':=[.bool f.1,b.v]) (us:=[.bool f.1,b.v]) a ST_49 e0 e0 rfl rfl (one_of rfl) rfl) fun w a=>Dw 0 0 (Rn QSn (jr (_,_,_,_) ((a.k3e).facts (allC F2 (allT (allT (allT (allT allI))))))))
   ·refine LB wn (rAl a ZT_49) fun m w a=>dU (D1 0 959 6 rfl (Rn (qS rfl (sY rfl (lb_ (.bool i.1) O_4 e0 a R4) (qS rfl (sY rfl (lb_ (.bool k.1) O_4 e0 a R3) (sY rfl (yneb (by kernel_rfl) e0 e0) (qS rfl (qS rfl (sY rfl (lb_ (.bool i.1) O_4 e0 a R4) (qS rfl QSn))))))))) ?_))
    replace a:=(a.k15).fz
    refine kO (w_e A F0 a) fun h w a=>dU (D1 0 896 10 rfl (Rn (qS rfl (sY rfl (lb_ (.bool i.1) O_4 e0 a R4) (qS rfl QSn))) (kO (w_e j F1 a) fun b w a=>dU (D0 0 0 13 rfl (Rn QSn ?_)))))
    replace a:=a.k15
    refine LT wn (r_stbn (vals':=[.bool d.1,h.v]) (us:=[.bool d.1,h.v]) a ST_49 e0 e0 rfl rfl (one_of rfl) rfl) fun w a=>D0 0 0 14 rfl (Rn QSn ?_)
    replace a:=a.k1e
    exact LT wn (r_stbn (vals':=[.bool f.1,b.v]) (us:=[.bool f.1,b.v]) a ST_49 e0 e0 rfl rfl (one_of rfl) rfl) fun w a=>Dw 0 0 (Rn QSn (jr (_,_,_,_) ((a.k3e).facts (allC F2 (allT (allT (allT (allT allI))))))))
 rintro ⟨t,l,u,x⟩ g w a
 refine z 2 3 ?_;intro c3 c4 c w a
 refine jC (Bool×LI×Bool×LI×Hdr×Hdr) [4,5,8,9] (fun (r,E,o,F,s,p)=>[]) (fun (r,E,o,F,s,p) w=>St w0 (imm (rI .u32) p.v F::ros) (box N 49 [.bool false,hnil.v]::box O 49 [.bool false,hnil.v]::row 94 (rI .u32) s.v E::box t 49 [.bool r,s.v]::box u 49 [.bool o,p.v]::rs) w∧m_g8 r E o F=some out) rfl ?_ ?_
 ·rintro ⟨r,E,o,F,s,p⟩ g w ⟨a,c⟩
  refine q 2 rfl (dS [2,3] 2 folM ?_)
  replace a:=a.drew
  refine D0 3 0 2 rfl (rQ rfl (lbs_ [.bool r,s.v] ST_49 e0 a R3) (rQ rfl (lbs_ [.bool o,p.v] ST_49 e0 a R4) (Rn QSn (LT wn (r_stbn (vals':=[.bool r,s.v]) (us:=[.bool r,s.v]) a ST_49 e0 e0 rfl rfl (one_of rfl) rfl) fun w a=>D0 0 2 3 rfl (Rn (sY rfl (lbs_ [.bool o,p.v] ST_49 e0 a R4) QSn) ?_)))))
  replace a:=a.k16
  refine LT wn (r_stbn (vals':=[.bool o,p.v]) (us:=[.bool o,p.v]) a ST_49 e0 e0 rfl rfl (one_of rfl) rfl) fun w a=>Dw 0 0 (Rn QSn (qx 2 rfl ?_))
  cases c
  exact a3 _ _ _ (fin2r results139 (rcs2 rfl rfl a R1 ST_49 rfl) (rcs2 rfl rfl a R0 ST_49 rfl) ⟨_,_,rfl,(a.k3f)⟩)
 refine cI c (fun a7 c=>?_) fun a7 c=>?_
 ·refine q 1 rfl (bE c fun c5 a8 c=>bE c fun B a9 c=>dS [2,3,4] 3 folM ?_)
  replace a:=a.drew
  refine D1 3 0 2 rfl (rQ rfl (lbs_ [.bool f.1,x.v] ST_49 e0 a R5) (rQ rfl (lbs_ [.bool k.1,y.v] ST_49 e0 a R0) (Rn QSn (kO (w_j a8 F1 a) fun c6 w a=>dU (D1 0 1 3 rfl (Rn (sY rfl (lbs_ [.bool f.1,x.v] ST_49 e0 a R6) QSn) ?_))))))
  replace a:=a.fz
  refine kO (w_q a9 F1 F0 a) fun G w a=>dU (D0 0 0 4 rfl (Rn QSn ?_))
  replace a:=a.k27
  refine LT wn (r_stbn (vals':=[.bool B.1,G.v]) (us:=[.bool B.1,G.v]) a ST_49 e0 e0 rfl rfl (one_of rfl) rfl) fun w a=>Dw 0 0 (Rn QSn (qx 0 rfl ?_))
  refine z 1 2 ?_
  refine jC (Bool×LI×Hdr) [4,5,8,9] (fun (H,I,J)=>[]) (fun (H,I,J) w=>St w0 ros (box N 49 [.bool false,hnil.v]::box O 49 [.bool false,hnil.v]::row 94 (rI .u32) J.v I::box t 49 [.bool H,J.v]::row 94 (rI .u32) G.v B.2::box u 49 [.bool B.1,G.v]::rs) w∧m_g9 B H I=some out) rfl ?_ ?_
  ·rintro ⟨H,I,J⟩ g w ⟨a,c⟩
   replace a:=(a.k1f).fz
   exact jx (_,_,_,_,_,_) ⟨a,c⟩
  refine cJ c (fun b0 c=>?_) fun b0 c=>?_
  ·refine bE c fun c7 b1 c=>bE c fun W b2 c=>dS [1,2,3] 3 folM ?_
   replace a:=a.drew
   refine D1 1 0 1 rfl (rQ rfl (lbs_ [.bool d.1,l.v] ST_49 e0 a R6) (Rn QSn (kO (w_f b1 a) fun c8 w a=>dU (D1 0 1 2 rfl (Rn (sY rfl (lbs_ [.bool d.1,l.v] ST_49 e0 a R7) QSn) ?_)))))
   replace a:=((a.k27).fz).fz
   refine kO (w_q b2 F1 F0 a) fun X w a=>dU (D0 0 0 3 rfl (Rn QSn ?_))
   replace a:=a.k27
   exact LT wn (r_stbn (vals':=[.bool W.1,X.v]) (us:=[.bool W.1,X.v]) a ST_49 e0 e0 rfl rfl (one_of rfl) rfl) fun w a=>Dw 0 0 (Rn QSn (qx 0 rfl (jx (_,_,_) ⟨((a.k3g).fc),c⟩)))
  ·refine bE c fun c9 b3 c=>bE c fun Z b4 c=>dS [1,2,3] 3 folM ?_
   replace a:=a.drew
   refine D1 1 0 1 rfl (rQ rfl (lbs_ [.bool d.1,l.v] ST_49 e0 a R6) (Rn QSn (kO (w_f b3 a) fun d0 w a=>dU (D1 0 1 2 rfl (Rn (sY rfl (lbs_ [.bool d.1,l.v] ST_49 e0 a R7) QSn) ?_)))))
   replace a:=((a.k27).fz).fz
   refine kO (w_r b4 F1 F0 a) fun a0 w a=>dU (D0 0 0 3 rfl (Rn QSn ?_))
   replace a:=a.k27
   exact LT wn (r_stbn (vals':=[.bool Z.1,a0.v]) (us:=[.bool Z.1,a0.v]) a ST_49 e0 e0 rfl rfl (one_of rfl) rfl) fun w a=>Dw 0 0 (Rn QSn (qx 0 rfl (jx (_,_,_) ⟨((a.k3g).fc),c⟩)))
 ·exact q 1 rfl (jx (_,_,_,_,_,_) ⟨((a.k3h).facts (allC F0 (allT (allT allI)))),c⟩)
instance:CL prog 139 (type_of% @w_dx):=⟨@w_dx⟩
theorem w_dy {r:Bool} {s:LI} {t:Bool} {u:LI} {x y:Hdr} {out:Bool×LI} (c:m_hc r s t u=some out) (I:imm (rI .u32) x.v s∈ros) (J:imm (rI .u32) y.v u∈ros) (a:St w0 ros rs w):
  Calls prog 105 #[.agg #[.bool r,x.v],.agg #[.bool t,y.v]] w (fun e w=>∃ (A:Hdr),e=.returned (.agg #[.bool out.1,A.v])∧St w0 (imm (rI .u32) A.v out.2::ros) rs w):=by
 refine en func105 rfl ntmps105 fun Q F=>?_
 refine z 3 3 ?_;intro K w a L w a k w a
 refine bE c fun B N c=>bE c fun C O c=>?_
 refine jN (Nat×Hdr×Nat×Hdr) [4] (fun (b,f,d,h)=>[(5,(pB b)),(6,(pB d))]) (fun (b,f,d,h)=>St w0 ros (box k 49 [.bool false,hnil.v]::row 94 (rI .u32) f.v B.2::box b 49 [.bool B.1,f.v]::row 94 (rI .u32) h.v C.2::box d 49 [.bool C.1,h.v]::rs)) rfl ?_ ?_
 ·refine dS [1,3,4,5,6,7] 6 folM ?_
  replace a:=a.drew
  exact zx
 rintro ⟨b,f,d,h⟩ g w a
 refine q 3 rfl ?_
 obtain ⟨⟨D,E⟩,G,c⟩:=bs c
 replace a:=(((a.k16).fz).k15).fz
 refine lpN (Hdr×Hdr) Hdr G [4,5,6] (fun (l,m,n,o) (i,j)=>[]) (fun (l,m,n,o) (i,j)=>St w0 (imm (rI .u32) i.v m::imm (rI .u32) j.v o::ros) (box k 49 [.bool false,hnil.v]::box b 49 [.bool l,i.v]::box d 49 [.bool n,j.v]::rs)) (fun | (D,E),p=>(.exit 0,[],St w0 (imm (rI .u32) p.v E::ros) (box k 49 [.bool false,hnil.v]::box b 49 [.bool D,p.v]::rs))) rfl (_,_) (a.facts (allC F1 (allC F0 (allT (allT allI))))) rfl ?_ ?_
 ·clear a
  rintro p g w a
  refine z 2 3 ?_;intro w a
  cases c
  exact F _ _ _ (fin1r results105 (rcs2 rfl rfl a R0 ST_49 rfl) ⟨_,rfl,(a.k19)⟩)
 rintro ⟨l,m,n,o⟩ ⟨i,j⟩ g w R a c
 refine z 2 3 ?_;intro S T c w a
 refine cIn c (fun H c=>?_) fun H c=>?_
 ·refine q 2 rfl ?_
  cases c
  exact lx _ ((a.k1d).facts (allC F0 (allT (allT allI))))
 ·refine z 7 2 ?_;intro U V c W X w a Z w a a0 w a w a w a
  refine dS [2,3] 2 folM ?_
  replace a:=a.drew
  refine z 4 1 ?_;intro w a w a
  cases c
  exact ln (_,_) ((a.k3i).facts (allC F2 (allC F0 (allT (allT (allT allI))))))
instance:CL prog 105 (type_of% @w_dy):=⟨@w_dy⟩
theorem w_dz {b:Bool} {d:LI} {f:Bool} {g:LI} {h i:Hdr} {out:Bool×LI×Bool} (c:m_hd b d f g=some out) (m:imm (rI .u32) h.v d∈ros) (n:imm (rI .u32) i.v g∈ros) (a:St w0 ros rs w):
  Calls prog 104 #[.agg #[.bool b,h.v],.agg #[.bool f,i.v]] w (fun e w=>∃ (j:Hdr),e=.returned (.tuple #[.agg #[.bool out.1,j.v],.bool out.2.2])∧St w0 ros (row 94 (rI .u32) j.v out.2.1::rs) w):=by
 refine en func104 rfl ntmps104 fun Q k=>?_
 refine z 12 3 ?_;intro o w a p w a q w a r s c t u w a x w a y w a w a w a A B c w a
 refine cIn c (fun l c=>?_) fun l c=>?_
 ·refine z 2 4 ?_;intro w a
  cases c
  exact k _ _ _ (fin2r results104 (rcs2 rfl rfl a R0 ST_49 rfl) ⟨rfl,rfl⟩ ⟨_,rfl,((a.k3j).fc)⟩)
 ·refine z 2 5 ?_;intro w a
  cases c
  replace a:=a.rowNh 94 (rI .u32)
  exact k _ _ _ (fin2r results104 (rcs2 rfl rfl a R1 ST_49 rfl) ⟨rfl,rfl⟩ ⟨_,rfl,((a.k3k).fc)⟩)
instance:CL prog 104 (type_of% @w_dz):=⟨@w_dz⟩
theorem w_d0 {b:Bool} {j:LI} {d:Bool} {k:LI} {l m:Hdr} {out:Bool×LI×Bool×LI} (c:m_hf b j d k=some out) (y:imm (rI .u32) l.v j∈ros) (A:imm (rI .u32) m.v k∈ros) (a:St w0 ros rs w):
  Calls prog 102 #[.agg #[.bool b,l.v],.agg #[.bool d,m.v]] w (fun e w=>∃ (n o:Hdr),e=.returned (.agg #[.bool out.1,n.v,.bool out.2.2.1,o.v])∧St w0 ros (row 94 (rI .u32) n.v out.2.1::row 94 (rI .u32) o.v out.2.2.2::rs) w):=by
 refine en func102 rfl ntmps102 fun Q p=>?_
 refine z 10 3 ?_;intro r w a s w a t w a B C c D w a u w a w a E F c w a
 refine jC (Bool×LI×Hdr) [2,3,4,5] (fun (f,h,i)=>[]) (fun (f,h,i) w=>St w0 (imm (rI .u32) i.v h::ros) (box r 49 [.bool b,l.v]::box s 49 [.bool d,m.v]::box t 132 [.bool false,hnil.v,.bool false,hnil.v]::box u 49 [.bool f,i.v]::rs) w∧m_he b j d k f h=some out) rfl ?_ ?_
 ·rintro ⟨f,h,i⟩ g w ⟨a,c⟩
  refine z 14 3 ?_;intro G H c I w a J w a w a K L c N w a O w a w a w a
  cases c
  exact p _ _ _ (fin1r results102 (rcs2 rfl rfl a R0 ST_132 rfl) ⟨_,_,rfl,((a.k3l).fc)⟩)
 refine cI c (fun x c=>?_) fun x c=>?_
 ·refine z 3 1 ?_;intro R S c T w a w a
  replace a:=(a.k16).fz
  exact jx (_,_,_) ⟨((a.k22).facts (allC F0 (allT (allT allI)))),c⟩
 ·exact q 1 rfl (jx (_,_,_) ⟨(a.k22),c⟩)
instance:CL prog 102 (type_of% @w_d0):=⟨@w_d0⟩
theorem w_d1 {i:Bool} {m:LI} {j:Bool} {n:LI} {o:Bool} {p:LI} {r:Bool} {s:LI} {t:Bool} {u:LI} {x:Bool} {y:LI} {A:Bool} {B:LI} {C:Bool} {D:LI} {k l E F G H I J:Hdr} {out:Bool×LI×Bool×LI} (c:m_hg i m j n o p r s t u x y A B C D=some out) (S:imm (rI .u32) k.v m∈ros) (T:imm (rI .u32) l.v n∈ros) (U:imm (rI .u32) E.v p∈ros) (V:imm (rI .u32) F.v s∈ros) (W:imm (rI .u32) G.v u∈ros) (X:imm (rI .u32) H.v y∈ros) (Z:imm (rI .u32) I.v B∈ros) (a0:imm (rI .u32) J.v D∈ros) (a:St w0 ros rs w):
  Calls prog 101 #[.agg #[.bool i,k.v,.bool j,l.v],.agg #[.bool o,E.v,.bool r,F.v],.agg #[.bool t,G.v,.bool x,H.v],.agg #[.bool A,I.v,.bool C,J.v]] w (fun e w=>∃ (K L:Hdr),e=.returned (.agg #[.bool out.1,K.v,.bool out.2.2.1,L.v])∧St w0 ros (row 94 (rI .u32) K.v out.2.1::row 94 (rI .u32) L.v out.2.2.2::rs) w):=by
 refine en func101 rfl ntmps101 fun Q N=>?_
 refine z 5 3 ?_;intro O w a a1 w a a2 w a a3 w a R w a
 refine bE c fun a4 a5 c=>bE c fun a6 a7 c=>bE c fun a8 a9 c=>bE c fun b0 b1 c=>bE c fun b b2 c=>?_
 refine jN (Nat×Hdr×Hdr) [4,8] (fun (d,f,h)=>[(9,(pB d))]) (fun (d,f,h)=>St w0 ros (box O 132 [.bool i,k.v,.bool j,l.v]::box R 132 [.bool false,hnil.v,.bool false,hnil.v]::row 94 (rI .u32) f.v b.2.1::row 94 (rI .u32) h.v b.2.2.2::box d 132 [.bool b.1,f.v,.bool b.2.2.1,h.v]::rs)) rfl ?_ ?_
 ·refine dS [4,7,12,15,16,17,18] 7 folM ?_
  replace a:=a.drew
  exact zx
 rintro ⟨d,f,h⟩ g w a
 refine bE c fun b3 b4 c=>bE c fun b5 b6 c=>bE c fun b7 b8 c=>bE c fun b9 c0 c=>bE c fun c1 c2 c=>q 2 rfl (dS [4,9,10,15,16,17] 6 folM ?_)
 replace a:=a.drew
 refine z 12 2 ?_;intro c3 w a c4 w a c5 w a c6 w a c7 c8 w a w a
 cases c
 exact N _ _ _ (fin1r results101 (rcs2 rfl rfl a R0 ST_132 rfl) ⟨_,_,rfl,((a.k3m).fc)⟩)
instance:CL prog 101 (type_of% @w_d1):=⟨@w_d1⟩
theorem w_d2 {d8:List (List (Bool×LI×Bool×LI))} {b8:Int} {d:Hdr} {d9:List Hdr} {out:(List (List (Bool×LI×Bool×LI)))×LI×Bool×LI×Bool×LI} (c:m_hn d8 b8=some out) (a:St w0 ros (row 135 rH d.v d9::fam 132 (rP rB (rP (rS (rI .u32)) (rP rB (rS (rI .u32))))) d9 d8::rs) w):
  Calls prog 100 #[d.v,iV b8] w (fun e w=>∃ (e1:List Hdr) (e2 e3 e4:Hdr),e=.returned (.tuple #[e2.v,.agg #[.bool out.2.2.1,e3.v,.bool out.2.2.2.2.1,e4.v]])∧St w0 ros (row 135 rH d.v e1::fam 132 (rP rB (rP (rS (rI .u32)) (rP rB (rS (rI .u32))))) e1 out.1::row 3 I1 e2.v out.2.1::row 94 (rI .u32) e3.v out.2.2.2.1::row 94 (rI .u32) e4.v out.2.2.2.2.2::rs) w):=by
 refine en func100 rfl ntmps100 fun Q h4=>?_
 refine z 6 14 ?_;intro k w a k6 k7 c k8 w a k9 l0 c l1 w a m w a w a
 obtain ⟨⟨e5,H,e6,I,e7,e8⟩,h5,c⟩:=bs c
 replace a:=a.rowNh 3 I1
 refine lpN ((List Hdr)×Hdr×Hdr×Hdr) ((List Hdr)×Hdr×Hdr×Hdr) h5 [0,1,5,6] (fun (J,K,L,p,A,h,B) (r,s,f,i)=>[(7,i.v),(8,iV B)]) (fun (J,K,L,p,A,h,B) (r,s,f,i)=>St w0 ros (row 135 rH d.v r::fam 132 (rP rB (rP (rS (rI .u32)) (rP rB (rS (rI .u32))))) r J::box k 132 [.bool false,hnil.v,.bool false,hnil.v]::row 94 (rI .u32) s.v L::row 94 (rI .u32) f.v A::box m 132 [.bool K,s.v,.bool p,f.v]::row 3 I1 i.v h::rs)) (fun | (e5,H,e6,I,e7,e8),(b9,D,E,S)=>(.exit 0,[(7,S.v)],St w0 ros (row 135 rH d.v b9::fam 132 (rP rB (rP (rS (rI .u32)) (rP rB (rS (rI .u32))))) b9 e5::box k 132 [.bool false,hnil.v,.bool false,hnil.v]::row 94 (rI .u32) D.v e6::row 94 (rI .u32) E.v e7::box m 132 [.bool H,D.v,.bool I,E.v]::row 3 I1 S.v e8::rs))) rfl (_,_,_,_) (a.k3n) rfl ?_ ?_
 ·clear a
  rintro ⟨b9,D,E,S⟩ g w a
  refine q 3 rfl (dS [2,3] 2 folM ?_)
  replace a:=a.drew
  refine D1 3 0 2 rfl (qR 1 rfl (rQ rfl (lbs_ [.bool H,D.v,.bool I,E.v] ST_132 e0 a R5) (Rn QSn (Ly wn (a_ S.v e0) (dU (D0 0 2 3 rfl (Rn (sY rfl (lbs_ [.bool H,D.v,.bool I,E.v] ST_132 e0 a R5) QSn) ?_)))))))
  replace a:=a.k15
  refine LT wn (r_stbn (vals':=[.bool H,D.v,.bool I,E.v]) (us:=[.bool H,D.v,.bool I,E.v]) a ST_132 e0 e0 rfl rfl (one_of rfl) rfl) fun w a=>Dw 0 0 (Rn QSn (qx 2 rfl ?_))
  cases c
  exact h4 _ _ _ (fin2r results100 ⟨rfl,rfl⟩ (rcs2 rfl rfl a R0 ST_132 rfl) ⟨_,_,_,_,rfl,(a.k3o)⟩)
 rintro ⟨J,K,L,p,A,h,B⟩ ⟨r,s,f,i⟩ g w e9 a c
 refine q 8 rfl (cI c (fun h6 c=>?_) fun h6 c=>?_)
 ·refine q 3 rfl ?_
  refine jC ((List (List (Bool×LI×Bool×LI)))×Bool×LI×Bool×LI×LI×(List Hdr)×Hdr×Hdr×Hdr) [0,1,5,6,8] (fun (T,U,V,W,X,Z,a0,a1,a2,a3)=>[(7,a3.v)]) (fun (T,U,V,W,X,Z,a0,a1,a2,a3) w=>St w0 ros (row 135 rH d.v a0::fam 132 (rP rB (rP (rS (rI .u32)) (rP rB (rS (rI .u32))))) a0 T::box k 132 [.bool false,hnil.v,.bool false,hnil.v]::row 94 (rI .u32) a1.v V::row 94 (rI .u32) a2.v X::box m 132 [.bool U,a1.v,.bool W,a2.v]::row 3 I1 a3.v Z::rs) w∧m_hh B T U V W X Z=some e9) rfl ?_ ?_
  ·rintro ⟨T,U,V,W,X,Z,a0,a1,a2,a3⟩ g w ⟨a,c⟩
   refine q 6 rfl ?_
   cases c
   exact ln (_,_,_,_) a
  refine z 1 11 ?_
  refine bE c fun f0 h8 c=>?_
  refine lp h8 [0,1,5,6,7,8,9] (fun c0=>[(10,iV c0)]) (fun c0=>St w0 ros (row 135 rH d.v r::fam 132 (rP rB (rP (rS (rI .u32)) (rP rB (rS (rI .u32))))) r J::box k 132 [.bool false,hnil.v,.bool false,hnil.v]::row 94 (rI .u32) s.v L::row 94 (rI .u32) f.v A::box m 132 [.bool K,s.v,.bool p,f.v]::row 3 I1 i.v h::rs)) (fun | f0=>(.exit 2,[(10,iV f0)],St w0 ros (row 135 rH d.v r::fam 132 (rP rB (rP (rS (rI .u32)) (rP rB (rS (rI .u32))))) r J::box k 132 [.bool false,hnil.v,.bool false,hnil.v]::row 94 (rI .u32) s.v L::row 94 (rI .u32) f.v A::box m 132 [.bool K,s.v,.bool p,f.v]::row 3 I1 i.v h::rs))) rfl a rfl ?_ ?_
  ·clear a
   intro g w a
   refine q 7 rfl (y (yLenF SLH_129 e0 a rO0 R1) (q 3 rfl (cI c (fun i0 c=>?_) fun i0 c=>?_)))
   ·exact q 3 rfl (jx (_,_,_,_,_,_,_,_,_,_) ⟨a,c⟩)
   ·refine q 10 rfl ?_
    refine jC ((List (List (Bool×LI×Bool×LI)))×Bool×LI×(List Hdr)×Hdr) [0,1,5,6,7,8,9] (fun (a4,O,a5,j,R)=>[]) (fun (a4,O,a5,j,R) w=>St w0 ros (row 135 rH d.v j::fam 132 (rP rB (rP (rS (rI .u32)) (rP rB (rS (rI .u32))))) j a4::box k 132 [.bool false,hnil.v,.bool false,hnil.v]::row 94 (rI .u32) R.v a5::row 94 (rI .u32) f.v A::box m 132 [.bool O,R.v,.bool p,f.v]::row 3 I1 i.v h::rs) w∧m_hk h B p A b8 a4 O a5=some e9) rfl ?_ ?_
    ·rintro ⟨a4,O,a5,j,R⟩ g w ⟨a,c⟩
     refine bE c fun l2 c1 c=>bE c fun c2 f1 c=>bE c fun l3 i1 c=>bE c fun l4 a6 c=>bE c fun N c3 c=>bE c fun l5 i2 c=>bE c fun b i3 c=>q 2 rfl (dS [10,21,22,23] 4 folM ?_)
     replace a:=a.drew
     refine D1 2096127 0 10 rfl (qR 1 rfl (rQ rfl (lbs_ [.bool O,R.v] ST_49 e0 a R5) (qR 2 rfl ?_)))
     obtain ⟨l6,a7⟩:=a.famI R1 c1
     refine rQ rfl (yIa SLH_129 e0 e0 a rO0 a7) (rQ rfl (yF1 O_135 e0 a rO0 a7 rfl) (qR 1 rfl (rQ rfl (yIa SL_135 e0 e0 a (rdF R1 a7 c1) f1) (rQ rfl (yFe FL_132_0 e0) ?_))))
     obtain ⟨l7,l8,cc5068,a⟩:=a.ld (rdF R1 a7 c1) f1
     replace a:=a.eltP
     obtain ⟨l9,m0,rfl,a⟩:=a
     replace a:=a.eltB
     obtain ⟨rfl,a⟩:=a
     replace a:=a.eltP
     obtain ⟨m1,m2,rfl,a⟩:=a
     replace a:=a.eltS
     obtain ⟨f2,rfl,a⟩:=a
     replace a:=a.swf.eltP
     obtain ⟨m3,m4,rfl,a⟩:=a
     replace a:=a.eltB
     obtain ⟨rfl,a⟩:=a
     replace a:=a.eltS
     obtain ⟨i4,rfl,a⟩:=a
     refine rQ rfl (yCfn (cs:=[.bool c2.1,f2.v,.bool c2.2.2.1,i4.v]) (us:=[.bool c2.1,f2.v]) ST_49 e0 cc5068 rfl rfl) (qR 1 rfl (rQ rfl (lbs_ [.bool p,f.v] ST_49 e0 a R5) (qR 2 rfl ?_)))
     obtain ⟨m5,F⟩:=a.famI R1 a6
     refine rQ rfl (yIa SLH_129 e0 e0 a rO0 F) (rQ rfl (yF1 O_135 e0 a rO0 F rfl) (qR 1 rfl (rQ rfl (yIa SL_135 e0 e0 a (rdF R1 F a6) c3) (rQ rfl (yFe FL_132_1 e0) ?_))))
     replace a:=(a.k16).pin0
     obtain ⟨m6,a⟩:=St.pinF F a6 a c3
     obtain ⟨m7,m8,rfl,a⟩:=a.eltP
     obtain ⟨rfl,a⟩:=a.eltB
     obtain ⟨m9,n0,rfl,a⟩:=a.eltP
     obtain ⟨f3,rfl,a⟩:=a.eltS
     replace a:=a.swf
     obtain ⟨n1,n2,rfl,a⟩:=a.eltP
     obtain ⟨rfl,a⟩:=a.eltB
     obtain ⟨a8,rfl,a⟩:=a.eltS
     refine rQ rfl (yCfn (cs:=[.bool N.1,f3.v,.bool N.2.2.1,a8.v]) (us:=[.bool N.2.2.1,a8.v]) ST_49 e0 (a.cAtP R0 mhP) rfl rfl) (Rn QSn ?_)
     replace a:=(a.k1e).fz
     refine kO (w_du i1 F0 F4 a) fun n3 w a=>dU (D1 0 2095104 21 rfl (Rn (qS rfl (sY rfl (lbs_ [.bool p,f.v] ST_49 e0 a R5) (qS rfl (qS rfl (sY rfl (yIa SLH_129 e0 e0 a rO2 F) (sY rfl (yF1 O_135 e0 a rO2 F rfl) (qS rfl (sY rfl (yIa SL_135 e0 e0 a (rdFP R1 F a6) c3) (sY rfl (yFe FL_132_1 e0) (sY rfl (yCfn (cs:=[.bool N.1,f3.v,.bool N.2.2.1,a8.v]) (us:=[.bool N.2.2.1,a8.v]) ST_49 e0 (a.cAtP R1 mhP) rfl rfl) QSn)))))))))) ?_))
     replace a:=(a.k1f).fz
     refine kO (w_du i2 F0 F2 a) fun n4 w a=>dU (D1 0 0 22 rfl (Rn QSn ?_))
     replace a:=((a.k16).fz).fz
     refine kT_ (w_d0 i3 F1 F0 a) fun t x w a=>dU (D0 0 0 23 rfl (Rn QSn ?_))
     replace a:=a.k3d
     refine LT wn (r_stbn (vals':=[.bool b.1,t.v,.bool b.2.2.1,x.v]) (us:=[.bool b.1,t.v,.bool b.2.2.1,x.v]) a ST_132 e0 e0 rfl rfl (one_of rfl) rfl) fun w a=>Dw 0 0 (Rn QSn ?_)
     replace a:=(a.k1e).unpin
     refine bE c fun f4 i5 c=>qx 10 rfl ?_
     refine lp i5 [0,1,5,6,7,8,9] (fun (c4,c5)=>[(11,iV c5)]) (fun (c4,c5)=>St w0 ros (row 135 rH d.v j::fam 132 (rP rB (rP (rS (rI .u32)) (rP rB (rS (rI .u32))))) j c4::box k 132 [.bool false,hnil.v,.bool false,hnil.v]::row 94 (rI .u32) t.v b.2.1::row 94 (rI .u32) x.v b.2.2.2::box m 132 [.bool b.1,t.v,.bool b.2.2.1,x.v]::row 3 I1 i.v h::rs)) (fun | f4=>(.exit 4,[],St w0 ros (row 135 rH d.v j::fam 132 (rP rB (rP (rS (rI .u32)) (rP rB (rS (rI .u32))))) j f4::box k 132 [.bool false,hnil.v,.bool false,hnil.v]::row 94 (rI .u32) t.v b.2.1::row 94 (rI .u32) x.v b.2.2.2::box m 132 [.bool b.1,t.v,.bool b.2.2.1,x.v]::row 3 I1 i.v h::rs))) rfl ((a.k3p).fc) rfl ?_ ?_
     ·clear a
      intro g w a
      refine q 5 rfl (yh (rLt (n:=1) (l:=[B]) a SL_23 [iV B] (bp1 e0) rfl rfl (mks1 (cs:=[iV B]) rfl mkI mks0)) fun n5 w a=>?_)
      refine z 1 3 ?_;intro n6 n7 c n8 w a
      exact jx (_,_,_,_,_,_,_,_,_,_) ⟨(a.k3q),c⟩
     rintro ⟨c4,c5⟩ g w n9 a c
     refine q 5 rfl (y (yLenF SLH_129 e0 a rO0 R1) (q 3 rfl (cI c (fun i6 c=>?_) fun i6 c=>?_)))
     ·refine q 8 rfl (bE c fun o0 c6 c=>?_)
      obtain ⟨o1,a9⟩:=a.famI R1 c6
      refine y (yIa SLH_129 e0 e0 a rO0 a9) (y (yF1 O_135 e0 a rO0 a9 rfl) (bE c fun C f5 c=>q 1 rfl (y (yIa SL_135 e0 e0 a (rdF R1 a9 c6) f5) ?_)))
      obtain ⟨o2,o3,cc5398,a⟩:=a.ld (rdF R1 a9 c6) f5
      replace a:=a.eltP
      obtain ⟨o4,o5,rfl,a⟩:=a
      replace a:=a.eltB
      obtain ⟨rfl,a⟩:=a
      replace a:=a.eltP
      obtain ⟨o6,o7,rfl,a⟩:=a
      replace a:=a.eltS
      obtain ⟨b0,rfl,a⟩:=a
      replace a:=a.swf.eltP
      obtain ⟨o8,o9,rfl,a⟩:=a
      replace a:=a.eltB
      obtain ⟨rfl,a⟩:=a
      replace a:=a.eltS
      obtain ⟨b1,rfl,a⟩:=a
      refine y (yCn (cs:=[.bool C.1,b0.v,.bool C.2.2.1,b1.v]) ST_132 rfl e0 cc5398) ?_
      refine z 2 9 ?_;intro i7 w a w a
      refine bE c fun f6 i8 c=>?_
      refine lp i8 [0,1,5,6,7,8,9,11,12] (fun (c7,c8)=>[(13,iV c8)]) (fun (c7,c8)=>St w0 (imm (rI .u32) b0.v C.2.1::imm (rI .u32) b1.v C.2.2.2::ros) (row 135 rH d.v j::fam 132 (rP rB (rP (rS (rI .u32)) (rP rB (rS (rI .u32))))) j c7::box k 132 [.bool false,hnil.v,.bool false,hnil.v]::row 94 (rI .u32) t.v b.2.1::row 94 (rI .u32) x.v b.2.2.2::box m 132 [.bool b.1,t.v,.bool b.2.2.1,x.v]::row 3 I1 i.v h::box i7 132 [.bool C.1,b0.v,.bool C.2.2.1,b1.v]::rs)) (fun | f6=>(.exit 6,[],St w0 ros (row 135 rH d.v j::fam 132 (rP rB (rP (rS (rI .u32)) (rP rB (rS (rI .u32))))) j f6::box k 132 [.bool false,hnil.v,.bool false,hnil.v]::row 94 (rI .u32) t.v b.2.1::row 94 (rI .u32) x.v b.2.2.2::box m 132 [.bool b.1,t.v,.bool b.2.2.1,x.v]::row 3 I1 i.v h::rs))) rfl ((a.k31).facts (allC F1 (allC F0 (allT (allT allI))))) rfl ?_ ?_
      ·clear a
       intro g w a
       refine q 8 rfl ?_
       cases c
       exact lo a
      rintro ⟨c7,c8⟩ g w p0 a c
      refine q 8 rfl (cI c (fun i9 c=>?_) fun i9 c=>?_)
      ·refine q 4 rfl (bE c fun p1 c9 c=>bE c fun p2 d0 c=>bE c fun f7 f8 c=>bE c fun p3 d1 c=>bE c fun f9 g0 c=>bE c fun p4 d2 c=>bE c fun g1 g2 c=>bE c fun g3 j0 c=>bE c fun p5 g4 c=>bE c fun p6 j1 c=>dS [27,29] 2 folM ?_)
       replace a:=a.drew
       refine D1 134217727 0 27 rfl (qR 2 rfl ?_)
       obtain ⟨p7,G⟩:=a.famI R1 c9
       refine rQ rfl (yIa SLH_129 e0 e0 a rO0 G) (rQ rfl (yF1 O_135 e0 a rO0 G rfl) (qR 3 rfl ?_))
       obtain ⟨p8,b2⟩:=a.famI R1 d0
       refine rQ rfl (yIa SLH_129 e0 e0 a rO0 b2) (rQ rfl (yF1 O_135 e0 a rO0 b2 rfl) (qR 1 rfl (rQ rfl (yIa SL_135 e0 e0 a (rdF R1 b2 d0) f8) ?_)))
       obtain ⟨p9,q0,cc5522,a⟩:=a.ld (rdF R1 b2 d0) f8
       replace a:=a.eltP
       obtain ⟨q1,q2,rfl,a⟩:=a
       replace a:=a.eltB
       obtain ⟨rfl,a⟩:=a
       replace a:=a.eltP
       obtain ⟨q3,q4,rfl,a⟩:=a
       replace a:=a.eltS
       obtain ⟨j2,rfl,a⟩:=a
       replace a:=a.swf.eltP
       obtain ⟨q5,q6,rfl,a⟩:=a
       replace a:=a.eltB
       obtain ⟨rfl,a⟩:=a
       replace a:=a.eltS
       obtain ⟨j3,rfl,a⟩:=a
       refine rQ rfl (yCn (cs:=[.bool f7.1,j2.v,.bool f7.2.2.1,j3.v]) ST_132 rfl e0 cc5522) (rQ rfl (lbs_ [.bool C.1,b0.v,.bool C.2.2.1,b1.v] ST_132 e0 a R7) (qR 2 rfl ?_))
       obtain ⟨q7,b3⟩:=a.famI R1 d1
       refine rQ rfl (yIa SLH_129 e0 e0 a rO0 b3) (rQ rfl (yF1 O_135 e0 a rO0 b3 rfl) (qR 1 rfl (rQ rfl (yIa SL_135 e0 e0 a (rdF R1 b3 d1) g0) ?_)))
       obtain ⟨q8,q9,cc5529,a⟩:=a.ld (rdF R1 b3 d1) g0
       replace a:=a.eltP
       obtain ⟨r0,r1,rfl,a⟩:=a
       replace a:=a.eltB
       obtain ⟨rfl,a⟩:=a
       replace a:=a.eltP
       obtain ⟨r2,r3,rfl,a⟩:=a
       replace a:=a.eltS
       obtain ⟨j4,rfl,a⟩:=a
       replace a:=a.swf.eltP
       obtain ⟨r4,r5,rfl,a⟩:=a
       replace a:=a.eltB
       obtain ⟨rfl,a⟩:=a
       replace a:=a.eltS
       obtain ⟨j5,rfl,a⟩:=a
       refine rQ rfl (yCn (cs:=[.bool f9.1,j4.v,.bool f9.2.2.1,j5.v]) ST_132 rfl e0 cc5529) (qR 2 rfl ?_)
       obtain ⟨r7,b4⟩:=a.famI R1 d2
       refine rQ rfl (yIa SLH_129 e0 e0 a rO0 b4) (rQ rfl (yF1 O_135 e0 a rO0 b4 rfl) (qR 1 rfl (rQ rfl (yIa SL_135 e0 e0 a (rdF R1 b4 d2) g2) ?_)))
       obtain ⟨r9,s0,cc5536,a⟩:=a.ld (rdF R1 b4 d2) g2
       replace a:=a.eltP
       obtain ⟨s1,s2,rfl,a⟩:=a
       replace a:=a.eltB
       obtain ⟨rfl,a⟩:=a
       replace a:=a.eltP
       obtain ⟨s3,s4,rfl,a⟩:=a
       replace a:=a.eltS
       obtain ⟨j6,rfl,a⟩:=a
       replace a:=a.swf.eltP
       obtain ⟨s5,s6,rfl,a⟩:=a
       replace a:=a.eltB
       obtain ⟨rfl,a⟩:=a
       replace a:=a.eltS
       obtain ⟨j7,rfl,a⟩:=a
       refine rQ rfl (yCn (cs:=[.bool g1.1,j6.v,.bool g1.2.2.1,j7.v]) ST_132 rfl e0 cc5536) (Rn QSn (kT_ (w_d1 j0 F5 F4 F6 F7 F3 F2 F1 F0 a) fun j8 j9 w a=>dU (D0 268435456 31 29 rfl (rQ rfl (yIs SL_135 e0 e0 a (rdF R3 G c9) g4) (Rn (qS rfl (qS rfl (sY rfl (yIa SLH_129 e0 e0 a rO2 G) (sY rfl (yF1 O_135 e0 a rO2 G rfl) (qS rfl QSn))))) ?_)))))
       replace a:=(a.fz.fz).k16
       refine LT wn (r_stn (cs:=[.bool g3.1,j8.v,.bool g3.2.2.1,j9.v]) (a.foc G c9) ST_132 e0 e0 rfl (mkP mkB (mkP (mkS F1) (mkP mkB (mkS F0)))) g4) fun w a=>?_
       replace a:=a.unfoc' G j1
       refine Dw 0 0 (Rn QSn (qx 7 rfl ?_))
       cases c
       exact lo ((a.k3r).facts (allC F8 (allC F9 (allT (allT (allT (allT (allT (allT (allT (allT (allT (allT allI)))))))))))))
      ·refine q 2 rfl ?_
       cases c
       exact xo ((a.k3s).fc)
     ·refine q 2 rfl ?_
      cases c
      exact xo a
    refine cIn c (fun k0 c=>?_) fun k0 c=>?_
    ·exact q 1 rfl (jx (_,_,_,_,_) ⟨a,c⟩)
    ·refine q 1 rfl (bE c fun s7 g5 c=>bE c fun s8 g6 c=>bE c fun s9 d3 c=>bE c fun t0 g7 c=>dS [13,15] 2 folM ?_)
     replace a:=a.drew
     refine D0 8191 0 13 rfl (qR 6 rfl ?_)
     obtain ⟨g8,d4⟩:=a.famI R1 g5
     refine rQ rfl (yIa SLH_129 e0 e0 a rO0 d4) (rQ rfl (yF1 O_135 e0 a rO0 d4 rfl) (qR 2 rfl ?_))
     obtain ⟨g9,d5⟩:=a.famI R1 g6
     refine rQ rfl (yIa SLH_129 e0 e0 a rO0 d5) (rQ rfl (yF1 O_135 e0 a rO0 d5 rfl) ?_)
     obtain ⟨t1,b6⟩:=setI_len (u:=g8) d3 (a.famL (mtR mhR))
     refine rQ rfl (yIs SLH_129 e0 e0 a rO0 b6) (Rn QSn (LT wn (r_sti (cs:=[g8.v]) a O_135 rfl e0 e0 rfl (mkF rfl) b6) fun w a=>D0 16384 12 15 rfl ?_))
     obtain ⟨t2,d6⟩:=setI_len (u:=g9) g7 (swap_len d3 b6 (a.famL (mtR mhR)))
     refine rQ rfl (yIs SLH_129 e0 e0 a rO0 d6) (Rn (qS rfl (qS rfl QSn)) (LT wn (r_sti (cs:=[g9.v]) a O_135 rfl e0 e0 rfl (mkF rfl) d6) fun w a=>?_))
     replace a:=(a.k16).fswap d4 g5 d5 g6 b6 d3 d6 g7
     refine Dw 0 0 (Rn QSn (qx 0 rfl ?_))
     refine z 3 1 ?_;intro t3 t4 c t5 w a w a
     exact jx (_,_,_,_,_) ⟨((a.k3t).fc),c⟩
  rintro c0 g w t6 a c
  refine q 5 rfl (y (yLenF SLH_129 e0 a rO0 R1) (bE c fun k1 o c=>q 2 rfl ?_))
  refine jW 9 [0,1,5,6,7,8,9,10] [(38,.bool k1)] (St w0 ros (row 135 rH d.v r::fam 132 (rP rB (rP (rS (rI .u32)) (rP rB (rS (rI .u32))))) r J::box k 132 [.bool false,hnil.v,.bool false,hnil.v]::row 94 (rI .u32) s.v L::row 94 (rI .u32) f.v A::box m 132 [.bool K,s.v,.bool p,f.v]::row 3 I1 i.v h::rs)) rfl (fun h0=>?_) ?_
  ·refine gI 29 o rfl (fun k2 o=>?_) fun k2 o=>?_
   ·refine q 2 rfl (bE o fun t7 d7 o=>?_)
    obtain ⟨t8,b7⟩:=a.famI R1 d7
    refine y (yIa SLH_129 e0 e0 a rO0 b7) (y (yF1 O_135 e0 a rO0 b7 rfl) (bE o fun h1 h3 o=>q 1 rfl (y (yIa SL_135 e0 e0 a (rdF R1 b7 d7) h3) ?_)))
    obtain ⟨t9,u0,cc5575,a⟩:=a.ld (rdF R1 b7 d7) h3
    replace a:=a.eltP
    obtain ⟨u1,u2,rfl,a⟩:=a
    replace a:=a.eltB
    obtain ⟨rfl,a⟩:=a
    replace a:=a.eltP
    obtain ⟨u3,u4,rfl,a⟩:=a
    replace a:=a.eltS
    obtain ⟨k3,rfl,a⟩:=a
    replace a:=a.swf.eltP
    obtain ⟨u5,u6,rfl,a⟩:=a
    replace a:=a.eltB
    obtain ⟨rfl,a⟩:=a
    replace a:=a.eltS
    obtain ⟨k4,rfl,a⟩:=a
    refine y (yCn (cs:=[.bool h1.1,k3.v,.bool h1.2.2.1,k4.v]) ST_132 rfl e0 cc5575) (bE o fun u7 u8 o=>?_)
    refine z 1 1 ?_;intro w a
    cases o
    exact h0 _ _ (a.fc) rfl
   ·refine q 9 rfl ?_
    cases o
    exact h0 _ _ a rfl
  intro g w a
  refine q 2 rfl ?_
  refine cJ c (fun k5 c=>?_) fun k5 c=>?_
  ·refine q 9 rfl ?_
   cases c
   exact lo a
  ·refine q 2 rfl ?_
   cases c
   exact xo a
 ·refine q 2 rfl ?_
  cases c
  exact lx (_,_,_,_) a
instance:CL prog 100 (type_of% @w_d2):=⟨@w_d2⟩
theorem w_d3 {b:List (List (Bool×LI))} {d:Hdr} {out:Int} (c:m_ho b=some out) (f:imm (rS (rP rB (rS (rI .u32)))) d.v b∈ros) (a:St w0 ros rs w):
  Calls prog 97 #[d.v] w (fun e w=>e=.returned (iV out)∧St w0 ros rs w):=by
 refine en func97 rfl ntmps97 fun Q g=>bE c fun k h c=>q 8 rfl (cT_ (w_dq h f a) fun l m w a=>bE c fun n i c=>q 1 rfl (cZ (w_dr i f a) fun w a=>bE c fun o j c=>yC (yCall FN_100 (a2 e0 e0)) (w_d2 j a) ?_))
 rintro _ w ⟨p,r,s,t,rfl,a⟩
 refine ⟨_,rfl,?_⟩
 refine nf (q 3 rfl (yb (rAl a ZT_132) fun u w a=>q 1 rfl (sB rfl a ST_132 fun w a=>q 5 rfl (y (yLen SL_23 e0 a rO3) (q 4 rfl ?_)))))
 cases c
 exact za g results97 ⟨rfl,(a.k21)⟩
instance:CL prog 97 (type_of% @w_d3):=⟨@w_d3⟩
theorem w_d4 {b:List (List (Bool×LI))} {d:Int} {f:Hdr} {out:Int} (c:m_hp b d=some out) (i:imm (rS (rP rB (rS (rI .u32)))) f.v b∈ros) (a:St w0 ros rs w):
  Calls prog 42 #[f.v,iV d] w (fun e w=>e=.returned (iV out)∧St w0 ros rs w):=by
 refine en func42 rfl ntmps42 fun Q g=>q 12 rfl (cI c (fun h c=>?_) fun h c=>?_)
 ·refine q 7 rfl ?_
  cases c
  exact za g results42 ⟨rfl,a⟩
 ·refine z 1 4 ?_;intro j k c w a
  cases c
  exact za g results42 ⟨rfl,a⟩
instance:CL prog 42 (type_of% @w_d4):=⟨@w_d4⟩
theorem w_d5 {d9:List (List (Bool×LI))} {e1:Hdr} {out:(List (Bool×LI))} (c:m_hw d9=some out) (e2:imm (rS (rP rB (rS (rI .u32)))) e1.v d9∈ros) (a:St w0 ros rs w):
  Calls prog 44 #[e1.v] w (fun e w=>∃ (e3:Hdr),e=.returned (e3.v)∧St w0 ros (row 49 (rP rB (rS (rI .u32))) e3.v out::rs) w):=by
 refine en func44 rfl ntmps44 fun Q e4=>bE c fun l8 h7 c=>q 8 rfl (cZ (w_dr h7 e2 a) fun w a=>bE c fun l9 h8 c=>q 6 rfl (cT_ (w_dq h8 e2 a) fun z m0 w a=>bE c fun r i0 c=>q 7 rfl (yC (yCall FN_100 (a2 e0 e0)) (w_d2 i0 a) ?_)))
 rintro _ w ⟨b,e5,m1,m2,rfl,a⟩
 refine ⟨_,rfl,?_⟩
 refine nf (q 3 rfl (yb (rAl a ZT_132) fun m3 w a=>q 1 rfl (sB rfl a ST_132 fun w a=>q 6 rfl (y (yLen SL_23 e0 a rO3) (q 4 rfl (cI c (fun i1 c=>?_) fun i1 c=>?_))))))
 ·refine q 7 rfl ?_
  cases c
  replace a:=a.rowNh 49 (rP rB (rS (rI .u32)))
  exact e4 _ _ _ (fin1r results44 ⟨rfl,rfl⟩ ⟨_,rfl,(a.k3k)⟩)
 ·refine q 9 rfl (bE c fun e6 i2 c=>?_)
  refine lp i2 [3,4,5] (fun b8=>[(7,iV b8)]) (fun b8=>St w0 ros (row 135 rH z.v b::fam 132 (rP rB (rP (rS (rI .u32)) (rP rB (rS (rI .u32))))) b r.1::row 3 I1 e5.v r.2.1::rs)) (fun | e6=>(.exit 0,[(7,iV e6)],St w0 ros (row 135 rH z.v b::fam 132 (rP rB (rP (rS (rI .u32)) (rP rB (rS (rI .u32))))) b r.1::rs))) rfl (a.k3u) rfl ?_ ?_
  ·clear a
   intro g w a
   refine bE c fun f i3 c=>q 4 rfl (cO (w_f i3 a) fun h w a=>bE c fun i i4 c=>cO (w_f i4 a) fun j w a=>y (ybuild (us:=[.bool f.1,h.v,.bool i.1,j.v]) [(0,.agg #[.bool f.1,h.v]),(1,.agg #[.bool i.1,j.v])] SO_132 (bp2 e0 e0) rfl) (yb (rAl a ZT_132) fun O w a=>sB rfl a ST_132 fun w a=>bE c fun m4 i5 c=>q 5 rfl (yh (rMk a SL_135 e0 i5) fun p w a=>?_)))
   refine bE c fun e7 i6 c=>q 10 rfl ?_
   refine lp i6 [3,4,7,8,9] (fun (b9,c0)=>[(10,iV c0)]) (fun (b9,c0)=>St w0 ros (row 135 rH z.v b::fam 132 (rP rB (rP (rS (rI .u32)) (rP rB (rS (rI .u32))))) b r.1::row 94 (rI .u32) h.v f.2::row 94 (rI .u32) j.v i.2::box O 132 [.bool f.1,h.v,.bool i.1,j.v]::row 132 (rP rB (rP (rS (rI .u32)) (rP rB (rS (rI .u32))))) p.v b9::rs)) (fun | e7=>(.exit 2,[],St w0 ros (row 135 rH z.v b::fam 132 (rP rB (rP (rS (rI .u32)) (rP rB (rS (rI .u32))))) b r.1::row 94 (rI .u32) h.v f.2::row 94 (rI .u32) j.v i.2::box O 132 [.bool f.1,h.v,.bool i.1,j.v]::row 132 (rP rB (rP (rS (rI .u32)) (rP rB (rS (rI .u32))))) p.v e7::rs))) rfl (a.k3v) rfl ?_ ?_
   ·clear a
    intro g w a
    refine q 6 rfl (y (lbs_ [.bool f.1,h.v,.bool i.1,j.v] ST_132 e0 a R4) (bE c fun m5 e8 c=>y (yIs SL_135 e0 e0 a rO5 e8) ?_))
    replace a:=((((a.k15).fz).k15).fz).k1e
    refine yt (r_stn (cs:=[.bool f.1,h.v,.bool i.1,j.v]) a ST_132 e0 e0 rfl (mkP mkB (mkP (mkS F1) (mkP mkB (mkS F0)))) e8) fun w a=>bE c fun C i7 c=>q 11 rfl ?_
    refine lp i7 [3,4,7,8,9] (fun (R,c1)=>[(11,iV c1)]) (fun (R,c1)=>St w0 (imm (rI .u32) h.v f.2::imm (rI .u32) j.v i.2::ros) (row 135 rH z.v b::fam 132 (rP rB (rP (rS (rI .u32)) (rP rB (rS (rI .u32))))) b r.1::box O 132 [.bool f.1,h.v,.bool i.1,j.v]::row 132 (rP rB (rP (rS (rI .u32)) (rP rB (rS (rI .u32))))) p.v R::rs)) (fun | C=>(.exit 4,[],St w0 ros (row 132 (rP rB (rP (rS (rI .u32)) (rP rB (rS (rI .u32))))) p.v C::rs))) rfl ((a.k1p).facts (allC F1 (allC F0 (allT (allT allI))))) rfl ?_ ?_
    ·clear a
     intro g w a
     refine bE c fun m6 i8 c=>q 4 rfl (cO (w_f i8 a) fun m7 w a=>yb (rAl a ZT_49) fun S w a=>sB rfl a ST_49 fun w a=>q 9 rfl ?_)
     obtain ⟨⟨H,a1⟩,i9,c⟩:=bs c
     refine lpN Hdr Hdr i9 [3,9,14] (fun (D,a3,c2) u=>[(15,iV c2)]) (fun (D,a3,c2) u=>St w0 ros (row 132 (rP rB (rP (rS (rI .u32)) (rP rB (rS (rI .u32))))) p.v C::row 94 (rI .u32) u.v a3::box S 49 [.bool D,u.v]::rs)) (fun | (H,a1),x=>(.exit 8,[],St w0 ros (row 132 (rP rB (rP (rS (rI .u32)) (rP rB (rS (rI .u32))))) p.v C::row 94 (rI .u32) x.v a1::box S 49 [.bool H,x.v]::rs))) rfl _ (a.k18) rfl ?_ ?_
     ·clear a
      rintro x g w a
      refine bE c fun e9 j0 c=>q 14 rfl ?_
      replace a:=((a.k16).fz).rowNh 49 (rP rB (rS (rI .u32)))
      refine lpN Hdr Hdr j0 [3,9,14] (fun (a4,c3) T=>[(18,T.v),(19,iV c3)]) (fun (a4,c3) T=>St w0 (imm (rI .u32) x.v a1::ros) (row 132 (rP rB (rP (rS (rI .u32)) (rP rB (rS (rI .u32))))) p.v C::box S 49 [.bool H,x.v]::row 49 (rP rB (rS (rI .u32))) T.v a4::rs)) (fun | e9,c4=>(.exit 10,[(18,c4.v)],St w0 ros (row 49 (rP rB (rS (rI .u32))) c4.v e9::rs))) rfl _ (a.k1g) rfl ?_ ?_
      ·clear a
       rintro c4 g w a
       refine q 9 rfl ?_
       cases c
       exact e4 _ _ _ (fin1r results44 ⟨rfl,rfl⟩ ⟨_,rfl,a⟩)
      rintro ⟨a4,c3⟩ T g w m8 a c
      refine q 8 rfl (cI c (fun j1 c=>?_) fun j1 c=>?_)
      ·refine q 5 rfl (bE c fun I c5 c=>bE c fun m9 f0 c=>bE c fun k J c=>bE c fun d c6 c=>?_)
       refine jN (Nat×Hdr) [3,9,14,18,19] (fun (a5,E)=>[(20,(pB a5))]) (fun (a5,E)=>St w0 (imm (rI .u32) x.v a1::ros) (row 132 (rP rB (rP (rS (rI .u32)) (rP rB (rS (rI .u32))))) p.v C::box S 49 [.bool H,x.v]::row 49 (rP rB (rS (rI .u32))) T.v a4::row 94 (rI .u32) E.v d.2.1::box a5 49 [.bool d.1,E.v]::rs)) rfl ?_ ?_
       ·refine dS [6,12,16,17,18] 5 folM ?_
        replace a:=a.drew
        refine Dm 4031 0 [6,16] (qR 2 rfl (rQ rfl (yIa SL_135 e0 e0 a rO0 c5) (rQ rfl (yFe FL_132_0 e0) ?_)))
        replace a:=a.pin0
        obtain ⟨n0,a⟩:=a.pinO c5
        obtain ⟨n1,n2,rfl,a⟩:=a.eltP
        obtain ⟨rfl,a⟩:=a.eltB
        obtain ⟨n3,n4,rfl,a⟩:=a.eltP
        obtain ⟨a6,rfl,a⟩:=a.eltS
        replace a:=a.swf
        obtain ⟨n5,n6,rfl,a⟩:=a.eltP
        obtain ⟨rfl,a⟩:=a.eltB
        obtain ⟨f1,rfl,a⟩:=a.eltS
        refine rQ rfl (yCfn (cs:=[.bool I.1,a6.v,.bool I.2.2.1,f1.v]) (us:=[.bool I.1,a6.v]) ST_49 e0 (a.cAtP R0 mhP) rfl rfl) (rQ rfl (lbs_ [.bool H,x.v] ST_49 e0 a R1) (qR 2 rfl (rQ rfl (yIa SL_135 e0 e0 a (rdOP R0) J) (rQ rfl (yFe FL_132_1 e0) ?_))))
        obtain ⟨n7,a⟩:=a.pinO J
        obtain ⟨n8,n9,rfl,a⟩:=a.eltP
        obtain ⟨rfl,a⟩:=a.eltB
        obtain ⟨o0,o1,rfl,a⟩:=a.eltP
        obtain ⟨U,rfl,a⟩:=a.eltS
        replace a:=a.swf
        obtain ⟨o2,o3,rfl,a⟩:=a.eltP
        obtain ⟨rfl,a⟩:=a.eltB
        obtain ⟨s,rfl,a⟩:=a.eltS
        refine rQ rfl (yCfn (cs:=[.bool k.1,U.v,.bool k.2.2.1,s.v]) (us:=[.bool k.2.2.1,s.v]) ST_49 e0 (a.cAtP R0 mhP) rfl rfl) (Rn QSn ?_)
        refine La1 rfl ?_ (La1 rfl ?_ LAn)
        ·refine kO (w_du f0 F3 F4 a) fun j2 w a=>dU (Dm 0 3968 [12,16] (Rn (qS rfl (qS rfl (sY rfl (yIa SL_135 e0 e0 a (rdOP R1) J) (sY rfl (yFe FL_132_1 e0) (sY rfl (yCfn (cs:=[.bool k.1,U.v,.bool k.2.2.1,s.v]) (us:=[.bool k.2.2.1,s.v]) ST_49 e0 (a.cAtP R1 mhP) rfl rfl) QSn))))) ?_))
         refine La1 rfl ?_ (La1 rfl ?_ LAn)
         ·replace a:=a.fz
          refine kO (w_dz c6 F0 F1 a) fun A w a=>dU (D1 57344 0 16 rfl (qR 3 rfl (Rn QSn (LB wn (rAl a ZT_49) fun f2 w a=>dU (D0 0 57344 17 rfl (Rn (qS rfl (qS rfl (qS rfl QSn))) (LT wn (r_stbn (vals':=[.bool d.1,A.v]) (us:=[.bool d.1,A.v]) a ST_49 e0 e0 rfl rfl (one_of rfl) rfl) fun w a=>D1 0 32768 18 rfl (Rn (qS rfl QSn) ?_))))))))
          refine Ly wn (a_ (.bool d.2.2) e0) (dU (Dw 0 0 (Rn QSn ?_)))
          replace a:=(a.k15).unpin
          exact jr (_,_) ((a.k3w).facts (allC F5 (allT (allT (allT (allT (allT (allT allI))))))))
         ·refine LB wn (rAl a ZT_49) fun f2 w a=>dU (D1 0 3968 12 rfl (Rn (qS rfl (qS rfl (sY rfl (yIa SL_135 e0 e0 a (rdOP R2) J) (sY rfl (yFe FL_132_1 e0) (sY rfl (yCfn (cs:=[.bool k.1,U.v,.bool k.2.2.1,s.v]) (us:=[.bool k.2.2.1,s.v]) ST_49 e0 (a.cAtP R2 mhP) rfl rfl) QSn))))) ?_))
          replace a:=(a.k16).fz
          refine kO (w_dz c6 F0 F1 a) fun A w a=>dU (D0 57344 0 17 rfl (qR 3 rfl (Rn QSn ?_)))
          replace a:=a.k16
          refine LT wn (r_stbn (vals':=[.bool d.1,A.v]) (us:=[.bool d.1,A.v]) a ST_49 e0 e0 rfl rfl (one_of rfl) rfl) fun w a=>D1 0 32768 18 rfl (Rn (qS rfl QSn) (Ly wn (a_ (.bool d.2.2) e0) (dU (Dw 0 0 (Rn QSn ?_)))))
          replace a:=(a.k15).unpin
          exact jr (_,_) ((a.k3w).facts (allC F5 (allT (allT (allT (allT (allT (allT allI))))))))
        ·refine LB wn (rAl a ZT_49) fun f2 w a=>dU (D1 0 4031 6 rfl (Rn (qS rfl (qS rfl (sY rfl (yIa SL_135 e0 e0 a (rdOP R1) c5) (sY rfl (yFe FL_132_0 e0) (sY rfl (yCfn (cs:=[.bool I.1,a6.v,.bool I.2.2.1,f1.v]) (us:=[.bool I.1,a6.v]) ST_49 e0 (a.cAtP R1 (mtP mhP)) rfl rfl) (sY rfl (lbs_ [.bool H,x.v] ST_49 e0 a R2) (qS rfl (qS rfl (sY rfl (yIa SL_135 e0 e0 a (rdOP R1) J) (sY rfl (yFe FL_132_1 e0) (sY rfl (yCfn (cs:=[.bool k.1,U.v,.bool k.2.2.1,s.v]) (us:=[.bool k.2.2.1,s.v]) ST_49 e0 (a.cAtP R1 mhP) rfl rfl) QSn))))))))))) (kO (w_du f0 F3 F4 a) fun j2 w a=>dU (D1 0 3968 12 rfl (Rn (qS rfl (qS rfl (sY rfl (yIa SL_135 e0 e0 a (rdOP R2) J) (sY rfl (yFe FL_132_1 e0) (sY rfl (yCfn (cs:=[.bool k.1,U.v,.bool k.2.2.1,s.v]) (us:=[.bool k.2.2.1,s.v]) ST_49 e0 (a.cAtP R2 mhP) rfl rfl) QSn))))) ?_)))))
         replace a:=a.fz
         refine kO (w_dz c6 F0 F1 a) fun A w a=>dU (D0 57344 0 17 rfl (qR 3 rfl (Rn QSn ?_)))
         replace a:=a.k16
         refine LT wn (r_stbn (vals':=[.bool d.1,A.v]) (us:=[.bool d.1,A.v]) a ST_49 e0 e0 rfl rfl (one_of rfl) rfl) fun w a=>D1 0 32768 18 rfl (Rn (qS rfl QSn) (Ly wn (a_ (.bool d.2.2) e0) (dU (Dw 0 0 (Rn QSn ?_)))))
         replace a:=(a.k15).unpin
         exact jr (_,_) ((a.k3w).facts (allC F5 (allT (allT (allT (allT (allT (allT allI))))))))
       rintro ⟨a5,E⟩ g w a
       refine q 3 rfl (y (lbs_ [.bool d.1,E.v] ST_49 e0 a R4) ?_)
       replace a:=(a.k1e).fz
       refine yh (rLt (n:=1) (l:=[(d.1,d.2.1)]) a SL_28 [.agg #[.bool d.1,E.v]] (bp1 e0) rfl rfl (mks1 (cs:=[.bool d.1,E.v]) rfl (mkP mkB (mkS F0)) mks0)) fun o4 w a=>bE c fun o5 j3 c=>?_
       replace a:=a.k1e
       refine yh (rAp a SL_28 e0 e0 rO1 j3) fun o6 w a=>q 9 rfl ?_
       cases c
       exact ln _ ((a.k1m).facts (allC F1 (allT (allT allI))))
      ·refine q 2 rfl ?_
       cases c
       exact lx _ ((a.k1r).fc)
     rintro ⟨D,a3,c2⟩ u g w o7 a c
     refine q 8 rfl (cI c (fun j4 c=>?_) fun j4 c=>?_)
     ·refine q 5 rfl (bE c fun m K c=>bE c fun L c7 c=>bE c fun o8 f3 c=>bE c fun o c8 c=>?_)
      refine jN (Nat×Hdr) [3,9,14,15] (fun (a7,V)=>[(16,(pB a7))]) (fun (a7,V)=>St w0 (imm (rI .u32) u.v a3::ros) (row 132 (rP rB (rP (rS (rI .u32)) (rP rB (rS (rI .u32))))) p.v C::box S 49 [.bool D,u.v]::row 94 (rI .u32) V.v o.2.1::box a7 49 [.bool o.1,V.v]::rs)) rfl ?_ ?_
      ·refine dS [11,12,16,17,18] 5 folM ?_
       replace a:=a.drew
       refine Dm 2047 0 [11,16] (qR 2 rfl (rQ rfl (yIa SL_135 e0 e0 a rO0 K) (rQ rfl (yFe FL_132_1 e0) ?_)))
       replace a:=a.pin0
       obtain ⟨o9,a⟩:=a.pinO K
       obtain ⟨p0,p1,rfl,a⟩:=a.eltP
       obtain ⟨rfl,a⟩:=a.eltB
       obtain ⟨p2,p3,rfl,a⟩:=a.eltP
       obtain ⟨W,rfl,a⟩:=a.eltS
       replace a:=a.swf
       obtain ⟨p4,p5,rfl,a⟩:=a.eltP
       obtain ⟨rfl,a⟩:=a.eltB
       obtain ⟨t,rfl,a⟩:=a.eltS
       refine rQ rfl (yCfn (cs:=[.bool m.1,W.v,.bool m.2.2.1,t.v]) (us:=[.bool m.2.2.1,t.v]) ST_49 e0 (a.cAtP R0 mhP) rfl rfl) (rQ rfl (lbs_ [.bool D,u.v] ST_49 e0 a R2) (qR 2 rfl (rQ rfl (yIa SL_135 e0 e0 a (rdOP R0) c7) (rQ rfl (yFe FL_132_1 e0) ?_))))
       obtain ⟨p6,a⟩:=a.pinO c7
       obtain ⟨p7,p8,rfl,a⟩:=a.eltP
       obtain ⟨rfl,a⟩:=a.eltB
       obtain ⟨p9,q0,rfl,a⟩:=a.eltP
       obtain ⟨f4,rfl,a⟩:=a.eltS
       replace a:=a.swf
       obtain ⟨q2,q3,rfl,a⟩:=a.eltP
       obtain ⟨rfl,a⟩:=a.eltB
       obtain ⟨a8,rfl,a⟩:=a.eltS
       refine rQ rfl (yCfn (cs:=[.bool L.1,f4.v,.bool L.2.2.1,a8.v]) (us:=[.bool L.2.2.1,a8.v]) ST_49 e0 (a.cAtP R0 mhP) rfl rfl) (Rn QSn ?_)
       refine La1 rfl ?_ (La1 rfl ?_ LAn)
       ·replace a:=a.k16
        replace a:=a.fz
        refine kO (w_dy f3 F0 F1 a) fun j5 w a=>dU (Dm 0 31 [12,16] (Rn (qS rfl (qS rfl (sY rfl (yIa SL_135 e0 e0 a (rdOP R0) K) (sY rfl (yFe FL_132_1 e0) (sY rfl (yCfn (cs:=[.bool m.1,W.v,.bool m.2.2.1,t.v]) (us:=[.bool m.2.2.1,t.v]) ST_49 e0 (a.cAtP R0 (mtP mhP)) rfl rfl) QSn))))) ?_))
        refine La1 rfl ?_ (La1 rfl ?_ LAn)
        ·refine kO (w_dz c8 F4 F0 a) fun B w a=>dU (D1 57344 0 16 rfl (qR 3 rfl (Rn QSn (LB wn (rAl a ZT_49) fun f5 w a=>dU (D0 0 57344 17 rfl (Rn (qS rfl (qS rfl (qS rfl QSn))) (LT wn (r_stbn (vals':=[.bool o.1,B.v]) (us:=[.bool o.1,B.v]) a ST_49 e0 e0 rfl rfl (one_of rfl) rfl) fun w a=>D1 0 32768 18 rfl (Rn (qS rfl QSn) ?_))))))))
         refine Ly wn (a_ (.bool o.2.2) e0) (dU (Dw 0 0 (Rn QSn ?_)))
         replace a:=(a.k15).unpin
         exact jr (_,_) ((a.k3x).facts (allC F1 (allT (allT (allT (allT (allT (allT allI))))))))
        ·refine LB wn (rAl a ZT_49) fun f5 w a=>dU (D1 0 31 12 rfl (Rn (qS rfl (qS rfl (sY rfl (yIa SL_135 e0 e0 a (rdOP R1) K) (sY rfl (yFe FL_132_1 e0) (sY rfl (yCfn (cs:=[.bool m.1,W.v,.bool m.2.2.1,t.v]) (us:=[.bool m.2.2.1,t.v]) ST_49 e0 (a.cAtP R1 (mtP mhP)) rfl rfl) QSn))))) (kO (w_dz c8 F4 F0 a) fun B w a=>dU (D0 57344 0 17 rfl (qR 3 rfl (Rn QSn ?_))))))
         replace a:=a.k16
         refine LT wn (r_stbn (vals':=[.bool o.1,B.v]) (us:=[.bool o.1,B.v]) a ST_49 e0 e0 rfl rfl (one_of rfl) rfl) fun w a=>D1 0 32768 18 rfl (Rn (qS rfl QSn) (Ly wn (a_ (.bool o.2.2) e0) (dU (Dw 0 0 (Rn QSn ?_)))))
         replace a:=(a.k15).unpin
         exact jr (_,_) ((a.k3x).facts (allC F1 (allT (allT (allT (allT (allT (allT allI))))))))
       ·refine LB wn (rAl a ZT_49) fun f5 w a=>dU (D1 0 2047 11 rfl (Rn (qS rfl (qS rfl (sY rfl (yIa SL_135 e0 e0 a (rdOP R1) K) (sY rfl (yFe FL_132_1 e0) (sY rfl (yCfn (cs:=[.bool m.1,W.v,.bool m.2.2.1,t.v]) (us:=[.bool m.2.2.1,t.v]) ST_49 e0 (a.cAtP R1 (mtP mhP)) rfl rfl) (sY rfl (lbs_ [.bool D,u.v] ST_49 e0 a R3) (qS rfl (qS rfl (sY rfl (yIa SL_135 e0 e0 a (rdOP R1) c7) (sY rfl (yFe FL_132_1 e0) (sY rfl (yCfn (cs:=[.bool L.1,f4.v,.bool L.2.2.1,a8.v]) (us:=[.bool L.2.2.1,a8.v]) ST_49 e0 (a.cAtP R1 mhP) rfl rfl) QSn))))))))))) ?_))
        replace a:=(a.k15).fz
        refine kO (w_dy f3 F0 F1 a) fun j5 w a=>dU (D1 0 31 12 rfl (Rn (qS rfl (qS rfl (sY rfl (yIa SL_135 e0 e0 a (rdOP R1) K) (sY rfl (yFe FL_132_1 e0) (sY rfl (yCfn (cs:=[.bool m.1,W.v,.bool m.2.2.1,t.v]) (us:=[.bool m.2.2.1,t.v]) ST_49 e0 (a.cAtP R1 (mtP mhP)) rfl rfl) QSn))))) (kO (w_dz c8 F4 F0 a) fun B w a=>dU (D0 57344 0 17 rfl (qR 3 rfl (Rn QSn ?_))))))
        replace a:=a.k16
        refine LT wn (r_stbn (vals':=[.bool o.1,B.v]) (us:=[.bool o.1,B.v]) a ST_49 e0 e0 rfl rfl (one_of rfl) rfl) fun w a=>D1 0 32768 18 rfl (Rn (qS rfl QSn) (Ly wn (a_ (.bool o.2.2) e0) (dU (Dw 0 0 (Rn QSn ?_)))))
        replace a:=(a.k15).unpin
        exact jr (_,_) ((a.k3x).facts (allC F1 (allT (allT (allT (allT (allT (allT allI))))))))
      rintro ⟨a7,V⟩ g w a
      refine q 2 rfl (y (lbs_ [.bool D,u.v] ST_49 e0 a R1) (y (lbs_ [.bool o.1,V.v] ST_49 e0 a R3) (bE c fun q4 j6 c=>?_)))
      replace a:=(a.k15).fz
      refine cO (w_du j6 F1 F0 a) fun q5 w a=>?_
      replace a:=a.k15
      refine sB rfl a ST_49 fun w a=>q 8 rfl ?_
      cases c
      exact ln _ ((a.k3y).fc)
     ·refine q 2 rfl ?_
      cases c
      exact lx _ a
    rintro ⟨R,c1⟩ g w q6 a c
    refine q 7 rfl (cI c (fun j7 c=>?_) fun j7 c=>?_)
    ·refine q 8 rfl (bE c fun f6 f7 c=>y (yIa SL_135 e0 e0 a rO3 f7) ?_)
     obtain ⟨q7,q8,cc555,a⟩:=a.ld rO3 f7
     replace a:=a.eltP
     obtain ⟨q9,r0,rfl,a⟩:=a
     replace a:=a.eltB
     obtain ⟨rfl,a⟩:=a
     replace a:=a.eltP
     obtain ⟨r1,r2,rfl,a⟩:=a
     replace a:=a.eltS
     obtain ⟨j8,rfl,a⟩:=a
     replace a:=a.swf.eltP
     obtain ⟨r5,r6,rfl,a⟩:=a
     replace a:=a.eltB
     obtain ⟨rfl,a⟩:=a
     replace a:=a.eltS
     obtain ⟨j9,rfl,a⟩:=a
     refine y (yCn (cs:=[.bool f6.1,j8.v,.bool f6.2.2.1,j9.v]) ST_132 rfl e0 cc555) (yb (rAl a ZT_132) fun f8 w a=>sB rfl a ST_132 fun w a=>q 11 rfl ?_)
     obtain ⟨⟨c9,f9,a9,g0⟩,k0,c⟩:=bs c
     refine lpN (Hdr×Hdr) (Hdr×Hdr) k0 [3,4,7,8,9,11,12] (fun (b0,d0,b1,d1,d2) (X,Z)=>[(13,iV d2)]) (fun (b0,d0,b1,d1,d2) (X,Z)=>St w0 (imm (rI .u32) h.v f.2::imm (rI .u32) j.v i.2::imm (rI .u32) X.v d0::imm (rI .u32) Z.v d1::ros) (row 135 rH z.v b::fam 132 (rP rB (rP (rS (rI .u32)) (rP rB (rS (rI .u32))))) b r.1::box O 132 [.bool f.1,h.v,.bool i.1,j.v]::row 132 (rP rB (rP (rS (rI .u32)) (rP rB (rS (rI .u32))))) p.v R::box f8 132 [.bool b0,X.v,.bool b1,Z.v]::rs)) (fun | (c9,f9,a9,g0),(b2,a0)=>(.exit 6,[],St w0 (imm (rI .u32) h.v f.2::imm (rI .u32) j.v i.2::imm (rI .u32) b2.v f9::imm (rI .u32) a0.v g0::ros) (row 135 rH z.v b::fam 132 (rP rB (rP (rS (rI .u32)) (rP rB (rS (rI .u32))))) b r.1::box O 132 [.bool f.1,h.v,.bool i.1,j.v]::row 132 (rP rB (rP (rS (rI .u32)) (rP rB (rS (rI .u32))))) p.v R::box f8 132 [.bool c9,b2.v,.bool a9,a0.v]::rs))) rfl (_,_) ((a.k2l).facts (allC F2 (allC F3 (allC F1 (allC F0 (allT (allT (allT (allT allI))))))))) rfl ?_ ?_
     ·clear a
      rintro ⟨b2,a0⟩ g w a
      refine bE c fun r8 d3 c=>bE c fun d4 g1 c=>bE c fun r9 k1 c=>bE c fun s0 b3 c=>bE c fun N d5 c=>bE c fun s1 k2 c=>bE c fun g2 k3 c=>bE c fun s2 g3 c=>q 2 rfl (dS [12,23,24,26] 4 folM ?_)
      replace a:=a.drew
      refine D1 8384511 0 12 rfl (qR 3 rfl (rQ rfl (lbs_ [.bool c9,b2.v] ST_49 e0 a R4) (qR 2 rfl ?_)))
      obtain ⟨s3,b4⟩:=a.famI R1 d3
      refine rQ rfl (yIa SLH_129 e0 e0 a rO0 b4) (rQ rfl (yF1 O_135 e0 a rO0 b4 rfl) (qR 1 rfl (rQ rfl (yIa SL_135 e0 e0 a (rdF R1 b4 d3) g1) (rQ rfl (yFe FL_132_1 e0) ?_))))
      obtain ⟨s4,s5,cc653,a⟩:=a.ld (rdF R1 b4 d3) g1
      replace a:=a.eltP
      obtain ⟨s6,s7,rfl,a⟩:=a
      replace a:=a.eltB
      obtain ⟨rfl,a⟩:=a
      replace a:=a.eltP
      obtain ⟨s8,s9,rfl,a⟩:=a
      replace a:=a.eltS
      obtain ⟨k4,rfl,a⟩:=a
      replace a:=a.swf.eltP
      obtain ⟨t0,t1,rfl,a⟩:=a
      replace a:=a.eltB
      obtain ⟨rfl,a⟩:=a
      replace a:=a.eltS
      obtain ⟨g4,rfl,a⟩:=a
      refine rQ rfl (yCfn (cs:=[.bool d4.1,k4.v,.bool d4.2.2.1,g4.v]) (us:=[.bool d4.2.2.1,g4.v]) ST_49 e0 cc653 rfl rfl) (qR 1 rfl (rQ rfl (lbs_ [.bool a9,a0.v] ST_49 e0 a R4) (qR 2 rfl ?_)))
      obtain ⟨t2,F⟩:=a.famI R1 b3
      refine rQ rfl (yIa SLH_129 e0 e0 a rO0 F) (rQ rfl (yF1 O_135 e0 a rO0 F rfl) (qR 1 rfl (rQ rfl (yIa SL_135 e0 e0 a (rdF R1 F b3) d5) (rQ rfl (yFe FL_132_0 e0) ?_))))
      replace a:=(a.k16).pin0
      obtain ⟨t3,a⟩:=St.pinF F b3 a d5
      obtain ⟨t4,t5,rfl,a⟩:=a.eltP
      obtain ⟨rfl,a⟩:=a.eltB
      obtain ⟨t6,t7,rfl,a⟩:=a.eltP
      obtain ⟨b5,rfl,a⟩:=a.eltS
      replace a:=a.swf
      obtain ⟨t8,t9,rfl,a⟩:=a.eltP
      obtain ⟨rfl,a⟩:=a.eltB
      obtain ⟨g5,rfl,a⟩:=a.eltS
      refine rQ rfl (yCfn (cs:=[.bool N.1,b5.v,.bool N.2.2.1,g5.v]) (us:=[.bool N.1,b5.v]) ST_49 e0 (a.cAtP R0 mhP) rfl rfl) (Rn QSn (kO (w_du k1 F6 F2 a) fun u0 w a=>dU (D1 0 8380419 23 rfl (Rn (qS rfl (qS rfl (qS rfl (sY rfl (lbs_ [.bool a9,a0.v] ST_49 e0 a R5) (qS rfl (qS rfl (sY rfl (yIa SLH_129 e0 e0 a rO2 F) (sY rfl (yF1 O_135 e0 a rO2 F rfl) (qS rfl (sY rfl (yIa SL_135 e0 e0 a (rdFP R1 F b3) d5) (sY rfl (yFe FL_132_0 e0) (sY rfl (yCfn (cs:=[.bool N.1,b5.v,.bool N.2.2.1,g5.v]) (us:=[.bool N.1,b5.v]) ST_49 e0 (a.cAtP R1 mhP) rfl rfl) QSn)))))))))))) (kO (w_du k2 F7 F1 a) fun u1 w a=>dU (D1 0 3 24 rfl (Rn (qS rfl (qS rfl QSn)) ?_)))))))
      replace a:=((a.k16).fz).fz
      refine kT_ (w_d0 k3 F1 F0 a) fun k5 k6 w a=>dU (D0 33554432 3 26 rfl (rQ rfl (yIs SL_135 e0 e0 a rO5 g3) (Rn (qS rfl (qS rfl QSn)) ?_)))
      replace a:=(a.fz.fz).k1e
      refine LT wn (r_stn (cs:=[.bool g2.1,k5.v,.bool g2.2.2.1,k6.v]) a ST_132 e0 e0 rfl (mkP mkB (mkP (mkS F1) (mkP mkB (mkS F0)))) g3) fun w a=>Dw 0 0 (Rn QSn ?_)
      replace a:=(a.k16).unpin
      refine qx 7 rfl ?_
      cases c
      exact lo ((a.k3z).facts (allC F8 (allC F9 (allT (allT (allT (allT (allT (allT (allT (allT (allT (allT (allT (allT allI)))))))))))))))
     rintro ⟨b0,d0,b1,d1,d2⟩ ⟨X,Z⟩ g w u2 a c
     refine q 8 rfl (cI c (fun k7 c=>?_) fun k7 c=>?_)
     ·refine q 4 rfl (bE c fun u3 d6 c=>bE c fun g6 g7 c=>bE c fun g8 g9 c=>bE c fun b6 k8 c=>dS [13,14] 2 folM ?_)
      replace a:=a.drew
      refine D1 8191 0 13 rfl (rQ rfl (lbs_ [.bool b0,X.v,.bool b1,Z.v] ST_132 e0 a R4) (qR 2 rfl ?_))
      obtain ⟨u4,b7⟩:=a.famI R1 d6
      refine rQ rfl (yIa SLH_129 e0 e0 a rO0 b7) (rQ rfl (yF1 O_135 e0 a rO0 b7 rfl) (qR 1 rfl (rQ rfl (yIa SL_135 e0 e0 a (rdF R1 b7 d6) g7) ?_)))
      obtain ⟨u5,u6,cc679,a⟩:=a.ld (rdF R1 b7 d6) g7
      replace a:=a.eltP
      obtain ⟨u7,u8,rfl,a⟩:=a
      replace a:=a.eltB
      obtain ⟨rfl,a⟩:=a
      replace a:=a.eltP
      obtain ⟨u9,v0,rfl,a⟩:=a
      replace a:=a.eltS
      obtain ⟨k9,rfl,a⟩:=a
      replace a:=a.swf.eltP
      obtain ⟨v1,v2,rfl,a⟩:=a
      replace a:=a.eltB
      obtain ⟨rfl,a⟩:=a
      replace a:=a.eltS
      obtain ⟨l0,rfl,a⟩:=a
      refine rQ rfl (yCn (cs:=[.bool g6.1,k9.v,.bool g6.2.2.1,l0.v]) ST_132 rfl e0 cc679) (qR 2 rfl (rQ rfl (yIa SL_135 e0 e0 a rO3 g9) ?_))
      obtain ⟨v3,v4,cc686,a⟩:=a.ld rO3 g9
      replace a:=a.eltP
      obtain ⟨v5,v6,rfl,a⟩:=a
      replace a:=a.eltB
      obtain ⟨rfl,a⟩:=a
      replace a:=a.eltP
      obtain ⟨v7,v8,rfl,a⟩:=a
      replace a:=a.eltS
      obtain ⟨l1,rfl,a⟩:=a
      replace a:=a.swf.eltP
      obtain ⟨v9,w1,rfl,a⟩:=a
      replace a:=a.eltB
      obtain ⟨rfl,a⟩:=a
      replace a:=a.eltS
      obtain ⟨l2,rfl,a⟩:=a
      refine rQ rfl (yCn (cs:=[.bool g8.1,l1.v,.bool g8.2.2.1,l2.v]) ST_132 rfl e0 cc686) (rQ rfl (lbs_ [.bool f.1,h.v,.bool i.1,j.v] ST_132 e0 a R2) (Rn QSn (kT_ (w_d1 k8 F6 F7 F3 F2 F1 F0 F4 F5 a) fun h0 h1 w a=>dU (D0 0 0 14 rfl (Rn QSn ?_)))))
      replace a:=a.k27
      refine LT wn (r_stbn (vals':=[.bool b6.1,h0.v,.bool b6.2.2.1,h1.v]) (us:=[.bool b6.1,h0.v,.bool b6.2.2.1,h1.v]) a ST_132 e0 e0 rfl rfl (one_of rfl) rfl) fun w a=>Dw 0 0 (Rn QSn (qx 7 rfl ?_))
      replace a:=(((a.k16).fz).k16).fz
      cases c
      exact ln (_,_) ((a.k2l).facts (allC F6 (allC F7 (allC F1 (allC F0 (allT (allT (allT (allT (allT (allT (allT (allT (allT (allT allI)))))))))))))))
     ·refine q 2 rfl ?_
      cases c
      exact lx (_,_) a
    ·refine q 2 rfl ?_
     cases c
     exact xo ((a.k3c).fc)
   rintro ⟨b9,c0⟩ g w w2 a c
   refine q 8 rfl (cI c (fun l3 c=>?_) fun l3 c=>?_)
   ·refine q 7 rfl (y (ybuild (us:=[.bool false,hnil.v]) [] SO_49 bp0 rfl) (bE c fun d7 l4 c=>cO (w_f l4 a) fun d8 w a=>y (ybuild (us:=[.bool false,hnil.v,.bool d7.1,d8.v]) [(0,.agg #[.bool false,hnil.v]),(1,.agg #[.bool d7.1,d8.v])] SO_132 (bp2 e0 e0) rfl) (bE c fun w3 h3 c=>y (yIs SL_135 e0 e0 a rO6 h3) ?_)))
    replace a:=a.fz.k3d
    refine yt (r_stn (cs:=[.bool false,hnil.v,.bool d7.1,d8.v]) a ST_132 e0 e0 rfl (mkP mkB (mkP mkSn (mkP mkB (mkS F0)))) h3) fun w a=>q 8 rfl ?_
    cases c
    exact lo ((a.k40).fc)
   ·refine q 2 rfl ?_
    cases c
    exact xo a
  rintro b8 g w w4 a c
  refine q 5 rfl (y (yLen SL_23 e0 a rO2) (bE c fun l5 G c=>q 2 rfl ?_))
  refine jW 7 [3,4,5,7] [(47,.bool l5)] (St w0 ros (row 135 rH z.v b::fam 132 (rP rB (rP (rS (rI .u32)) (rP rB (rS (rI .u32))))) b r.1::row 3 I1 e5.v r.2.1::rs)) rfl (fun h4=>?_) ?_
  ·refine gI 40 G rfl (fun l6 G=>?_) fun l6 G=>?_
   ·refine q 2 rfl (bE G fun w5 h6 G=>y (yIa SL_23 e0 e0 a rO2 h6) (y (yI O_3 e0 a rO2 h6) (q 3 rfl ?_)))
    cases G
    exact h4 _ _ a rfl
   ·refine q 7 rfl ?_
    cases G
    exact h4 _ _ a rfl
  intro g w a
  refine q 2 rfl ?_
  refine cJ c (fun l7 c=>?_) fun l7 c=>?_
  ·refine q 9 rfl ?_
   cases c
   exact lo a
  ·refine q 2 rfl ?_
   cases c
   exact xo (a.k1d)
instance:CL prog 44 (type_of% @w_d5):=⟨@w_d5⟩
end Go.Proofs.YtcoaljcfifecgabGreatDoor
