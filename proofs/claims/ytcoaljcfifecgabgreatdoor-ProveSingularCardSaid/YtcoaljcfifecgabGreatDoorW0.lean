/- Walks: each function computes its model, printed. -/
import Derived.Test.YtcoaljcfifecgabGreatDoorSxX
import Derived.Test.YtcoaljcfifecgabGreatDoorTy
import Derived.Test.YtcoaljcfifecgabGreatDoorM12
import Derived.Test.YtcoaljcfifecgabGreatDoorSxT
namespace Go.Proofs.YtcoaljcfifecgabGreatDoor
open Go Sx M Go.Proofs.Tryz
set_option maxRecDepth 100000
set_option maxHeartbeats 40000000
set_option linter.unusedVariables false
attribute [local irreducible] wpList Code.wp Calls DR QR QS LA LS St row box fam imm rowS loop
variable {w0:World} {ros:List Fact} {rs:List Res} {w:World}
theorem w_a {b d out:Int} (c:m_a b d=some out) (a:St w0 ros rs w):
  Calls prog 9 #[iV b,iV d] w (fun e w=>e=.returned (iV out)∧St w0 ros rs w):=by
 refine en func9 rfl ntmps9 fun Q f=>?_
 refine z 1 5 ?_;intro g h c
 cases c
 exact za f results9 ⟨rfl,a⟩
instance:CL prog 9 (type_of% @w_a):=⟨@w_a⟩
theorem w_b {d:LI} {f:Int} {h:Hdr} {out:Int} (c:m_c d f=some out) (k:imm (rI .u64) h.v d∈ros) (a:St w0 ros rs w):
  Calls prog 11 #[h.v,iV f] w (fun e w=>e=.returned (.int .u64 out)∧St w0 ros rs w):=by
 refine en func11 rfl ntmps11 fun Q i=>?_
 refine z 1 3 ?_
 refine jC Int [] (fun b=>[(5,.int .u64 b)]) (fun b w=>St w0 ros rs w∧m_b b=some out) rfl ?_ ?_
 ·rintro b g w ⟨a,c⟩
  refine q 21 rfl ?_
  cases c
  exact za i results11 ⟨rfl,a⟩
 refine cI c (fun j c=>?_) fun j c=>?_
 ·refine z 4 3 ?_;intro l m c w a n o c
  exact jx _ ⟨a,c⟩
 ·exact q 1 rfl (jx _ ⟨a,c⟩)
instance:CL prog 11 (type_of% @w_b):=⟨@w_b⟩
theorem w_c {b:Int} {out:Bool} (c:m_d b=some out) (a:St w0 ros rs w):
  Calls prog 57 #[.int .u64 b] w (fun e w=>e=.returned (.bool out)∧St w0 ros rs w):=by
 refine en func57 rfl ntmps57 fun Q d=>q 15 rfl ?_
 cases c
 exact za d results57 ⟨rfl,a⟩
instance:CL prog 57 (type_of% @w_c):=⟨@w_c⟩
theorem w_d {m:LI} {o:Hdr} {out:LI} (c:m_g m=some out) (E:imm (rI .u32) o.v m∈ros) (a:St w0 ros rs w):
  Calls prog 109 #[o.v] w (fun e w=>∃ (p:Hdr),e=.returned (p.v)∧St w0 ros (row 94 (rI .u32) p.v out::rs) w):=by
 refine en func109 rfl ntmps109 fun Q u=>?_
 refine z 1 5 ?_
 refine bE c fun r x c=>?_
 refine lp x [0] (fun f=>[(3,iV f)]) (fun f=>St w0 ros rs) (fun | r=>(.exit 0,[(3,iV r)],St w0 ros rs)) rfl a rfl ?_ ?_
 ·clear a
  intro g w a
  refine bE c fun s y c=>q 14 rfl ?_
  replace a:=a.rowNh 94 (rI .u32)
  refine lpN Hdr Hdr y [0,3] (fun (h,i) d=>[(4,d.v),(5,iV i)]) (fun (h,i) d=>St w0 ros (row 94 (rI .u32) d.v h::rs)) (fun | s,j=>(.exit 2,[(4,j.v)],St w0 ros (row 94 (rI .u32) j.v s::rs))) rfl _ a rfl ?_ ?_
  ·clear a
   rintro j g w a
   refine q 9 rfl ?_
   cases c
   exact u _ _ _ (fin1r results109 ⟨rfl,rfl⟩ ⟨_,rfl,a⟩)
  rintro ⟨h,i⟩ d g w F a c
  refine q 8 rfl (cI c (fun A c=>?_) fun A c=>?_)
  ·refine z 2 0 ?_;intro k G c
   refine yh (rLt (n:=1) (l:=[k]) a SL_47 [.int .u32 k] (bp1 e0) rfl rfl (mks1 (cs:=[.int .u32 k]) rfl mkI mks0)) fun H w a=>?_
   refine z 1 9 ?_;intro I J c K w a
   cases c
   exact ln _ (a.k10)
  ·refine q 2 rfl ?_
   cases c
   exact lx _ a
 rintro f g w L a c
 refine bE c fun B b c=>q 6 rfl ?_
 refine jW 7 [0,3] [(17,.bool B)] (St w0 ros rs) rfl (fun t=>?_) ?_
 ·refine gI 10 b rfl (fun C b=>?_) fun C b=>?_
  ·refine q 3 rfl (bE b fun N O b=>?_)
   refine z 2 2 ?_
   cases b
   exact t _ _ a rfl
  ·refine q 7 rfl ?_
   cases b
   exact t _ _ a rfl
 intro g w a
 refine q 2 rfl ?_
 refine cJ c (fun D c=>?_) fun D c=>?_
 ·refine q 9 rfl ?_
  cases c
  exact lo a
 ·refine q 2 rfl ?_
  cases c
  exact xo a
instance:CL prog 109 (type_of% @w_d):=⟨@w_d⟩
theorem w_e {b:Bool} {f:LI} {h:Hdr} {out:Bool×LI} (c:m_h b f=some out) (o:imm (rI .u32) h.v f∈ros) (a:St w0 ros rs w):
  Calls prog 51 #[.bool b,h.v] w (fun e w=>∃ (i:Hdr),e=.returned (.agg #[.bool out.1,i.v])∧St w0 ros (row 94 (rI .u32) i.v out.2::rs) w):=by
 refine en func51 rfl ntmps51 fun Q l=>?_
 refine z 2 7 ?_;intro m w a j p c n w a
 refine jW 4 [1,4] [(12,.bool (b && (decide ((0:Int) < (j.length:Int)))))] (St w0 ros (row 94 (rI .u32) n.v j::box m 49 [.bool false,hnil.v]::rs)) rfl (fun k=>?_) ?_
 ·refine gB 8 rfl (fun d=>?_) fun d=>?_
  ·refine z 1 2 ?_
   exact k _ _ a (hasC (congrArg Value.bool (andT d)) rfl)
  ·exact q 4 rfl (k _ _ a (hasC (congrArg Value.bool (andF d)) rfl))
 intro g w a
 refine z 2 3 ?_;intro w a
 cases c
 exact l _ _ _ (fin1r results51 (rcs2 rfl rfl a R0 ST_49 rfl) ⟨_,rfl,(a.k11)⟩)
instance:CL prog 51 (type_of% @w_e):=⟨@w_e⟩
theorem w_f {d:Int} {out:Bool×LI} (c:m_j d=some out) (a:St w0 ros rs w):
  Calls prog 21 #[iV d] w (fun e w=>∃ (f:Hdr),e=.returned (.agg #[.bool out.1,f.v])∧St w0 ros (row 94 (rI .u32) f.v out.2::rs) w):=by
 refine en func21 rfl ntmps21 fun Q h=>?_
 refine z 1 16 ?_;intro i w a
 refine jC Int [0,2] (fun b=>[(3,.int .u64 b)]) (fun b w=>St w0 ros (box i 49 [.bool false,hnil.v]::rs) w∧m_i d b=some out) rfl ?_ ?_
 ·rintro b g w ⟨a,c⟩
  refine q 10 rfl (yh (rLt (n:=2) (l:=[wc .u32 b,wc .u32 (wsrc .u64 b 32)]) a SL_47 [.int .u32 (wc .u32 b),.int .u32 (wc .u32 (wsrc .u64 b 32))] (bp2 e0 e0) rfl rfl (mks1 (cs:=[.int .u32 (wc .u32 b)]) rfl mkI (mks1 (cs:=[.int .u32 (wc .u32 (wsrc .u64 b 32))]) rfl mkI mks0))) fun k w a=>?_)
  refine z 2 3 ?_;intro m o c p w a w a
  cases c
  exact h _ _ _ (fin1r results21 (rcs2 rfl rfl a R0 ST_49 rfl) ⟨_,rfl,((a.k11).fc)⟩)
 refine cI c (fun j c=>?_) fun j c=>?_
 ·exact q 8 rfl (jx _ ⟨a,c⟩)
 ·exact q 1 rfl (jx _ ⟨a,c⟩)
instance:CL prog 21 (type_of% @w_f):=⟨@w_f⟩
theorem w_g {b:Bool} {d:LI} {f:Hdr} {out:Bool×LI} (c:m_k b d=some out) (i:imm (rI .u32) f.v d∈ros) (a:St w0 ros rs w):
  Calls prog 93 #[.agg #[.bool b,f.v]] w (fun e w=>∃ (g:Hdr),e=.returned (.agg #[.bool out.1,g.v])∧St w0 ros (row 94 (rI .u32) g.v out.2::rs) w):=by
 refine en func93 rfl ntmps93 fun Q h=>?_
 refine z 6 3 ?_;intro j w a k w a l m c n w a w a
 cases c
 exact h _ _ _ (fin1r results93 (rcs2 rfl rfl a R0 ST_49 rfl) ⟨_,rfl,(a.k12)⟩)
instance:CL prog 93 (type_of% @w_g):=⟨@w_g⟩
theorem w_h {out:Bool×Bool×Int} (c:m_l=some out) (a:St w0 ros rs w):
  Calls prog 63 #[] w (fun e w=>e=.returned (.agg #[.bool out.1,.bool out.2.1,hnil.v,iV out.2.2])∧St w0 ros rs w):=by
 refine en func63 rfl ntmps63 fun Q b=>?_
 refine z 3 3 ?_;intro d w a w a
 cases c
 exact b _ _ _ (fin1r results63 (rcs2 rfl rfl a R0 ST_63 rfl) ⟨rfl,(a.k13)⟩)
instance:CL prog 63 (type_of% @w_h):=⟨@w_h⟩
theorem w_i {d:Bool} {f:LI} {h:Hdr} {out:Int} (c:m_n d f=some out) (t:imm (rI .u32) h.v f∈ros) (k:globF∈ros) (a:St w0 ros rs w):
  Calls prog 118 #[.agg #[.bool d,h.v]] w (fun e w=>e=.returned (iV out)∧St w0 ros rs w):=by
 refine en func118 rfl ntmps118 fun Q i=>?_
 refine z 3 10 ?_;intro u w a l x c m w a
 refine bE c fun n o c=>?_
 refine lp o [3] (fun b=>[(4,iV b)]) (fun b=>St w0 ros (row 94 (rI .u32) m.v l::rs)) (fun | .inl ()=>(.exit 0,[],St w0 ros rs) | .inr j=>(.ret,[(2,iV j)],St w0 ros rs)) rfl (a.k10) rfl ?_ ?_
 ·clear a
  intro g w a
  rcases n with ⟨⟩ | j
  ·refine q 8 rfl ?_
   cases c
   exact za i results118 ⟨rfl,a⟩
  ·refine q 2 rfl ?_
   cases c
   exact za i results118 ⟨rfl,a⟩
 rintro b g w y a c
 refine z 1 3 ?_
 refine cI c (fun p c=>?_) fun p c=>?_
 ·refine z 2 3 ?_;intro A B c
  refine cIn c (fun r c=>?_) fun r c=>?_
  ·refine q 8 rfl ?_
   cases c
   exact lo a
  ·refine z 2 0 ?_;intro C D c
   refine bE c fun E s c=>cZ (tz32_ok s k a) fun w a=>q 7 rfl ?_
   cases c
   exact xo (a.k13)
 ·refine q 2 rfl ?_
  cases c
  exact xo (a.k13)
instance:CL prog 118 (type_of% @w_i):=⟨@w_i⟩
theorem w_j {b:Bool} {d:LI} {f:Hdr} {out:Bool×LI} (c:m_o b d=some out) (i:imm (rI .u32) f.v d∈ros) (a:St w0 ros rs w):
  Calls prog 62 #[.agg #[.bool b,f.v]] w (fun e w=>∃ (g:Hdr),e=.returned (.agg #[.bool out.1,g.v])∧St w0 ros (row 94 (rI .u32) g.v out.2::rs) w):=by
 refine en func62 rfl ntmps62 fun Q h=>?_
 refine z 5 3 ?_;intro j w a k w a l m c n w a w a
 cases c
 exact h _ _ _ (fin1r results62 (rcs2 rfl rfl a R0 ST_49 rfl) ⟨_,rfl,(a.k12)⟩)
instance:CL prog 62 (type_of% @w_j):=⟨@w_j⟩
theorem w_k {m:LI} {o:Int} {p:Hdr} {out:LI} (c:m_q m o=some out) (A:imm (rI .u32) p.v m∈ros) (a:St w0 ros rs w):
  Calls prog 94 #[p.v,iV o] w (fun e w=>∃ (r:Hdr),e=.returned (r.v)∧St w0 ros (row 94 (rI .u32) r.v out::rs) w):=by
 refine en func94 rfl ntmps94 fun Q t=>bE c fun B u c=>q 9 rfl (yh (rMk a SL_47 e0 u) fun C w a=>q 15 rfl ?_)
 obtain ⟨⟨s,d⟩,x,c⟩:=bs c
 refine lpN Hdr Hdr x [0,1] (fun (h,b,i) f=>[(5,f.v),(6,.int .u64 b),(7,iV i)]) (fun (h,b,i) f=>St w0 ros (row 94 (rI .u32) f.v h::rs)) (fun | (s,d),j=>(.exit 0,[(5,j.v),(6,.int .u64 d)],St w0 ros (row 94 (rI .u32) j.v s::rs))) rfl _ a rfl ?_ ?_
 ·clear a
  rintro j g w a
  refine q 7 rfl (yh (rLt (n:=1) (l:=[wc .u32 d]) a SL_47 [.int .u32 (wc .u32 d)] (bp1 e0) rfl rfl (mks1 (cs:=[.int .u32 (wc .u32 d)]) rfl mkI mks0)) fun D w a=>?_)
  refine z 1 4 ?_;intro E F c G w a
  cases c
  exact t _ _ _ (fin1r results94 ⟨rfl,rfl⟩ ⟨_,rfl,(a.k10)⟩)
 rintro ⟨h,b,i⟩ f g w H a c
 refine z 1 3 ?_
 refine cI c (fun y c=>?_) fun y c=>?_
 ·refine z 3 9 ?_;intro I J c k K c
  refine yh (rLt (n:=1) (l:=[wc .u32 (wor .u64 b k)]) a SL_47 [.int .u32 (wc .u32 (wor .u64 b k))] (bp1 e0) rfl rfl (mks1 (cs:=[.int .u32 (wc .u32 (wor .u64 b k))]) rfl mkI mks0)) fun L w a=>?_
  refine z 1 15 ?_;intro N O c R w a
  cases c
  exact ln _ (a.k10)
 ·refine q 2 rfl ?_
  cases c
  exact lx _ a
instance:CL prog 94 (type_of% @w_k):=⟨@w_k⟩
theorem w_l {o:LI} {i:Int} {B:Hdr} {out:LI×Bool} (c:m_v o i=some out) (Z:imm (rI .u32) B.v o∈ros) (a:St w0 ros rs w):
  Calls prog 95 #[B.v,iV i] w (fun e w=>∃ (C:Hdr),e=.returned (.tuple #[C.v,.bool out.2])∧St w0 ros (row 94 (rI .u32) C.v out.1::rs) w):=by
 refine en func95 rfl ntmps95 fun Q J=>bE c fun D K c=>q 18 rfl ?_
 refine lp K [0,1] (fun (s,j)=>[(6,.bool s),(7,iV j)]) (fun (s,j)=>St w0 ros rs) (fun | D=>(.exit 0,[(6,.bool D)],St w0 ros rs)) rfl a rfl ?_ ?_
 ·clear a
  intro g w a
  refine q 23 rfl ?_
  obtain ⟨⟨E,F⟩,L,c⟩:=bs c
  replace a:=a.rowNh 94 (rI .u32)
  refine lpN Hdr Hdr L [0,1,9] (fun (p,d,k) f=>[(6,.bool p),(8,f.v),(10,iV k)]) (fun (p,d,k) f=>St w0 ros (row 94 (rI .u32) f.v d::rs)) (fun | (E,F),t=>(.exit 2,[(6,.bool E),(8,t.v)],St w0 ros (row 94 (rI .u32) t.v F::rs))) rfl _ a rfl ?_ ?_
  ·clear a
   rintro t g w a
   refine q 11 rfl ?_
   cases c
   exact J _ _ _ (fin2r results95 ⟨rfl,rfl⟩ ⟨rfl,rfl⟩ ⟨_,rfl,a⟩)
  rintro ⟨p,d,k⟩ f g w G a c
  refine z 1 3 ?_
  refine cI c (fun N c=>?_) fun N c=>?_
  ·refine z 3 3 ?_;intro a0 a1 c
   refine jC Int [0,1,6,8,9,10] (fun m=>[(11,.int .u64 m)]) (fun m w=>St w0 ros (row 94 (rI .u32) f.v d::rs) w∧m_s k i o d p m=some G) rfl ?_ ?_
   ·rintro m g w ⟨a,c⟩
    refine bE c fun u b c=>q 3 rfl ?_
    refine jN Unit [0,1,6,8,9,10,11] (fun _=>[(75,.bool u)]) (fun _=>St w0 ros (row 94 (rI .u32) f.v d::rs)) rfl ?_ ?_
    ·rcases iteS b with ⟨x,b⟩ | ⟨x,b⟩
     ·refine bE b fun a2 a3 b=>bE b fun a4 O b=>?_
      have R:=someI b
      refine dS [] 0 folM ?_
      replace a:=a.drew
      refine Dw 32767 0 (qR 5 rfl (rK 65 rfl (dT x) ?_))
      refine z 2 0 ?_
      exact rQ rfl (yshl rfl e0 O) (qR 3 rfl (rQ rfl (pt_ (.bool u) e0 rfl (eqv R e0)) (Rn QSn (jr () a))))
     ·have S:=someI b
      refine dS [] 0 folM ?_
      replace a:=a.drew
      exact Dw 32767 0 (qR 5 rfl (rK 65 rfl (dF x) (qR 9 rfl (rQ rfl (pf_ (.bool u) e0 rfl (eqv S rfl)) (Rn QSn (jr () a))))))
    rintro _ g w a
    refine q 1 rfl ?_
    refine jC Bool [0,1,8,9,10,11] (fun r=>[(6,.bool r)]) (fun r w=>St w0 ros (row 94 (rI .u32) f.v d::rs) w∧m_r m i d k r=some G) rfl ?_ ?_
    ·rintro r g w ⟨a,c⟩
     refine z 1 1 ?_;intro y a5 c
     refine yh (rLt (n:=1) (l:=[wc .u32 y]) a SL_47 [.int .u32 (wc .u32 y)] (bp1 e0) rfl rfl (mks1 (cs:=[.int .u32 (wc .u32 y)]) rfl mkI mks0)) fun a6 w a=>?_
     refine z 1 9 ?_;intro a7 a8 c a9 w a
     cases c
     exact ln _ (a.k10)
    refine cJ c (fun T c=>?_) fun T c=>?_
    ·exact q 3 rfl (jx _ ⟨a,c⟩)
    ·exact q 1 rfl (jx _ ⟨a,c⟩)
   refine cI c (fun U c=>?_) fun U c=>?_
   ·refine z 2 5 ?_;intro b0 b1 c
    exact jx _ ⟨a,c⟩
   ·exact q 1 rfl (jx _ ⟨a,c⟩)
  ·refine q 2 rfl ?_
   cases c
   exact lx _ a
 rintro ⟨s,j⟩ g w b2 a c
 refine q 8 rfl ?_
 refine jW 5 [0,1,6,7] [(21,.bool ((decide (j < (wqc .i64 i 32))) && (decide (j < (o.length:Int)))))] (St w0 ros rs) rfl (fun H=>?_) ?_
 ·refine gB 16 rfl (fun A=>?_) fun A=>?_
  ·refine z 1 2 ?_
   exact H _ _ a (hasC (congrArg Value.bool (andT A)) rfl)
  ·exact q 5 rfl (H _ _ a (hasC (congrArg Value.bool (andF A)) rfl))
 intro g w a
 refine q 2 rfl ?_
 refine cJ c (fun V c=>?_) fun V c=>?_
 ·refine q 7 rfl (bE c fun W h c=>?_)
  refine jW 6 [0,1,7] [(31,.bool W)] (St w0 ros rs) rfl (fun I=>?_) ?_
  ·refine gJ 25 h rfl (fun X h=>?_) fun X h=>?_
   ·refine q 6 rfl ?_
    cases h
    exact I _ _ a rfl
   ·refine q 2 rfl (bE h fun b3 b4 h=>?_)
    refine z 2 2 ?_
    cases h
    exact I _ _ a rfl
  intro g w a
  refine q 9 rfl ?_
  cases c
  exact lo a
 ·refine q 2 rfl ?_
  cases c
  exact xo a
instance:CL prog 95 (type_of% @w_l):=⟨@w_l⟩
theorem w_m {b:Bool} {d:LI} {f:Hdr} {out:Bool×LI} (c:m_w b d=some out) (i:imm (rI .u32) f.v d∈ros) (a:St w0 ros rs w):
  Calls prog 136 #[.agg #[.bool b,f.v]] w (fun e w=>∃ (g:Hdr),e=.returned (.agg #[.bool out.1,g.v])∧St w0 ros (row 94 (rI .u32) g.v out.2::rs) w):=by
 refine en func136 rfl ntmps136 fun Q h=>?_
 refine z 6 3 ?_;intro j w a k w a l m c n w a w a
 cases c
 exact h _ _ _ (fin1r results136 (rcs2 rfl rfl a R0 ST_49 rfl) ⟨_,rfl,(a.k12)⟩)
instance:CL prog 136 (type_of% @w_m):=⟨@w_m⟩
theorem w_n {p k:LI} {r s:Hdr} {out:LI} (c:m_0 p k=some out) (E:imm (rI .u32) r.v p∈ros) (F:imm (rI .u32) s.v k∈ros) (a:St w0 ros rs w):
  Calls prog 160 #[r.v,s.v] w (fun e w=>∃ (t:Hdr),e=.returned (t.v)∧St w0 ros (row 94 (rI .u32) t.v out::rs) w):=by
 refine en func160 rfl ntmps160 fun Q y=>q 22 rfl ?_
 obtain ⟨⟨u,h⟩,A,c⟩:=bs c
 replace a:=a.rowNh 94 (rI .u32)
 refine lpN Hdr Hdr A [0,1] (fun (b,m,i) f=>[(5,f.v),(6,.int .u64 m),(7,iV i)]) (fun (b,m,i) f=>St w0 ros (row 94 (rI .u32) f.v b::rs)) (fun | (u,h),o=>(.exit 0,[(5,o.v),(6,.int .u64 h)],St w0 ros (row 94 (rI .u32) o.v u::rs))) rfl _ a rfl ?_ ?_
 ·clear a
  rintro o g w a
  refine q 7 rfl (yh (rLt (n:=1) (l:=[wc .u32 h]) a SL_47 [.int .u32 (wc .u32 h)] (bp1 e0) rfl rfl (mks1 (cs:=[.int .u32 (wc .u32 h)]) rfl mkI mks0)) fun G w a=>?_)
  refine z 1 4 ?_;intro H I c J w a
  cases c
  exact y _ _ _ (fin1r results160 ⟨rfl,rfl⟩ ⟨_,rfl,(a.k10)⟩)
 rintro ⟨b,m,i⟩ f g w x a c
 refine z 2 4 ?_
 refine cI c (fun B c=>?_) fun B c=>?_
 ·refine z 1 3 ?_
  refine jC Int [0,1,5,7] (fun j=>[(6,.int .u64 j)]) (fun j w=>St w0 ros (row 94 (rI .u32) f.v b::rs) w∧m_y i k b j=some x) rfl ?_ ?_
  ·rintro j g w ⟨a,c⟩
   refine z 1 3 ?_
   refine jC Int [0,1,5,7] (fun d=>[(6,.int .u64 d)]) (fun d w=>St w0 ros (row 94 (rI .u32) f.v b::rs) w∧m_x b i d=some x) rfl ?_ ?_
   ·rintro d g w ⟨a,c⟩
    refine q 6 rfl (yh (rLt (n:=1) (l:=[wc .u32 d]) a SL_47 [.int .u32 (wc .u32 d)] (bp1 e0) rfl rfl (mks1 (cs:=[.int .u32 (wc .u32 d)]) rfl mkI mks0)) fun K w a=>?_)
    refine z 1 15 ?_;intro L N c O w a
    cases c
    exact ln _ (a.k10)
   refine cI c (fun C c=>?_) fun C c=>?_
   ·refine z 2 4 ?_;intro R S c
    exact jx _ ⟨a,c⟩
   ·exact q 1 rfl (jx _ ⟨a,c⟩)
  refine cI c (fun D c=>?_) fun D c=>?_
  ·refine z 2 4 ?_;intro T U c
   exact jx _ ⟨a,c⟩
  ·exact q 1 rfl (jx _ ⟨a,c⟩)
 ·refine q 2 rfl ?_
  cases c
  exact lx _ a
instance:CL prog 160 (type_of% @w_n):=⟨@w_n⟩
end Go.Proofs.YtcoaljcfifecgabGreatDoor
