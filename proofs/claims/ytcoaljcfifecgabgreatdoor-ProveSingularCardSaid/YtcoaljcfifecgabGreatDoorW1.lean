/- Walks: each function computes its model, printed. -/
import Derived.Test.YtcoaljcfifecgabGreatDoorW0
namespace Go.Proofs.YtcoaljcfifecgabGreatDoor
open Go Sx M Go.Proofs.Tryz
set_option maxRecDepth 100000
set_option maxHeartbeats 40000000
set_option linter.unusedVariables false
attribute [local irreducible] wpList Code.wp Calls DR QR QS LA LS St row box fam imm rowS loop
variable {w0:World} {ros:List Fact} {rs:List Res} {w:World}
theorem w_o {f h:LI} {i j:Hdr} {out:Int} (c:m_2 f h=some out) (t:imm (rI .u32) i.v f∈ros) (u:imm (rI .u32) j.v h∈ros) (a:St w0 ros rs w):
  Calls prog 161 #[i.v,j.v] w (fun e w=>e=.returned (iV out)∧St w0 ros rs w):=by
 refine en func161 rfl ntmps161 fun Q b=>?_
 refine z 2 3 ?_
 refine cIn c (fun l c=>?_) fun l c=>?_
 ·refine z 1 5 ?_
  refine bE c fun m n c=>?_
  refine lp n [0,1] (fun d=>[(5,iV d)]) (fun d=>St w0 ros rs) (fun | .inl ()=>(.exit 0,[],St w0 ros rs) | .inr k=>(.ret,[(4,iV k)],St w0 ros rs)) rfl a rfl ?_ ?_
  ·clear a
   intro g w a
   rcases m with ⟨⟩ | k
   ·refine q 8 rfl ?_
    cases c
    exact za b results161 ⟨rfl,a⟩
   ·refine q 2 rfl ?_
    cases c
    exact za b results161 ⟨rfl,a⟩
  rintro d g w x a c
  refine q 7 rfl (cI c (fun o c=>?_) fun o c=>?_)
  ·refine q 5 rfl (bE c fun y A c=>bE c fun B C c=>dS [] 0 folM ?_)
   replace a:=a.drew
   refine z 4 1 ?_
   refine cIn c (fun p c=>?_) fun p c=>?_
   ·refine q 8 rfl ?_
    cases c
    exact lo a
   ·refine q 2 rfl (bE c fun D E c=>bE c fun F G c=>dS [] 0 folM ?_)
    replace a:=a.drew
    refine z 4 1 ?_
    refine cI c (fun r c=>?_) fun r c=>?_
    ·refine q 9 rfl ?_
     cases c
     exact xo a
    ·refine q 10 rfl ?_
     cases c
     exact xo a
  ·refine q 2 rfl ?_
   cases c
   exact xo a
 ·refine z 2 3 ?_
  refine cI c (fun s c=>?_) fun s c=>?_
  ·refine q 8 rfl ?_
   cases c
   exact za b results161 ⟨rfl,a⟩
  ·refine q 9 rfl ?_
   cases c
   exact za b results161 ⟨rfl,a⟩
instance:CL prog 161 (type_of% @w_o):=⟨@w_o⟩
theorem w_p {k m:LI} {o p:Hdr} {out:LI} (c:m_5 k m=some out) (B:imm (rI .u32) o.v k∈ros) (C:imm (rI .u32) p.v m∈ros) (a:St w0 ros rs w):
  Calls prog 162 #[o.v,p.v] w (fun e w=>∃ (r:Hdr),e=.returned (r.v)∧St w0 ros (row 94 (rI .u32) r.v out::rs) w):=by
 refine en func162 rfl ntmps162 fun Q t=>bE c fun s u c=>q 22 rfl ?_
 replace a:=a.rowNh 94 (rI .u32)
 refine lpN Hdr Hdr u [0,1] (fun (d,i,h) f=>[(5,f.v),(6,.int .u64 i),(7,iV h)]) (fun (d,i,h) f=>St w0 ros (row 94 (rI .u32) f.v d::rs)) (fun | s,j=>(.exit 0,[(5,j.v)],St w0 ros (row 94 (rI .u32) j.v s::rs))) rfl _ a rfl ?_ ?_
 ·clear a
  rintro j g w a
  refine q 9 rfl ?_
  cases c
  exact t _ _ _ (fin1r results162 ⟨rfl,rfl⟩ ⟨_,rfl,a⟩)
 rintro ⟨d,i,h⟩ f g w x a c
 refine z 1 3 ?_
 refine cI c (fun y c=>?_) fun y c=>?_
 ·refine z 3 3 ?_;intro D E c
  refine jC Int [0,1,5,7] (fun b=>[(8,.int .u64 b)]) (fun b w=>St w0 ros (row 94 (rI .u32) f.v d::rs) w∧m_3 d h b=some x) rfl ?_ ?_
  ·rintro b g w ⟨a,c⟩
   refine q 6 rfl (yh (rLt (n:=1) (l:=[wc .u32 b]) a SL_47 [.int .u32 (wc .u32 b)] (bp1 e0) rfl rfl (mks1 (cs:=[.int .u32 (wc .u32 b)]) rfl mkI mks0)) fun F w a=>?_)
   refine z 1 15 ?_;intro G H c I w a
   cases c
   exact ln _ (a.k10)
  refine cI c (fun A c=>?_) fun A c=>?_
  ·refine z 2 4 ?_;intro J K c
   exact jx _ ⟨a,c⟩
  ·exact q 1 rfl (jx _ ⟨a,c⟩)
 ·refine q 2 rfl ?_
  cases c
  exact lx _ a
instance:CL prog 162 (type_of% @w_p):=⟨@w_p⟩
theorem w_q {d:Bool} {f:LI} {g:Bool} {h:LI} {i j:Hdr} {out:Bool×LI} (c:m_6 d f g h=some out) (n:imm (rI .u32) i.v f∈ros) (o:imm (rI .u32) j.v h∈ros) (a:St w0 ros rs w):
  Calls prog 135 #[.agg #[.bool d,i.v],.agg #[.bool g,j.v]] w (fun e w=>∃ (k:Hdr),e=.returned (.agg #[.bool out.1,k.v])∧St w0 ros (row 94 (rI .u32) k.v out.2::rs) w):=by
 refine en func135 rfl ntmps135 fun Q b=>?_
 refine z 3 3 ?_;intro p w a r w a s w a
 refine bE c fun t u c=>bE c fun x A c=>dS [2,5,6,7] 4 folM ?_
 replace a:=a.drew
 refine z 8 0 ?_;intro B w a C w a
 refine y (yeqb (by kernel_rfl) e0 e0) (q 2 rfl ?_)
 refine cJ c (fun l c=>?_) fun l c=>?_
 ·refine q 1 rfl (bE c fun D E c=>bE c fun F G c=>dS [4,5,6] 3 folM ?_)
  replace a:=a.drew
  refine z 4 3 ?_;intro H w a I w a w a
  cases c
  exact b _ _ _ (fin1r results135 (rcs2 rfl rfl a R0 ST_49 rfl) ⟨_,rfl,((a.k14).fc)⟩)
 ·refine z 1 3 ?_;intro J K c w a
  refine cI c (fun m c=>?_) fun m c=>?_
  ·refine q 1 rfl (bE c fun L N c=>bE c fun O R c=>dS [4,5,6] 3 folM ?_)
   replace a:=a.drew
   refine z 4 3 ?_;intro S w a T w a w a
   cases c
   exact b _ _ _ (fin1r results135 (rcs2 rfl rfl a R0 ST_49 rfl) ⟨_,rfl,((a.k14).fc)⟩)
  ·refine q 3 rfl (bE c fun U V c=>bE c fun W X c=>dS [4,5,6] 3 folM ?_)
   replace a:=a.drew
   refine z 4 2 ?_;intro Z w a a0 w a w a
   cases c
   exact b _ _ _ (fin1r results135 (rcs2 rfl rfl a R0 ST_49 rfl) ⟨_,rfl,((a.k14).fc)⟩)
instance:CL prog 135 (type_of% @w_q):=⟨@w_q⟩
theorem w_r {b:Bool} {d:LI} {f:Bool} {g:LI} {h i:Hdr} {out:Bool×LI} (c:m_7 b d f g=some out) (l:imm (rI .u32) h.v d∈ros) (m:imm (rI .u32) i.v g∈ros) (a:St w0 ros rs w):
  Calls prog 96 #[.agg #[.bool b,h.v],.agg #[.bool f,i.v]] w (fun e w=>∃ (j:Hdr),e=.returned (.agg #[.bool out.1,j.v])∧St w0 ros (row 94 (rI .u32) j.v out.2::rs) w):=by
 refine en func96 rfl ntmps96 fun Q k=>?_
 refine z 3 3 ?_;intro n w a o w a p w a
 refine bE c fun q r c=>bE c fun s t c=>dS [2,3,4] 3 folM ?_
 replace a:=a.drew
 refine z 5 2 ?_;intro u w a x w a w a
 cases c
 exact k _ _ _ (fin1r results96 (rcs2 rfl rfl a R0 ST_49 rfl) ⟨_,rfl,((a.k14).fc)⟩)
instance:CL prog 96 (type_of% @w_r):=⟨@w_r⟩
theorem w_s {h:Bool} {n:LI} {o:Int} {i:Hdr} {out:Bool×LI} (c:m_9 h n o=some out) (D:imm (rI .u32) i.v n∈ros) (a:St w0 ros rs w):
  Calls prog 41 #[.agg #[.bool h,i.v],iV o] w (fun e w=>∃ (p:Hdr),e=.returned (.agg #[.bool out.1,p.v])∧St w0 ros (row 94 (rI .u32) p.v out.2::rs) w):=by
 refine en func41 rfl ntmps41 fun Q r=>q 2 rfl (yb (r_box (vals:=[.bool h,i.v]) a e0 rfl) fun R w a=>yb (rAl a ZT_49) fun s w a=>q 4 rfl (y (lbs_ [.bool h,i.v] ST_49 e0 a R1) (bE c fun b E c=>cO (w_g E D a) fun t w a=>?_)))
 replace a:=a.k15
 refine sB rfl a ST_49 fun w a=>q 9 rfl (cI c (fun F c=>?_) fun F c=>?_)
 ·refine q 1 rfl (bE c fun S G c=>bE c fun u H c=>dS [5,6,7] 3 folM ?_)
  replace a:=a.drew
  refine D1 31 0 5 rfl (qR 1 rfl (rQ rfl (lb_ (.bool b.1) O_4 e0 a R0) (qR 1 rfl (rQ rfl (lb_ t.v O_47 e0 a R0) (qR 1 rfl (Rn QSn ?_))))))
  replace a:=(a.k16).fz
  refine kO (w_k G F0 a) fun T w a=>dU (D1 0 3 6 rfl (Rn (qS rfl (sY rfl (lb_ (.bool b.1) O_4 e0 a R1) QSn)) ?_))
  replace a:=a.fz
  refine kO (w_e H F0 a) fun x w a=>dU (D0 0 0 7 rfl (Rn QSn ?_))
  replace a:=a.k15
  refine LT wn (r_stbn (vals':=[.bool u.1,x.v]) (us:=[.bool u.1,x.v]) a ST_49 e0 e0 rfl rfl (one_of rfl) rfl) fun w a=>Dw 0 0 (Rn QSn (qx 3 rfl ?_))
  cases c
  exact r _ _ _ (fin1r results41 (rcs2 rfl rfl a R0 ST_49 rfl) ⟨_,rfl,((a.k12).fc)⟩)
 ·refine q 5 rfl (y (lb_ t.v O_47 e0 a R0) (bE c fun I J c=>q 2 rfl ?_))
  replace a:=(a.k16).fz
  refine cO (w_l J F0 a) fun U w a=>q 10 rfl (y (lb_ (.bool b.1) O_4 e0 a R1) (bE c fun j K c=>q 1 rfl ?_))
  replace a:=a.fz
  refine cO (w_e K F0 a) fun k w a=>yb (rAl a ZT_49) fun z w a=>sB rfl a ST_49 fun w a=>q 6 rfl (y (lb_ (.bool b.1) O_4 e0 a R2) (q 1 rfl ?_))
  refine jW 2 [4,7] [(35,.bool (b.1 && I.2))] (St w0 ros (box s 49 [.bool false,hnil.v]::row 94 (rI .u32) k.v j.2::box z 49 [.bool j.1,k.v]::rs)) rfl (fun A=>?_) ?_
  ·refine gB 33 rfl (fun m=>?_) fun m=>?_
   ·exact q 2 rfl (A _ _ ((a.k17).fc) (hasC (congrArg Value.bool (andT m)) rfl))
   ·exact q 2 rfl (A _ _ ((a.k17).fc) (hasC (congrArg Value.bool (andF m)) rfl))
  intro g w a
  refine q 2 rfl ?_
  refine jC (Bool×LI×Hdr) [4,7] (fun (d,l,f)=>[]) (fun (d,l,f) w=>St w0 ros (box s 49 [.bool false,hnil.v]::row 94 (rI .u32) f.v l::box z 49 [.bool d,f.v]::rs) w∧m_8 d l=some out) rfl ?_ ?_
  ·rintro ⟨d,l,f⟩ g w ⟨a,c⟩
   refine q 3 rfl (y (lbs_ [.bool d,f.v] ST_49 e0 a R2) (sB rfl a ST_49 fun w a=>q 3 rfl ?_))
   cases c
   exact r _ _ _ (fin1r results41 (rcs2 rfl rfl a R0 ST_49 rfl) ⟨_,rfl,(a.k12)⟩)
  refine cJ c (fun L c=>?_) fun L c=>?_
  ·refine bE c fun V N c=>bE c fun B O c=>dS [1,2,3] 3 folM ?_
   replace a:=a.drew
   refine D1 1 0 1 rfl (rQ rfl (lbs_ [.bool j.1,k.v] ST_49 e0 a R2) (Rn QSn (kO (w_f N a) fun W w a=>dU (D1 0 1 2 rfl (Rn (sY rfl (lbs_ [.bool j.1,k.v] ST_49 e0 a R3) QSn) ?_)))))
   replace a:=((a.k15).fz).fz
   refine kO (w_r O F1 F0 a) fun C w a=>dU (D0 0 0 3 rfl (Rn QSn ?_))
   replace a:=a.k15
   exact LT wn (r_stbn (vals':=[.bool B.1,C.v]) (us:=[.bool B.1,C.v]) a ST_49 e0 e0 rfl rfl (one_of rfl) rfl) fun w a=>Dw 0 0 (Rn QSn (qx 0 rfl (jx (_,_,_) ⟨((a.k18).fc),c⟩)))
  ·exact q 1 rfl (jx (_,_,_) ⟨a,c⟩)
instance:CL prog 41 (type_of% @w_s):=⟨@w_s⟩
theorem w_t {j:Bool} {k:LI} {l:Int} {m:Hdr} {out:Bool×LI} (c:m_bb j k l=some out) (u:imm (rI .u32) m.v k∈ros) (a:St w0 ros rs w):
  Calls prog 119 #[.agg #[.bool j,m.v],iV l] w (fun e w=>∃ (n:Hdr),e=.returned (.agg #[.bool out.1,n.v])∧St w0 ros (row 94 (rI .u32) n.v out.2::rs) w):=by
 refine en func119 rfl ntmps119 fun Q x=>?_
 refine z 2 4 ?_;intro o w a p w a
 obtain ⟨⟨r,s,t⟩,y,c⟩:=bs c
 refine lpN Hdr Hdr y [2,4] (fun (d,f,h) b=>[(1,iV d)]) (fun (d,f,h) b=>St w0 (imm (rI .u32) b.v h::ros) (box o 49 [.bool f,b.v]::box p 49 [.bool false,hnil.v]::rs)) (fun | (r,s,t),i=>(.exit 0,[(1,iV r)],St w0 (imm (rI .u32) i.v t::ros) (box o 49 [.bool s,i.v]::box p 49 [.bool false,hnil.v]::rs))) rfl _ ((a.k16).facts (allC u allI)) rfl ?_ ?_
 ·clear a
  rintro i g w a
  refine z 3 3 ?_;intro B C c D w a w a
  cases c
  exact x _ _ _ (fin1r results119 (rcs2 rfl rfl a R0 ST_49 rfl) ⟨_,rfl,((a.k12).fc)⟩)
 rintro ⟨d,f,h⟩ b g w E a c
 refine q 7 rfl (cI c (fun A c=>?_) fun A c=>?_)
 ·refine z 3 8 ?_;intro F G c H w a w a
  replace a:=(a.k16).fz
  cases c
  exact ln _ (a.facts (allC F0 (allT (allT allI))))
 ·refine q 2 rfl ?_
  cases c
  exact lx _ a
instance:CL prog 119 (type_of% @w_t):=⟨@w_t⟩
theorem w_u {i out:Int} (c:m_be i=some out) (a:St w0 ros rs w):
  Calls prog 148 #[.int .u32 i] w (fun e w=>e=.returned (iV out)∧St w0 ros rs w):=by
 refine en func148 rfl ntmps148 fun Q j=>q 12 rfl ?_
 refine jC (Int×Int) [] (fun (b,d)=>[(0,.int .u32 b),(2,iV d)]) (fun (b,d) w=>St w0 ros rs w∧m_bd b d=some out) rfl ?_ ?_
 ·rintro ⟨b,d⟩ g w ⟨a,c⟩
  refine q 8 rfl ?_
  refine jC (Int×Int) [] (fun (f,h)=>[(0,.int .u32 f),(2,iV h)]) (fun (f,h) w=>St w0 ros rs w∧m_bc f h=some out) rfl ?_ ?_
  ·rintro ⟨f,h⟩ g w ⟨a,c⟩
   refine bE c fun n k c=>q 6 rfl (y (yixs (by kernel_rfl) rfl e0 (by kernel_rfl) k) (q 6 rfl ?_))
   cases c
   exact za j results148 ⟨rfl,a⟩
  refine cI c (fun l c=>?_) fun l c=>?_
  ·exact q 12 rfl (jx (_,_) ⟨a,c⟩)
  ·exact q 1 rfl (jx (_,_) ⟨a,c⟩)
 refine cI c (fun m c=>?_) fun m c=>?_
 ·exact q 10 rfl (jx (_,_) ⟨a,c⟩)
 ·exact q 1 rfl (jx (_,_) ⟨a,c⟩)
instance:CL prog 148 (type_of% @w_u):=⟨@w_u⟩
theorem w_v {b:Bool} {d:LI} {f:Hdr} {out:Int} (c:m_bf b d=some out) (i:imm (rI .u32) f.v d∈ros) (a:St w0 ros rs w):
  Calls prog 113 #[.agg #[.bool b,f.v]] w (fun e w=>e=.returned (iV out)∧St w0 ros rs w):=by
 refine en func113 rfl ntmps113 fun Q g=>?_
 refine z 4 3 ?_;intro j w a k l c m w a
 refine cI c (fun h c=>?_) fun h c=>?_
 ·refine q 7 rfl ?_
  cases c
  exact za g results113 ⟨rfl,(a.k19)⟩
 ·refine z 5 5 ?_;intro n o c p r c w a
  cases c
  exact za g results113 ⟨rfl,(a.k19)⟩
instance:CL prog 113 (type_of% @w_v):=⟨@w_v⟩
theorem w_w {f:Bool} {i:LI} {j:Int} {h:Hdr} {out:Bool×Bool×LI×Int} (c:m_bg f i j=some out) (A:imm (rI .u32) h.v i∈ros) (B:globF∈ros) (a:St w0 ros rs w):
  Calls prog 64 #[.agg #[.bool f,h.v],iV j] w (fun e w=>∃ (k:Hdr),e=.returned (.agg #[.bool out.1,.bool out.2.1,k.v,iV out.2.2.2])∧St w0 (imm (rI .u32) k.v out.2.2.1::ros) rs w):=by
 refine en func64 rfl ntmps64 fun Q d=>?_
 refine z 8 3 ?_;intro o w a p w a C D c E w a r w a w a
 refine cI c (fun s c=>?_) fun s c=>?_
 ·refine z 2 4 ?_;intro w a
  cases c
  replace a:=a.immNh (rI .u32)
  exact d _ _ _ (fin1r results64 (rcs2 rfl rfl a R0 ST_63 rfl) ⟨_,rfl,(a.k1a)⟩)
 ·refine q 9 rfl (cI c (fun t c=>?_) fun t c=>?_)
  ·refine z 2 4 ?_;intro F G c w a w a
   cases c
   replace a:=a.immNh (rI .u32)
   exact d _ _ _ (fin1r results64 (rcs2 rfl rfl a R0 ST_63 rfl) ⟨_,rfl,(a.k1a)⟩)
  ·refine z 8 8 ?_;intro H I c w a J K c L w a w a l N c m w a w a
   refine bE c fun u b c=>?_
   refine jW 6 [2,4,5,7] [(36,.bool u)] (St w0 (imm (rI .u32) m.v l.2::ros) (box o 49 [.bool f,h.v]::box p 63 [.bool false,.bool false,hnil.v,iV 0]::box r 49 [.bool l.1,m.v]::rs)) rfl (fun n=>?_) ?_
   ·refine gI 30 b rfl (fun x b=>?_) fun x b=>?_
    ·refine q 6 rfl ?_
     cases b
     replace a:=(a.k16).fz
     exact n _ _ ((a.k18).facts (allC F0 (allT (allT (allT allI))))) rfl
    ·refine z 1 0 ?_
     refine bE b fun O R b=>?_
     refine z 1 3 ?_;intro w a
     cases b
     exact n _ _ ((a.k18).facts (allC F0 (allT (allT (allT allI))))) rfl
   intro g w a
   refine q 2 rfl ?_
   refine cJ c (fun y c=>?_) fun y c=>?_
   ·refine z 2 4 ?_;intro S T c w a w a
    cases c
    replace a:=a.immNh (rI .u32)
    exact d _ _ _ (fin1r results64 (rcs2 rfl rfl a R0 ST_63 rfl) ⟨_,rfl,((a.k1b).facts (allC F0 (allT (allT allI))))⟩)
   ·refine z 5 3 ?_;intro w a w a
    cases c
    exact d _ _ _ (fin1r results64 (rcs2 rfl rfl a R0 ST_63 rfl) ⟨_,rfl,(a.k1b)⟩)
instance:CL prog 64 (type_of% @w_w):=⟨@w_w⟩
theorem w_x {b:Int} {out:Bool×Bool×LI×Int} (c:m_bh b=some out) (g:globF∈ros) (a:St w0 ros rs w):
  Calls prog 46 #[iV b] w (fun e w=>∃ (d:Hdr),e=.returned (.agg #[.bool out.1,.bool out.2.1,d.v,iV out.2.2.2])∧St w0 (imm (rI .u32) d.v out.2.2.1::ros) rs w):=by
 refine en func46 rfl ntmps46 fun Q f=>?_
 refine z 4 3 ?_;intro h w a i j c k w a l m c n w a w a
 cases c
 exact f _ _ _ (fin1r results46 (rcs2 rfl rfl a R0 ST_63 rfl) ⟨_,rfl,((a.k13).facts (allC F0 (allT (allT allI))))⟩)
instance:CL prog 46 (type_of% @w_x):=⟨@w_x⟩
theorem w_y {b d:Bool} {f:LI} {g:Int} {h:Hdr} {out:Bool×Bool×LI×Int} (c:m_bi b d f g=some out) (l:imm (rI .u32) h.v f∈ros) (m:globF∈ros) (a:St w0 ros rs w):
  Calls prog 59 #[.agg #[.bool b,.bool d,h.v,iV g]] w (fun e w=>∃ (i:Hdr),e=.returned (.agg #[.bool out.1,.bool out.2.1,i.v,iV out.2.2.2])∧St w0 (imm (rI .u32) i.v out.2.2.1::ros) rs w):=by
 refine en func59 rfl ntmps59 fun Q j=>?_
 refine z 3 2 ?_;intro n w a o w a
 refine cJ c (fun k c=>?_) fun k c=>?_
 ·refine z 2 4 ?_;intro p q c w a w a
  cases c
  replace a:=a.immNh (rI .u32)
  exact j _ _ _ (fin1r results59 (rcs2 rfl rfl a R0 ST_63 rfl) ⟨_,rfl,(a.k19)⟩)
 ·refine z 4 3 ?_;intro r s c t w a w a
  cases c
  exact j _ _ _ (fin1r results59 (rcs2 rfl rfl a R0 ST_63 rfl) ⟨_,rfl,(a.k19)⟩)
instance:CL prog 59 (type_of% @w_y):=⟨@w_y⟩
theorem w_z {d:Bool} {f:LI} {g:Hdr} {out:Int} (c:m_bj d f=some out) (j:imm (rI .u32) g.v f∈ros) (a:St w0 ros rs w):
  Calls prog 60 #[.agg #[.bool d,g.v]] w (fun e w=>e=.returned (iV out)∧St w0 ros rs w):=by
 refine en func60 rfl ntmps60 fun Q b=>?_
 refine z 6 4 ?_;intro k w a l m c n w a w a
 refine cI c (fun h c=>?_) fun h c=>?_
 ·refine q 8 rfl ?_
  cases c
  exact za b results60 ⟨rfl,(a.k19)⟩
 ·refine z 1 3 ?_
  refine cJ c (fun i c=>?_) fun i c=>?_
  ·refine q 8 rfl ?_
   cases c
   exact za b results60 ⟨rfl,(a.k19)⟩
  ·refine q 9 rfl ?_
   cases c
   exact za b results60 ⟨rfl,(a.k19)⟩
instance:CL prog 60 (type_of% @w_z):=⟨@w_z⟩
theorem w_0 {b:Bool} {d out:Int} (c:m_bk b d=some out) (a:St w0 ros rs w):
  Calls prog 117 #[.bool b,.int .u64 d] w (fun e w=>e=.returned (.int .u64 out)∧St w0 ros rs w):=by
 refine en func117 rfl ntmps117 fun Q f=>q 11 rfl ?_
 refine cJ c (fun g c=>?_) fun g c=>?_
 ·refine q 9 rfl ?_
  cases c
  exact za f results117 ⟨rfl,a⟩
 ·refine q 9 rfl ?_
  cases c
  exact za f results117 ⟨rfl,a⟩
instance:CL prog 117 (type_of% @w_0):=⟨@w_0⟩
theorem w_1 {d:Bool} {b out:Int} (c:m_bl d b=some out) (a:St w0 ros rs w):
  Calls prog 114 #[.bool d,iV b] w (fun e w=>e=.returned (.int .u64 out)∧St w0 ros rs w):=by
 refine en func114 rfl ntmps114 fun Q k=>q 11 rfl ?_
 refine jW 7 [0,1] [(14,.bool ((decide (b=3)) || ((decide (b=1)) && (!d))))] (St w0 ros rs) rfl (fun l=>?_) ?_
 ·refine gB 7 rfl (fun f=>?_) fun f=>?_
  ·exact q 7 rfl (l _ _ a (hasC (congrArg Value.bool (orT f)) rfl))
  ·refine q 3 rfl ?_
   refine jW 3 [0,1,7] [(13,.bool ((decide (b=1)) && (!d)))] (St w0 ros rs) rfl (fun m=>?_) ?_
   ·refine gB 10 rfl (fun h=>?_) fun h=>?_
    ·exact q 3 rfl (m _ _ a (hasC (congrArg Value.bool (andT h)) rfl))
    ·exact q 3 rfl (m _ _ a (hasC (congrArg Value.bool (andF h)) rfl))
   intro g w a
   exact q 1 rfl (l _ _ a (hasC (congrArg Value.bool (orF f)) rfl))
 intro g w a
 refine q 1 rfl ?_
 refine jW 6 [0] [(21,.bool (((decide (b=3)) || ((decide (b=1)) && (!d))) || ((decide (b=2)) && d)))] (St w0 ros rs) rfl (fun n=>?_) ?_
 ·refine gB 15 rfl (fun i=>?_) fun i=>?_
  ·exact q 6 rfl (n _ _ a (hasC (congrArg Value.bool (orT i)) rfl))
  ·refine q 3 rfl ?_
   refine jW 2 [0,15] [(20,.bool ((decide (b=2)) && d))] (St w0 ros rs) rfl (fun o=>?_) ?_
   ·refine gB 18 rfl (fun j=>?_) fun j=>?_
    ·exact q 2 rfl (o _ _ a (hasC (congrArg Value.bool (andT j)) rfl))
    ·exact q 2 rfl (o _ _ a (hasC (congrArg Value.bool (andF j)) rfl))
   intro g w a
   exact q 1 rfl (n _ _ a (hasC (congrArg Value.bool (orF i)) rfl))
 intro g w a
 refine q 2 rfl ?_
 refine cJ c (fun p c=>?_) fun p c=>?_
 ·refine z 1 5 ?_;intro r s c w a
  cases c
  exact za k results114 ⟨rfl,a⟩
 ·refine z 1 4 ?_;intro t u c w a
  cases c
  exact za k results114 ⟨rfl,a⟩
instance:CL prog 114 (type_of% @w_1):=⟨@w_1⟩
end Go.Proofs.YtcoaljcfifecgabGreatDoor
