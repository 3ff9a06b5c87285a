/- Walks: each function computes its model, printed. -/
import Derived.Test.YtcoaljcfifecgagGreatDoorW0
namespace Go.Proofs.YtcoaljcfifecgagGreatDoor
open Go Sx M Go.Proofs.Tryz
set_option maxRecDepth 100000
set_option maxHeartbeats 40000000
set_option linter.unusedVariables false
attribute [local irreducible] wpList Code.wp Calls DR QR QS LA LS St
variable {w0:World} {ros:List Fact} {rs:List Res} {w:World}
theorem sparseref01_cmpMag_ok {j k:LI} {l m:Hdr} {out:Int} (c:sparseref01_cmpMag j k=some out) (d:imm (rI .u32) l.v j∈ros) (f:imm (rI .u32) m.v k∈ros) (a:St w0 ros rs w):
  Calls prog 117 #[l.v,m.v] w (fun e w=>e=.returned (iV out)∧St w0 ros rs w):=by
 refine en func117 rfl ntmps117 fun Q h=>q 9 rfl (y (yLen SL_38 e0 a (rdI d)) (q 1 rfl (y (yLen SL_38 e0 a (rdI f)) (q 3 rfl ?_))))
 refine cIn c (fun t c=>?_) fun t c=>?_
 ·refine q 6 rfl (y (yLen SL_38 e0 a (rdI d)) (bE c fun u x c=>q 5 rfl ?_))
  refine lp x [0,1] (fun i=>[(5,iV i)]) (fun i=>St w0 ros rs) (fun | .inl ()=>(.exit 0,[],St w0 ros rs) | .inr n=>(.ret,[(4,iV n)],St w0 ros rs)) rfl a rfl ?_ ?_
  ·clear a
   intro g w a
   rcases u with ⟨⟩ | n
   ·refine q 8 rfl ?_
    cases c
    exact za h results117 ⟨rfl,a⟩
   ·refine q 2 rfl ?_
    cases c
    exact za h results117 ⟨rfl,a⟩
  rintro i g w D a b
  refine q 7 rfl (cI b (fun z b=>?_) fun z b=>?_)
  ·refine q 5 rfl (bE b fun E o b=>bE b fun F p b=>dR [0,0,3,7,0,0,48,112,255] [] 0 folM ?_)
   replace a:=a.drew
   refine Dz [0,1,2,3,4,5,6,7,8] [] (qR 2 rfl (rQ rfl (yIa SL_38 e0 e0 a (rdI d) o) (rQ rfl (yI O_96 e0 a (rdI d) o) (qR 2 rfl (rQ rfl (yIa SL_38 e0 e0 a (rdI f) p) (rQ rfl (yI O_96 e0 a (rdI f) p) (qR 1 rfl (Rn QSn (qx 1 rfl ?_)))))))))
   refine cIn b (fun A b=>?_) fun A b=>?_
   ·refine q 8 rfl ?_
    cases b
    exact lo a
   ·refine q 2 rfl (bE b fun G r b=>bE b fun H s b=>dR [0,0,3,7,0,0,48,112,255] [] 0 folM ?_)
    replace a:=a.drew
    refine Dz [0,1,2,3,4,5,6,7,8] [] (qR 2 rfl (rQ rfl (yIa SL_38 e0 e0 a (rdI d) r) (rQ rfl (yI O_96 e0 a (rdI d) r) (qR 2 rfl (rQ rfl (yIa SL_38 e0 e0 a (rdI f) s) (rQ rfl (yI O_96 e0 a (rdI f) s) (qR 1 rfl (Rn QSn (qx 1 rfl (cI b (fun B b=>?_) fun B b=>?_))))))))))
    ·refine q 9 rfl ?_
     cases b
     exact xo a
    ·refine q 10 rfl ?_
     cases b
     exact xo a
  ·refine q 2 rfl ?_
   cases b
   exact xo a
 ·refine q 4 rfl (y (yLen SL_38 e0 a (rdI d)) (q 1 rfl (y (yLen SL_38 e0 a (rdI f)) (q 3 rfl (cI c (fun C c=>?_) fun C c=>?_)))))
  ·refine q 8 rfl ?_
   cases c
   exact za h results117 ⟨rfl,a⟩
  ·refine q 9 rfl ?_
   cases c
   exact za h results117 ⟨rfl,a⟩
theorem sparseref01_subMag_ok {p r:LI} {s t:Hdr} {out:LI} (c:sparseref01_subMag p r=some out) (j:imm (rI .u32) s.v p∈ros) (k:imm (rI .u32) t.v r∈ros) (a:St w0 ros rs w):
  Calls prog 118 #[s.v,t.v] w (fun e w=>∃ (u:Hdr),e=.returned (u.v)∧St w0 ros (row 96 (rI .u32) u.v out::rs) w):=by
 refine en func118 rfl ntmps118 fun Q B=>bE c fun x C c=>q 22 rfl ?_
 replace a:=a.rowNh 96 (rI .u32)
 refine lpN Hdr Hdr C [0,1] (fun (f,m,i) h=>[(5,h.v),(6,.int .u64 m),(7,iV i)]) (fun (f,m,i) h=>St w0 ros (row 96 (rI .u32) h.v f::rs)) (fun | x,o=>(.exit 0,[(5,o.v)],St w0 ros (row 96 (rI .u32) o.v x::rs))) rfl _ a rfl ?_ ?_
 ·clear a
  rintro o g w a
  refine q 9 rfl ?_
  cases c
  exact B _ _ _ (fin1r results118 ⟨rfl,rfl⟩ ⟨_,rfl,a⟩)
 rintro ⟨f,m,i⟩ h g w D a b
 refine q 5 rfl (y (yLen SL_38 e0 a (rdI j)) (q 3 rfl (cI b (fun E b=>?_) fun E b=>?_)))
 ·refine q 8 rfl (bE b fun H z b=>y (yIa SL_38 e0 e0 a (rdI j) z) (y (yI O_96 e0 a (rdI j) z) (q 11 rfl (y (yLen SL_38 e0 a (rdI k)) (q 3 rfl ?_)))))
  refine jC Int [0,1,5,7] (fun d=>[(8,.int .u64 d)]) (fun d w=>St w0 ros (row 96 (rI .u32) h.v f::rs) w∧sparseref01_subMag_j4 f i d=some D) rfl ?_ ?_
  ·rintro d g w ⟨a,c⟩
   refine q 6 rfl (yh (rLt (n:=1) (l:=[wc .u32 d]) a SL_38 [.int .u32 (wc .u32 d)] (bp1 e0) rfl rfl (mks1 (cs:=[.int .u32 (wc .u32 d)]) rfl mkI mks0)) fun I w a=>bE c fun J F c=>?_)
   replace a:=a.k10
   refine yh (rAp a SL_38 e0 e0 rO1 F) fun K w a=>q 15 rfl ?_
   cases c
   exact ln _ (a.k11)
  refine cI b (fun G b=>?_) fun G b=>?_
  ·exact q 4 rfl (bE b fun L A b=>y (yIa SL_38 e0 e0 a (rdI k) A) (y (yI O_96 e0 a (rdI k) A) (q 4 rfl (jx _ ⟨a,b⟩))))
  ·exact q 1 rfl (jx _ ⟨a,b⟩)
 ·refine q 2 rfl ?_
  cases b
  exact lx _ a
theorem sparseref01_Add_ok {c:Bool} {i:LI} {d:Bool} {j:LI} {g f:Hdr} {out:Bool×LI} (b:sparseref01_Add c i d j=some out) (s:imm (rI .u32) g.v i∈ros) (t:imm (rI .u32) f.v j∈ros) (a:St w0 ros rs w):
  Calls prog 74 #[.agg #[.bool c,g.v],.agg #[.bool d,f.v]] w (fun e w=>∃ (k:Hdr),e=.returned (.agg #[.bool out.1,k.v])∧St w0 ros (row 96 (rI .u32) k.v out.2::rs) w):=by
 refine en func74 rfl ntmps74 fun Q h=>q 2 rfl (yb (r_box (vals:=[.bool c,g.v]) a e0 rfl) fun K w a=>yb (r_box (vals:=[.bool d,f.v]) a e0 rfl) fun L w a=>yb (rAl a ZT_40) fun N w a=>bE b fun O u b=>bE b fun R x b=>q 3 rfl (dR [0,1,3,0,8,31,63,127] [2,5,6,7] 4 folM ?_))
 replace a:=a.drew
 refine D1 [0,1,3,4] [] 2 rfl (qR 1 rfl (rQ rfl (lb_ g.v O_38 e0 a R2) (qR 1 rfl (rQ rfl (lb_ f.v O_38 e0 a R1) (Rn QSn (kO (sparseref01_trim_ok u s a) fun z w a=>dU (D1 [] [3,4] 5 rfl (Rn (qS rfl (sY rfl (lb_ f.v O_38 e0 a R2) QSn)) (kO (sparseref01_trim_ok x t a) fun A w a=>dU (D1 [] [] 6 rfl (Rn QSn ?_)))))))))))
 refine Ly wn (a_ z.v e0) (dU (D1 [] [] 7 rfl (Rn QSn (Ly wn (a_ A.v e0) (dU (Dz [] [] (Rn QSn (qx 5 rfl (y (lb_ (.bool c) O_4 e0 a R4) (q 1 rfl (y (lb_ (.bool d) O_4 e0 a R3) (y (yeqb (by kernel_rfl) e0 e0) (q 2 rfl ?_)))))))))))))
 refine cJ b (fun B b=>?_) fun B b=>?_
 ·refine q 1 rfl (bE b fun S C b=>bE b fun l D b=>dR [0,1,0,0,12,31,63] [4,5,6] 3 folM ?_)
  replace a:=a.drew
  refine D1 [0,1,2,3] [] 4 rfl (qR 1 rfl (rQ rfl (lb_ (.bool c) O_4 e0 a R4) (qR 2 rfl (Rn QSn ?_))))
  replace a:=((a.k10).fz).fz
  refine kO (sparseref01_addMag_ok C F1 F0 a) fun T w a=>dU (D1 [] [0,1] 5 rfl (Rn (qS rfl (sY rfl (lb_ (.bool c) O_4 e0 a R3) QSn)) ?_))
  replace a:=a.fz
  refine kO (sparseref01_make1_ok D F0 a) fun m w a=>dU (D0 [] [] 6 rfl (Rn QSn ?_))
  replace a:=a.k10
  refine LT wn (r_stbn (vals':=[.bool l.1,m.v]) (us:=[.bool l.1,m.v]) a ST_40 e0 e0 rfl rfl (one_of rfl) rfl) fun w a=>Dz [] [] (Rn QSn (qx 3 rfl ?_))
  cases b
  exact h _ _ _ (fin1r results74 (rcs2 rfl rfl a R0 ST_40 rfl) ⟨_,rfl,((a.k15).fc)⟩)
 ·refine q 7 rfl (bE b fun U E b=>?_)
  replace a:=((a.k10).fz).fz
  refine cZ (sparseref01_cmpMag_ok E F1 F0 a) fun w a=>q 3 rfl (cI b (fun F b=>?_) fun F b=>?_)
  ·refine q 1 rfl (bE b fun V G b=>bE b fun n H b=>dR [0,1,0,0,12,31,63] [4,5,6] 3 folM ?_)
   replace a:=a.drew
   refine D1 [0,1,2,3] [] 4 rfl (qR 1 rfl (rQ rfl (lb_ (.bool c) O_4 e0 a R2) (qR 2 rfl (Rn QSn (kO (sparseref01_subMag_ok G F1 F0 a) fun W w a=>dU (D1 [] [0,1] 5 rfl (Rn (qS rfl (sY rfl (lb_ (.bool c) O_4 e0 a R3) QSn)) ?_)))))))
   replace a:=a.fz
   refine kO (sparseref01_make1_ok H F0 a) fun o w a=>dU (D0 [] [] 6 rfl (Rn QSn ?_))
   replace a:=a.k10
   refine LT wn (r_stbn (vals':=[.bool n.1,o.v]) (us:=[.bool n.1,o.v]) a ST_40 e0 e0 rfl rfl (one_of rfl) rfl) fun w a=>Dz [] [] (Rn QSn (qx 3 rfl ?_))
   cases b
   exact h _ _ _ (fin1r results74 (rcs2 rfl rfl a R0 ST_40 rfl) ⟨_,rfl,((a.k15).fc)⟩)
  ·refine q 3 rfl (bE b fun X I b=>bE b fun p J b=>dR [0,1,0,0,12,31,63] [4,5,6] 3 folM ?_)
   replace a:=a.drew
   refine D1 [0,1,2,3] [] 4 rfl (qR 1 rfl (rQ rfl (lb_ (.bool d) O_4 e0 a R1) (qR 2 rfl (Rn QSn (kO (sparseref01_subMag_ok I F0 F1 a) fun Z w a=>dU (D1 [] [0,1] 5 rfl (Rn (qS rfl (sY rfl (lb_ (.bool d) O_4 e0 a R2) QSn)) ?_)))))))
   replace a:=a.fz
   refine kO (sparseref01_make1_ok J F0 a) fun r w a=>dU (D0 [] [] 6 rfl (Rn QSn ?_))
   replace a:=a.k10
   refine LT wn (r_stbn (vals':=[.bool p.1,r.v]) (us:=[.bool p.1,r.v]) a ST_40 e0 e0 rfl rfl (one_of rfl) rfl) fun w a=>Dz [] [] (Rn QSn (qx 2 rfl ?_))
   cases b
   exact h _ _ _ (fin1r results74 (rcs2 rfl rfl a R0 ST_40 rfl) ⟨_,rfl,((a.k15).fc)⟩)
theorem sparseref01_Sub_ok {b:Bool} {h:LI} {f:Bool} {i:LI} {c g:Hdr} {out:Bool×LI} (d:sparseref01_Sub b h f i=some out) (m:imm (rI .u32) c.v h∈ros) (n:imm (rI .u32) g.v i∈ros) (a:St w0 ros rs w):
  Calls prog 57 #[.agg #[.bool b,c.v],.agg #[.bool f,g.v]] w (fun e w=>∃ (j:Hdr),e=.returned (.agg #[.bool out.1,j.v])∧St w0 ros (row 96 (rI .u32) j.v out.2::rs) w):=by
 refine en func57 rfl ntmps57 fun Q o=>q 2 rfl (yb (r_box (vals:=[.bool b,c.v]) a e0 rfl) fun s w a=>yb (r_box (vals:=[.bool f,g.v]) a e0 rfl) fun t w a=>yb (rAl a ZT_40) fun u w a=>bE d fun x p d=>bE d fun k r d=>q 3 rfl (dR [0,0,2,7,15] [2,3,4] 3 folM ?_))
 replace a:=a.drew
 refine D1 [0,1] [] 2 rfl (rQ rfl (lbs_ [.bool b,c.v] ST_40 e0 a R2) (rQ rfl (lbs_ [.bool f,g.v] ST_40 e0 a R1) (Rn QSn (kO (sparseref01_Neg_ok p n a) fun y w a=>dU (D1 [] [0] 3 rfl (Rn (sY rfl (lbs_ [.bool b,c.v] ST_40 e0 a R3) QSn) ?_))))))
 replace a:=a.fz
 refine kO (sparseref01_Add_ok r (mtF m) F0 a) fun l w a=>dU (D0 [] [] 4 rfl (Rn QSn ?_))
 replace a:=a.k10
 refine LT wn (r_stbn (vals':=[.bool k.1,l.v]) (us:=[.bool k.1,l.v]) a ST_40 e0 e0 rfl rfl (one_of rfl) rfl) fun w a=>Dz [] [] (Rn QSn (qx 2 rfl ?_))
 cases d
 exact o _ _ _ (fin1r results57 (rcs2 rfl rfl a R0 ST_40 rfl) ⟨_,rfl,((a.k15).fc)⟩)
theorem sparseref01_Shift_ok {h:Bool} {n:LI} {o:Int} {i:Hdr} {out:Bool×LI} (b:sparseref01_Shift h n o=some out) (D:imm (rI .u32) i.v n∈ros) (a:St w0 ros rs w):
  Calls prog 22 #[.agg #[.bool h,i.v],iV o] w (fun e w=>∃ (p:Hdr),e=.returned (.agg #[.bool out.1,p.v])∧St w0 ros (row 96 (rI .u32) p.v out.2::rs) w):=by
 refine en func22 rfl ntmps22 fun Q r=>q 2 rfl (yb (r_box (vals:=[.bool h,i.v]) a e0 rfl) fun R w a=>yb (rAl a ZT_40) fun s w a=>q 4 rfl (y (lbs_ [.bool h,i.v] ST_40 e0 a R1) (bE b fun c E b=>cO (sparseref01_Norm_ok E D a) fun t w a=>?_)))
 replace a:=a.k16
 refine sB rfl a ST_40 fun w a=>q 9 rfl (cI b (fun F b=>?_) fun F b=>?_)
 ·refine q 1 rfl (bE b fun S G b=>bE b fun u H b=>dR [0,1,0,4,0,28,63,127] [5,6,7] 3 folM ?_)
  replace a:=a.drew
  refine D1 [0,1,2,3,4] [] 5 rfl (qR 1 rfl (rQ rfl (lb_ (.bool c.1) O_4 e0 a R0) (qR 1 rfl (rQ rfl (lb_ t.v O_38 e0 a R0) (qR 1 rfl (Rn QSn ?_))))))
  replace a:=(a.k10).fz
  refine kO (sparseref01_shl_ok G F0 a) fun T w a=>dU (D1 [] [0,1] 6 rfl (Rn (qS rfl (sY rfl (lb_ (.bool c.1) O_4 e0 a R1) QSn)) ?_))
  replace a:=a.fz
  refine kO (sparseref01_make1_ok H F0 a) fun x w a=>dU (D0 [] [] 7 rfl (Rn QSn ?_))
  replace a:=a.k16
  refine LT wn (r_stbn (vals':=[.bool u.1,x.v]) (us:=[.bool u.1,x.v]) a ST_40 e0 e0 rfl rfl (one_of rfl) rfl) fun w a=>Dz [] [] (Rn QSn (qx 3 rfl ?_))
  cases b
  exact r _ _ _ (fin1r results22 (rcs2 rfl rfl a R0 ST_40 rfl) ⟨_,rfl,((a.k13).fc)⟩)
 ·refine q 5 rfl (y (lb_ t.v O_38 e0 a R0) (bE b fun I J b=>q 2 rfl ?_))
  replace a:=(a.k10).fz
  refine cO (sparseref01_shr_ok J F0 a) fun U w a=>q 10 rfl (y (lb_ (.bool c.1) O_4 e0 a R1) (bE b fun j K b=>q 1 rfl ?_))
  replace a:=a.fz
  refine cO (sparseref01_make1_ok K F0 a) fun k w a=>yb (rAl a ZT_40) fun z w a=>sB rfl a ST_40 fun w a=>q 6 rfl (y (lb_ (.bool c.1) O_4 e0 a R2) (q 1 rfl ?_))
  refine jW 2 [4,7] [(35,.bool (c.1 && I.2))] (St w0 ros (box s 40 [.bool false,hnil.v]::row 96 (rI .u32) k.v j.2::box z 40 [.bool j.1,k.v]::rs)) rfl (fun A=>?_) ?_
  ·refine gB 33 rfl (fun m=>?_) fun m=>?_
   ·exact q 2 rfl (A _ _ ((a.k17).fc) (hasC (congrArg Value.bool (andT m)) rfl))
   ·exact q 2 rfl (A _ _ ((a.k17).fc) (hasC (congrArg Value.bool (andF m)) rfl))
  intro g w a
  refine q 2 rfl ?_
  refine jC (Bool×LI×Hdr) [4,7] (fun (d,l,f)=>[]) (fun (d,l,f) w=>St w0 ros (box s 40 [.bool false,hnil.v]::row 96 (rI .u32) f.v l::box z 40 [.bool d,f.v]::rs) w∧sparseref01_Shift_j2 d l=some out) rfl ?_ ?_
  ·rintro ⟨d,l,f⟩ g w ⟨a,b⟩
   refine q 3 rfl (y (lbs_ [.bool d,f.v] ST_40 e0 a R2) (sB rfl a ST_40 fun w a=>q 3 rfl ?_))
   cases b
   exact r _ _ _ (fin1r results22 (rcs2 rfl rfl a R0 ST_40 rfl) ⟨_,rfl,(a.k13)⟩)
  refine cJ b (fun L b=>?_) fun L b=>?_
  ·refine bE b fun V N b=>bE b fun B O b=>dR [0,0,3,7] [1,2,3] 3 folM ?_
   replace a:=a.drew
   refine D1 [0] [] 1 rfl (rQ rfl (lbs_ [.bool j.1,k.v] ST_40 e0 a R2) (Rn QSn (kO (sparseref01_FromInt_ok N a) fun W w a=>dU (D1 [] [0] 2 rfl (Rn (sY rfl (lbs_ [.bool j.1,k.v] ST_40 e0 a R3) QSn) ?_)))))
   replace a:=((a.k16).fz).fz
   refine kO (sparseref01_Sub_ok O F1 F0 a) fun C w a=>dU (D0 [] [] 3 rfl (Rn QSn ?_))
   replace a:=a.k16
   exact LT wn (r_stbn (vals':=[.bool B.1,C.v]) (us:=[.bool B.1,C.v]) a ST_40 e0 e0 rfl rfl (one_of rfl) rfl) fun w a=>Dz [] [] (Rn QSn (qx 0 rfl (jx (_,_,_) ⟨((a.k18).fc),b⟩)))
  ·exact q 1 rfl (jx (_,_,_) ⟨a,b⟩)
theorem sparseref02_down_ok {i:Bool} {n:LI} {o:Int} {j:Hdr} {out:Bool×LI} (c:sparseref02_down i n o=some out) (x:imm (rI .u32) j.v n∈ros) (a:St w0 ros rs w):
  Calls prog 104 #[.agg #[.bool i,j.v],iV o] w (fun e w=>∃ (p:Hdr),e=.returned (.agg #[.bool out.1,p.v])∧St w0 ros (row 96 (rI .u32) p.v out.2::rs) w):=by
 refine en func104 rfl ntmps104 fun Q z=>q 2 rfl (yb (r_box (vals:=[.bool i,j.v]) a e0 rfl) fun r w a=>yb (rAl a ZT_40) fun s w a=>q 4 rfl ?_)
 obtain ⟨⟨t,k,u⟩,A,c⟩:=bs c
 refine lpN Hdr Hdr A [2,4] (fun (l,f,m) d=>[(1,iV l)]) (fun (l,f,m) d=>St w0 (imm (rI .u32) d.v m::ros) (box r 40 [.bool f,d.v]::box s 40 [.bool false,hnil.v]::rs)) (fun | (t,k,u),h=>(.exit 0,[(1,iV t)],St w0 (imm (rI .u32) h.v u::ros) (box r 40 [.bool k,h.v]::box s 40 [.bool false,hnil.v]::rs))) rfl _ ((a.k10).facts (allC x allI)) rfl ?_ ?_
 ·clear a
  rintro h g w a
  refine q 4 rfl (y (lbs_ [.bool k,h.v] ST_40 e0 a R0) (bE c fun E B c=>q 2 rfl (cO (sparseref01_Shift_ok B F0 a) fun F w a=>?_)))
  replace a:=a.k16
  refine sB rfl a ST_40 fun w a=>q 3 rfl ?_
  cases c
  exact z _ _ _ (fin1r results104 (rcs2 rfl rfl a R0 ST_40 rfl) ⟨_,rfl,((a.k13).fc)⟩)
 rintro ⟨l,f,m⟩ d g w G a b
 refine q 7 rfl (cI b (fun C b=>?_) fun C b=>?_)
 ·refine q 5 rfl (y (lbs_ [.bool f,d.v] ST_40 e0 a R0) (bE b fun H D b=>cO (sparseref01_Shift_ok D F0 a) fun I w a=>?_))
  replace a:=a.k10
  refine sB rfl a ST_40 fun w a=>q 8 rfl ?_
  replace a:=(a.k10).fz
  cases b
  exact ln _ (a.facts (allC F0 (allT (allT allI))))
 ·refine q 2 rfl ?_
  cases b
  exact lx _ a
theorem math_bits_Len32_ok {i out:Int} (a:math_bits_Len32 i=some out) (b:St w0 ros rs w):
  Calls prog 139 #[.int .u32 i] w (fun e w=>e=.returned (iV out)∧St w0 ros rs w):=by
 refine en func139 rfl ntmps139 fun Q j=>q 12 rfl ?_
 refine jC (Int×Int) [] (fun (c,d)=>[(0,.int .u32 c),(2,iV d)]) (fun (c,d) w=>St w0 ros rs w∧math_bits_Len32_j1 c d=some out) rfl ?_ ?_
 ·rintro ⟨c,d⟩ g w ⟨b,a⟩
  refine q 8 rfl ?_
  refine jC (Int×Int) [] (fun (f,h)=>[(0,.int .u32 f),(2,iV h)]) (fun (f,h) w=>St w0 ros rs w∧math_bits_Len32_j2 f h=some out) rfl ?_ ?_
  ·rintro ⟨f,h⟩ g w ⟨b,a⟩
   refine bE a fun n k a=>q 6 rfl (y (yixs (by kernel_rfl) rfl e0 (by kernel_rfl) k) (q 6 rfl ?_))
   cases a
   exact za j results139 ⟨rfl,b⟩
  refine cI a (fun l a=>?_) fun l a=>?_
  ·exact q 12 rfl (jx (_,_) ⟨b,a⟩)
  ·exact q 1 rfl (jx (_,_) ⟨b,a⟩)
 refine cI a (fun m a=>?_) fun m a=>?_
 ·exact q 10 rfl (jx (_,_) ⟨b,a⟩)
 ·exact q 1 rfl (jx (_,_) ⟨b,a⟩)
theorem sparseref01_BitLen_ok {d:Bool} {f:LI} {c:Hdr} {out:Int} (b:sparseref01_BitLen d f=some out) (i:imm (rI .u32) c.v f∈ros) (a:St w0 ros rs w):
  Calls prog 105 #[.agg #[.bool d,c.v]] w (fun e w=>e=.returned (iV out)∧St w0 ros rs w):=by
 refine en func105 rfl ntmps105 fun Q g=>q 2 rfl (yb (r_box (vals:=[.bool d,c.v]) a e0 rfl) fun m w a=>q 6 rfl (y (lb_ c.v O_38 e0 a R0) (bE b fun n j b=>cO (sparseref01_trim_ok j i a) fun o w a=>q 7 rfl (y (yLen SL_38 e0 a rO0) (q 3 rfl (cI b (fun k b=>?_) fun k b=>?_))))))
 ·refine q 7 rfl ?_
  cases b
  exact za g results105 ⟨rfl,(a.k19)⟩
 ·refine q 5 rfl (y (yLen SL_38 e0 a rO0) (q 4 rfl (y (yLen SL_38 e0 a rO0) (bE b fun p h b=>q 1 rfl (y (yIa SL_38 e0 e0 a rO0 h) (y (yI O_96 e0 a rO0 h) (bE b fun r l b=>cZ (math_bits_Len32_ok l a) fun w a=>q 5 rfl ?_)))))))
  cases b
  exact za g results105 ⟨rfl,(a.k19)⟩
theorem sparseref02_Make_ok {c:Bool} {n:LI} {h:Int} {i:Hdr} {out:Bool×Bool×LI×Int} (b:sparseref02_Make c n h=some out) (s:imm (rI .u32) i.v n∈ros) (t:globF∈ros) (a:St w0 ros rs w):
  Calls prog 50 #[.agg #[.bool c,i.v],iV h] w (fun e w=>∃ (o:Hdr),e=.returned (.agg #[.bool out.1,.bool out.2.1,o.v,iV out.2.2.2])∧St w0 (imm (rI .u32) o.v out.2.2.1::ros) rs w):=by
 refine en func50 rfl ntmps50 fun Q j=>q 2 rfl (yb (r_box (vals:=[.bool c,i.v]) a e0 rfl) fun u w a=>yb (rAl a ZT_53) fun x w a=>q 4 rfl (y (lbs_ [.bool c,i.v] ST_40 e0 a R1) (bE b fun p z b=>cO (sparseref01_Norm_ok z s a) fun l w a=>yb (rAl a ZT_40) fun A w a=>sB rfl a ST_40 fun w a=>?_)))
 refine q 6 rfl (y (lb_ l.v O_38 e0 a R0) (y (yLen SL_38 e0 a rO1) (q 3 rfl (cI b (fun B b=>?_) fun B b=>?_))))
 ·refine q 2 rfl (y (ybuild (us:=[.bool false,.bool false,hnil.v,iV 0]) [] SO_53 bp0 rfl) ?_)
  replace a:=a.k16
  refine sB rfl a ST_53 fun w a=>q 4 rfl ?_
  cases b
  replace a:=a.immNh (rI .u32)
  exact j _ _ _ (fin1r results50 (rcs2 rfl rfl a R0 ST_53 rfl) ⟨_,rfl,(a.k1a)⟩)
 ·refine q 9 rfl (cI b (fun C b=>?_) fun C b=>?_)
  ·refine q 2 rfl (bE b fun R D b=>cZ (sparseref02_Bad_ok D a) fun w a=>?_)
   replace a:=a.k16
   refine sB rfl a ST_53 fun w a=>q 4 rfl ?_
   cases b
   replace a:=a.immNh (rI .u32)
   exact j _ _ _ (fin1r results50 (rcs2 rfl rfl a R0 ST_53 rfl) ⟨_,rfl,(a.k1a)⟩)
  ·refine q 4 rfl (y (lbs_ [.bool p.1,l.v] ST_40 e0 a R0) (bE b fun k E b=>?_))
   replace a:=(a.k10).fz
   refine cZ (sparseref01_TrailingZeros_ok E F0 (mtF t) a) fun w a=>q 13 rfl (y (lbs_ [.bool p.1,l.v] ST_40 e0 a R0) (bE b fun F G b=>cO (sparseref01_Abs_ok G F0 a) fun H w a=>?_))
   replace a:=a.k10
   refine sB rfl a ST_40 fun w a=>q 4 rfl (y (lbs_ [.bool F.1,H.v] ST_40 e0 a R0) (bE b fun m I b=>q 1 rfl ?_))
   replace a:=(a.k10).fz
   refine cO (sparseref02_down_ok I F0 a) fun d w a=>?_
   replace a:=a.k10
   refine sB rfl a ST_40 fun w a=>bE b fun J f b=>q 8 rfl ?_
   refine jW 6 [2,4,5,7] [(36,.bool J)] (St w0 (imm (rI .u32) d.v m.2::ros) (box u 40 [.bool c,i.v]::box x 53 [.bool false,.bool false,hnil.v,iV 0]::box A 40 [.bool m.1,d.v]::rs)) rfl (fun r=>?_) ?_
   ·refine gI 30 f rfl (fun K f=>?_) fun K f=>?_
    ·refine q 6 rfl ?_
     cases f
     replace a:=(a.k10).fz
     exact r _ _ ((a.k18).facts (allC F0 (allT (allT (allT allI))))) rfl
    ·refine q 1 rfl (y (lbs_ [.bool m.1,d.v] ST_40 e0 a R0) (bE f fun S L f=>?_))
     replace a:=(a.k10).fz
     refine cZ (sparseref01_BitLen_ok L F0 a) fun w a=>q 3 rfl ?_
     cases f
     exact r _ _ ((a.k18).facts (allC F0 (allT (allT (allT allI))))) rfl
   intro g w a
   refine q 2 rfl ?_
   refine cJ b (fun N b=>?_) fun N b=>?_
   ·refine q 2 rfl (bE b fun T O b=>cZ (sparseref02_Bad_ok O a) fun w a=>?_)
    replace a:=a.k10
    refine sB rfl a ST_53 fun w a=>q 4 rfl ?_
    cases b
    replace a:=a.immNh (rI .u32)
    exact j _ _ _ (fin1r results50 (rcs2 rfl rfl a R0 ST_53 rfl) ⟨_,rfl,((a.k1b).facts (allC F0 (allT (allT allI))))⟩)
   ·refine q 5 rfl (y (lb_ (.bool c) O_4 e0 a R0) (q 1 rfl ?_))
    replace a:=a.k16
    refine yt (r_stb1 (vals':=[.bool c,d.v]) a O_4 e0 e0 rfl rfl rfl rfl) fun w a=>q 4 rfl (y (lbs_ [.bool c,d.v] ST_40 e0 a R0) (q 1 rfl (y (ybuild (us:=[.bool false,.bool c,d.v,iV (wa .i64 h k)]) [(1,.agg #[.bool c,d.v]),(2,iV (wa .i64 h k))] SO_53 (bp2 e0 e0) rfl) ?_)))
    replace a:=a.k16
    refine yt (r_stbn (vals':=[.bool false,.bool c,d.v,iV (wa .i64 h k)]) (us:=[.bool false,.bool c,d.v,iV (wa .i64 h k)]) a ST_53 e0 e0 rfl rfl (one_of rfl) rfl) fun w a=>q 3 rfl ?_
    cases b
    exact j _ _ _ (fin1r results50 (rcs2 rfl rfl a R0 ST_53 rfl) ⟨_,rfl,(a.k1b)⟩)
theorem sparseref02_FromInt_ok {c:Int} {out:Bool×Bool×LI×Int} (b:sparseref02_FromInt c=some out) (f:globF∈ros) (a:St w0 ros rs w):
  Calls prog 63 #[iV c] w (fun e w=>∃ (d:Hdr),e=.returned (.agg #[.bool out.1,.bool out.2.1,d.v,iV out.2.2.2])∧St w0 (imm (rI .u32) d.v out.2.2.1::ros) rs w):=by
 refine en func63 rfl ntmps63 fun Q g=>q 2 rfl (yb (rAl a ZT_53) fun j w a=>bE b fun k h b=>q 5 rfl (cO (sparseref01_FromInt_ok h a) fun l w a=>bE b fun m i b=>?_))
 replace a:=a.fz
 refine cO (sparseref02_Make_ok i F0 (mtF f) a) fun n w a=>sB rfl a ST_53 fun w a=>q 3 rfl ?_
 cases b
 exact g _ _ _ (fin1r results63 (rcs2 rfl rfl a R0 ST_53 rfl) ⟨_,rfl,((a.k14).facts (allC F0 (allT (allT allI))))⟩)
theorem sparseref02_Norm_ok {c d:Bool} {h:LI} {f:Int} {g:Hdr} {out:Bool×Bool×LI×Int} (b:sparseref02_Norm c d h f=some out) (k:imm (rI .u32) g.v h∈ros) (l:globF∈ros) (a:St w0 ros rs w):
  Calls prog 52 #[.agg #[.bool c,.bool d,g.v,iV f]] w (fun e w=>∃ (i:Hdr),e=.returned (.agg #[.bool out.1,.bool out.2.1,i.v,iV out.2.2.2])∧St w0 (imm (rI .u32) i.v out.2.2.1::ros) rs w):=by
 refine en func52 rfl ntmps52 fun Q j=>q 2 rfl (yb (r_box (vals:=[.bool c,.bool d,g.v,iV f]) a e0 rfl) fun p w a=>yb (rAl a ZT_53) fun r w a=>q 6 rfl (y (lb_ (.bool c) O_4 e0 a R1) (q 2 rfl ?_)))
 refine cJ b (fun m b=>?_) fun m b=>?_
 ·refine q 2 rfl (bE b fun s n b=>cZ (sparseref02_Bad_ok n a) fun w a=>sB rfl a ST_53 fun w a=>q 4 rfl ?_)
  cases b
  replace a:=a.immNh (rI .u32)
  exact j _ _ _ (fin1r results52 (rcs2 rfl rfl a R0 ST_53 rfl) ⟨_,rfl,(a.k19)⟩)
 ·refine q 5 rfl (y (lbs_ [.bool d,g.v] ST_40 e0 a R1) (q 1 rfl (y (lb_ (iV f) O_3 e0 a R1) (bE b fun t o b=>cO (sparseref02_Make_ok o k l a) fun u w a=>sB rfl a ST_53 fun w a=>q 3 rfl ?_))))
  cases b
  exact j _ _ _ (fin1r results52 (rcs2 rfl rfl a R0 ST_53 rfl) ⟨_,rfl,(a.k19)⟩)
theorem sparseref01_Sign_ok {c:Bool} {g:LI} {d:Hdr} {out:Int} (b:sparseref01_Sign c g=some out) (h:imm (rI .u32) d.v g∈ros) (a:St w0 ros rs w):
  Calls prog 9 #[.agg #[.bool c,d.v]] w (fun e w=>e=.returned (iV out)∧St w0 ros rs w):=by
 refine en func9 rfl ntmps9 fun Q f=>q 2 rfl (yb (r_box (vals:=[.bool c,d.v]) a e0 rfl) fun n w a=>q 5 rfl (y (lbs_ [.bool c,d.v] ST_40 e0 a R0) (bE b fun i j b=>cO (sparseref01_Norm_ok j h a) fun k w a=>?_)))
 replace a:=a.k10
 refine sB rfl a ST_40 fun w a=>q 7 rfl (y (lb_ k.v O_38 e0 a R0) (y (yLen SL_38 e0 a rO1) (q 4 rfl (cI b (fun l b=>?_) fun l b=>?_))))
 ·refine q 8 rfl ?_
  cases b
  exact za f results9 ⟨rfl,(a.k19)⟩
 ·refine q 3 rfl (y (lb_ (.bool i.1) O_4 e0 a R0) (q 3 rfl ?_))
  refine cJ b (fun m b=>?_) fun m b=>?_
  ·refine q 8 rfl ?_
   cases b
   exact za f results9 ⟨rfl,(a.k19)⟩
  ·refine q 9 rfl ?_
   cases b
   exact za f results9 ⟨rfl,(a.k19)⟩
theorem sparseref03_signed_ok {b:Bool} {c out:Int} (a:sparseref03_signed b c=some out) (d:St w0 ros rs w):
  Calls prog 122 #[.bool b,.int .u64 c] w (fun e w=>e=.returned (.int .u64 out)∧St w0 ros rs w):=by
 refine en func122 rfl ntmps122 fun Q f=>q 11 rfl ?_
 refine cJ a (fun g a=>?_) fun g a=>?_
 ·refine q 9 rfl ?_
  cases a
  exact za f results122 ⟨rfl,d⟩
 ·refine q 9 rfl ?_
  cases a
  exact za f results122 ⟨rfl,d⟩
theorem sparseref03_over_ok {d:Bool} {b out:Int} (c:sparseref03_over d b=some out) (a:St w0 ros rs w):
  Calls prog 119 #[.bool d,iV b] w (fun e w=>e=.returned (.int .u64 out)∧St w0 ros rs w):=by
 refine en func119 rfl ntmps119 fun Q k=>q 11 rfl ?_
 refine jW 7 [0,1] [(14,.bool ((decide (b=3)) || ((decide (b=1)) && (!d))))] (St w0 ros rs) rfl (fun l=>?_) ?_
 ·refine gB 7 rfl (fun f=>?_) fun f=>?_
  ·exact q 7 rfl (l _ _ a (hasC (congrArg Value.bool (orT f)) rfl))
  ·refine q 3 rfl ?_
   refine jW 3 [0,1,7] [(13,.bool ((decide (b=1)) && (!d)))] (St w0 ros rs) rfl (fun m=>?_) ?_
   ·refine gB 10 rfl (fun h=>?_) fun h=>?_
    ·exact q 3 rfl (m _ _ a (hasC (congrArg Value.bool (andT h)) rfl))
    ·exact q 3 rfl (m _ _ a (hasC (congrArg Value.bool (andF h)) rfl))
   intro g w a
   exact q 1 rfl (l _ _ a (hasC (congrArg Value.bool (orF f)) rfl))
 intro g w a
 refine q 1 rfl ?_
 refine jW 6 [0] [(21,.bool (((decide (b=3)) || ((decide (b=1)) && (!d))) || ((decide (b=2)) && d)))] (St w0 ros rs) rfl (fun n=>?_) ?_
 ·refine gB 15 rfl (fun i=>?_) fun i=>?_
  ·exact q 6 rfl (n _ _ a (hasC (congrArg Value.bool (orT i)) rfl))
  ·refine q 3 rfl ?_
   refine jW 2 [0,15] [(20,.bool ((decide (b=2)) && d))] (St w0 ros rs) rfl (fun o=>?_) ?_
   ·refine gB 18 rfl (fun j=>?_) fun j=>?_
    ·exact q 2 rfl (o _ _ a (hasC (congrArg Value.bool (andT j)) rfl))
    ·exact q 2 rfl (o _ _ a (hasC (congrArg Value.bool (andF j)) rfl))
   intro g w a
   exact q 1 rfl (n _ _ a (hasC (congrArg Value.bool (orF i)) rfl))
 intro g w a
 refine q 2 rfl ?_
 refine cJ c (fun p c=>?_) fun p c=>?_
 ·refine q 3 rfl (bE c fun t r c=>cZ (sparseref03_signed_ok r a) fun w a=>q 5 rfl ?_)
  cases c
  exact za k results119 ⟨rfl,a⟩
 ·refine q 5 rfl (bE c fun u s c=>cZ (sparseref03_signed_ok s a) fun w a=>q 4 rfl ?_)
  cases c
  exact za k results119 ⟨rfl,a⟩
end Go.Proofs.YtcoaljcfifecgagGreatDoor
