/- Walks: each function computes its model, printed. -/
import Derived.Test.YtcoaljcfifecgagGreatDoorW1
namespace Go.Proofs.YtcoaljcfifecgagGreatDoor
open Go Sx M Go.Proofs.Tryz
set_option maxRecDepth 100000
set_option maxHeartbeats 40000000
set_option linter.unusedVariables false
attribute [local irreducible] wpList Code.wp Calls DR QR QS LA LS St
variable {w0:World} {ros:List Fact} {rs:List Res} {w:World}
theorem sparseref01_Lost_ok {d:Bool} {f:LI} {g:Int} {c:Hdr} {out:Bool} (b:sparseref01_Lost d f g=some out) (h:imm (rI .u32) c.v f∈ros) (a:St w0 ros rs w):
  Calls prog 149 #[.agg #[.bool d,c.v],iV g] w (fun e w=>e=.returned (.bool out)∧St w0 ros rs w):=by
 refine en func149 rfl ntmps149 fun Q i=>q 2 rfl (yb (r_box (vals:=[.bool d,c.v]) a e0 rfl) fun l w a=>q 6 rfl (y (lb_ c.v O_38 e0 a R0) (bE b fun m j b=>cO (sparseref01_trim_ok j h a) fun n w a=>bE b fun o k b=>q 1 rfl ?_)))
 replace a:=a.fz
 refine cO (sparseref01_shr_ok k F0 a) fun p w a=>q 14 rfl ?_
 cases b
 exact za i results149 ⟨rfl,((a.k19).fc)⟩
theorem sparseref02_Up_ok {j:Bool} {c:Int} {d:Bool} {k:Int} {out:Bool} (a:sparseref02_Up j c d k=some out) (b:St w0 ros rs w):
  Calls prog 150 #[.bool j,iV c,.bool d,iV k] w (fun e w=>e=.returned (.bool out)∧St w0 ros rs w):=by
 refine en func150 rfl ntmps150 fun Q f=>q 18 rfl (cI a (fun n a=>?_) fun n a=>?_)
 ·refine q 9 rfl ?_
  cases a
  exact za f results150 ⟨rfl,b⟩
 ·refine q 6 rfl (cI a (fun o a=>?_) fun o a=>?_)
  ·refine q 10 rfl ?_
   cases a
   exact za f results150 ⟨rfl,b⟩
  ·refine q 6 rfl (cI a (fun p a=>?_) fun p a=>?_)
   ·refine q 8 rfl ?_
    cases a
    exact za f results150 ⟨rfl,b⟩
   ·refine q 8 rfl ?_
    refine jW 6 [] [(27,.bool ((decide ((0:Int) < c)) || ((decide (c=0)) && d)))] (St w0 ros rs) rfl (fun l=>?_) ?_
    ·refine gB 21 rfl (fun h=>?_) fun h=>?_
     ·exact q 6 rfl (l _ _ b (hasC (congrArg Value.bool (orT h)) rfl))
     ·refine q 3 rfl ?_
      refine jW 2 [21] [(26,.bool ((decide (c=0)) && d))] (St w0 ros rs) rfl (fun m=>?_) ?_
      ·refine gB 24 rfl (fun i=>?_) fun i=>?_
       ·exact q 2 rfl (m _ _ b (hasC (congrArg Value.bool (andT i)) rfl))
       ·exact q 2 rfl (m _ _ b (hasC (congrArg Value.bool (andF i)) rfl))
      intro g w b
      exact q 1 rfl (l _ _ b (hasC (congrArg Value.bool (orF h)) rfl))
    intro g w b
    refine q 4 rfl ?_
    cases a
    exact za f results150 ⟨rfl,b⟩
theorem sparseref02_Cut_ok {n f:Bool} {C:LI} {D:Int} {A:Bool} {o:Int} {h:Hdr} {out:Bool×LI} (b:sparseref02_Cut n f C D A o=some out) (s:imm (rI .u32) h.v C∈ros) (E:globF∈ros) (a:St w0 ros rs w):
  Calls prog 120 #[.bool n,.agg #[.bool f,h.v],iV D,.bool A,iV o] w (fun e w=>∃ (F:Hdr),e=.returned (.agg #[.bool out.1,F.v])∧St w0 (imm (rI .u32) F.v out.2::ros) rs w):=by
 refine en func120 rfl ntmps120 fun Q G=>q 2 rfl (yb (r_box (vals:=[.bool f,h.v]) a e0 rfl) fun H w a=>yb (rAl a ZT_40) fun i w a=>q 4 rfl (y (lbs_ [.bool f,h.v] ST_40 e0 a R1) (bE b fun c T b=>q 1 rfl (cO (sparseref02_down_ok T s a) fun d w a=>yb (rAl a ZT_40) fun j w a=>sB rfl a ST_40 ?_))))
 refine fun w a=>q 4 rfl (y (lbs_ [.bool f,h.v] ST_40 e0 a R3) (bE b fun U V b=>q 1 rfl (cZ (sparseref01_Lost_ok V s a) fun w a=>q 9 rfl ?_)))
 refine jW 3 [0,2,3,4,6,10,11] [(27,.bool ((!U) && (!A)))] (St w0 ros (box H 40 [.bool f,h.v]::box i 40 [.bool false,hnil.v]::row 96 (rI .u32) d.v c.2::box j 40 [.bool c.1,d.v]::rs)) rfl (fun I=>?_) ?_
 ·refine gB 24 rfl (fun B=>?_) fun B=>?_
  ·exact q 3 rfl (I _ _ (a.k21) (hasC (congrArg Value.bool (andT B)) rfl))
  ·exact q 3 rfl (I _ _ (a.k21) (hasC (congrArg Value.bool (andF B)) rfl))
 intro g w a
 refine q 2 rfl ?_
 refine cJ b (fun W b=>?_) fun W b=>?_
 ·refine q 2 rfl (y (lbs_ [.bool c.1,d.v] ST_40 e0 a R3) ?_)
  replace a:=a.k10
  refine sB rfl a ST_40 fun w a=>q 4 rfl ?_
  cases b
  replace a:=(a.k16).fz
  exact G _ _ _ (fin1r results120 (rcs2 rfl rfl a R0 ST_40 rfl) ⟨_,rfl,(a.k1b)⟩)
 ·refine q 14 rfl ?_
  refine jC Int [0,4,10,11] (fun t=>[(13,iV t)]) (fun t w=>St w0 ros (box i 40 [.bool false,hnil.v]::row 96 (rI .u32) d.v c.2::box j 40 [.bool c.1,d.v]::rs) w∧sparseref02_Cut_j8 c n o t=some out) rfl ?_ ?_
  ·rintro t g w ⟨a,b⟩
   refine q 3 rfl (y (lbs_ [.bool c.1,d.v] ST_40 e0 a R2) (bE b fun b7 X b=>?_))
   replace a:=(a.k10).fz
   refine cZ (sparseref01_Sign_ok X F0 a) fun w a=>bE b fun Z k b=>q 2 rfl ?_
   refine jW 4 [0,4,10,11,13] [(57,.bool Z)] (St w0 (imm (rI .u32) d.v c.2::ros) (box i 40 [.bool false,hnil.v]::box j 40 [.bool c.1,d.v]::rs)) rfl (fun J=>?_) ?_
   ·refine gIn 53 k rfl (fun a0 k=>?_) fun a0 k=>?_
    ·refine q 4 rfl ?_
     cases k
     exact J _ _ a rfl
    ·refine y (lbs_ [.bool c.1,d.v] ST_40 e0 a R1) (bE k fun c0 a1 k=>cZ (sparseref01_TrailingZeros_ok a1 F0 (mtF E) a) fun w a=>q 2 rfl ?_)
     cases k
     exact J _ _ a rfl
   intro g w a
   refine bE b fun c1 a2 b=>q 10 rfl (cZ (sparseref02_Up_ok a2 a) fun w a=>q 2 rfl ?_)
   refine jC (Bool×LI×Hdr) [10,11] (fun (p,u,r)=>[]) (fun (p,u,r) w=>St w0 (imm (rI .u32) r.v u::ros) (box i 40 [.bool false,hnil.v]::box j 40 [.bool p,r.v]::rs) w∧sparseref02_Cut_j10 p u=some out) rfl ?_ ?_
   ·rintro ⟨p,u,r⟩ g w ⟨a,b⟩
    refine q 3 rfl (y (lbs_ [.bool p,r.v] ST_40 e0 a R1) (sB rfl a ST_40 fun w a=>q 3 rfl ?_))
    cases b
    exact G _ _ _ (fin1r results120 (rcs2 rfl rfl a R0 ST_40 rfl) ⟨_,rfl,(a.k19)⟩)
   refine cJ b (fun a3 b=>?_) fun a3 b=>?_
   ·refine bE b fun c2 a4 b=>bE b fun K a5 b=>dR [0,0,3,7] [1,2,3] 3 folM ?_
    replace a:=a.drew
    refine D1 [0] [] 1 rfl (rQ rfl (lbs_ [.bool c.1,d.v] ST_40 e0 a R1) (Rn QSn (kO (sparseref01_FromInt_ok a4 a) fun c3 w a=>dU (D1 [] [0] 2 rfl (Rn (sY rfl (lbs_ [.bool c.1,d.v] ST_40 e0 a R2) QSn) ?_)))))
    replace a:=a.fz
    refine kO (sparseref01_Add_ok a5 F1 F0 a) fun L w a=>dU (D0 [] [] 3 rfl (Rn QSn ?_))
    replace a:=a.k16
    refine LT wn (r_stbn (vals':=[.bool K.1,L.v]) (us:=[.bool K.1,L.v]) a ST_40 e0 e0 rfl rfl (one_of rfl) rfl) fun w a=>Dz [] [] (Rn QSn (qx 0 rfl ?_))
    replace a:=(a.k10).fz
    exact jx (_,_,_) ⟨((a.k10).facts (allC F0 (allT (allT (allT allI))))),b⟩
   ·exact q 1 rfl (jx (_,_,_) ⟨a,b⟩)
  refine cI b (fun a6 b=>?_) fun a6 b=>?_
  ·refine q 2 rfl (y (lbs_ [.bool f,h.v] ST_40 e0 a R0) (bE b fun N a7 b=>q 2 rfl (cO (sparseref02_down_ok a7 s a) fun O w a=>yb (rAl a ZT_40) fun c4 w a=>sB rfl a ST_40 fun w a=>q 4 rfl (y (lbs_ [.bool N.1,O.v] ST_40 e0 a R0) (bE b fun c5 a8 b=>?_)))))
   replace a:=(a.k10).fz
   refine cZ (sparseref01_TrailingZeros_ok a8 F0 (mtF E) a) fun w a=>bE b fun a9 l b=>q 2 rfl ?_
   refine jW 4 [0,2,3,4,6,10,11,13] [(42,.bool a9)] (St w0 ros (box H 40 [.bool f,h.v]::box i 40 [.bool false,hnil.v]::row 96 (rI .u32) d.v c.2::box j 40 [.bool c.1,d.v]::rs)) rfl (fun R=>?_) ?_
   ·refine gI 38 l rfl (fun b0 l=>?_) fun b0 l=>?_
    ·refine y (lbs_ [.bool N.1,O.v] ST_40 e0 a R0) (bE l fun c6 b1 l=>cZ (sparseref01_Sign_ok b1 F0 a) fun w a=>q 2 rfl ?_)
     cases l
     exact R _ _ ((a.k22).fc) rfl
    ·refine q 4 rfl ?_
     cases l
     exact R _ _ ((a.k22).fc) rfl
   intro g w a
   refine q 2 rfl ?_
   refine jC Int [0,4,10,11] (fun x=>[(13,iV x)]) (fun x w=>St w0 ros (box i 40 [.bool false,hnil.v]::row 96 (rI .u32) d.v c.2::box j 40 [.bool c.1,d.v]::rs) w∧sparseref02_Cut_j14 c n o x=some out) rfl ?_ ?_
   ·rintro x g w ⟨a,b⟩
    exact jx _ ⟨a,b⟩
   refine cJ b (fun b2 b=>?_) fun b2 b=>?_
   ·refine q 9 rfl (bE b fun b3 m b=>?_)
    refine jW 5 [0,4,10,11,13] [(49,.bool b3)] (St w0 ros (box i 40 [.bool false,hnil.v]::row 96 (rI .u32) d.v c.2::box j 40 [.bool c.1,d.v]::rs)) rfl (fun S=>?_) ?_
    ·refine gJ 44 m rfl (fun b4 m=>?_) fun b4 m=>?_
     ·refine q 5 rfl ?_
      cases m
      exact S _ _ (a.k1k) rfl
     ·refine y (lbs_ [.bool f,h.v] ST_40 e0 a R0) (bE m fun c7 b5 m=>q 2 rfl (cZ (sparseref01_Lost_ok b5 s a) fun w a=>q 1 rfl ?_))
      cases m
      exact S _ _ (a.k1k) rfl
    intro g w a
    refine q 2 rfl ?_
    refine jC Int [0,4,10,11] (fun z=>[(13,iV z)]) (fun z w=>St w0 ros (box i 40 [.bool false,hnil.v]::row 96 (rI .u32) d.v c.2::box j 40 [.bool c.1,d.v]::rs) w∧sparseref02_Cut_j16 c n o z=some out) rfl ?_ ?_
    ·rintro z g w ⟨a,b⟩
     exact jx _ ⟨a,b⟩
    refine cJ b (fun b6 b=>?_) fun b6 b=>?_
    ·exact q 3 rfl (jx _ ⟨a,b⟩)
    ·exact q 1 rfl (jx _ ⟨a,b⟩)
   ·exact q 1 rfl (jx _ ⟨(a.k1k),b⟩)
  ·exact q 1 rfl (jx _ ⟨(a.k1k),b⟩)
theorem sparseref01_Int_ok {i:Bool} {m:LI} {j:Hdr} {out:Int×Bool} (b:sparseref01_Int i m=some out) (r:imm (rI .u32) j.v m∈ros) (a:St w0 ros rs w):
  Calls prog 121 #[.agg #[.bool i,j.v]] w (fun e w=>e=.returned (.tuple #[iV out.1,.bool out.2])∧St w0 ros rs w):=by
 refine en func121 rfl ntmps121 fun Q f=>q 2 rfl (yb (r_box (vals:=[.bool i,j.v]) a e0 rfl) fun n w a=>q 6 rfl (y (lbs_ [.bool i,j.v] ST_40 e0 a R0) (bE b fun h s b=>cO (sparseref01_Norm_ok s r a) fun d w a=>?_)))
 replace a:=a.k10
 refine sB rfl a ST_40 fun w a=>q 6 rfl (y (lb_ d.v O_38 e0 a R0) (y (yLen SL_38 e0 a rO1) (q 3 rfl (cI b (fun t b=>?_) fun t b=>?_))))
 ·refine q 8 rfl ?_
  cases b
  exact zb f results121 ⟨rfl,(a.k19)⟩
 ·refine q 14 rfl (bE b fun o u b=>?_)
  refine lp u [1] (fun (k,l)=>[(4,.int .u64 k),(5,iV l)]) (fun (k,l)=>St w0 ros (row 96 (rI .u32) d.v h.2::box n 40 [.bool h.1,d.v]::rs)) (fun | o=>(.exit 0,[(4,.int .u64 o)],St w0 ros (row 96 (rI .u32) d.v h.2::box n 40 [.bool h.1,d.v]::rs))) rfl (a.k10) rfl ?_ ?_
  ·clear a
   intro g w a
   refine q 6 rfl (y (lb_ (.bool h.1) O_4 e0 a R1) (q 2 rfl ?_))
   refine cJ b (fun x b=>?_) fun x b=>?_
   ·refine q 7 rfl (cI b (fun z b=>?_) fun z b=>?_)
    ·refine q 9 rfl ?_
     cases b
     exact zb f results121 ⟨rfl,(a.k19)⟩
    ·refine q 15 rfl ?_
     cases b
     exact zb f results121 ⟨rfl,(a.k19)⟩
   ·refine q 9 rfl (cI b (fun A b=>?_) fun A b=>?_)
    ·refine q 8 rfl ?_
     cases b
     exact zb f results121 ⟨rfl,(a.k19)⟩
    ·refine q 11 rfl ?_
     cases b
     exact zb f results121 ⟨rfl,(a.k19)⟩
  rintro ⟨k,l⟩ g w D a c
  refine q 5 rfl (y (lb_ d.v O_38 e0 a R1) (y (yLen SL_38 e0 a rO0) (q 3 rfl (cI c (fun B c=>?_) fun B c=>?_))))
  ·refine q 7 rfl (y (lb_ d.v O_38 e0 a R1) (bE c fun E p c=>q 1 rfl (y (yIa SL_38 e0 e0 a rO0 p) (y (yI O_96 e0 a rO0 p) (bE c fun F C c=>q 3 rfl (y (yshl e0 e0 C) (q 10 rfl ?_)))))))
   cases c
   exact lo a
  ·refine q 2 rfl ?_
   cases c
   exact xo a
theorem sparseref03_rounded_ok {k c:Bool} {s:LI} {o:Int} {t:Bool} {l:Int} {d:Hdr} {out:Int} (b:sparseref03_rounded k c s o t l=some out) (p:imm (rI .u32) d.v s∈ros) (x:globF∈ros) (a:St w0 ros rs w):
  Calls prog 76 #[.bool k,.agg #[.bool c,d.v],iV o,.bool t,iV l] w (fun e w=>e=.returned (.int .u64 out)∧St w0 ros rs w):=by
 refine en func76 rfl ntmps76 fun Q m=>q 2 rfl (yb (r_box (vals:=[.bool c,d.v]) a e0 rfl) fun R w a=>q 6 rfl (y (lbs_ [.bool c,d.v] ST_40 e0 a R0) (bE b fun z A b=>cZ (sparseref01_BitLen_ok A p a) fun w a=>q 12 rfl (cI b (fun B b=>?_) fun B b=>?_))))
 ·refine q 4 rfl (bE b fun S C b=>cZ (sparseref03_over_ok C a) fun w a=>q 5 rfl ?_)
  cases b
  exact za m results76 ⟨rfl,(a.k14)⟩
 ·refine q 12 rfl (yb (rAl a ZT_40) fun D w a=>q 10 rfl ?_)
  refine jC (Bool×LI×Hdr) [0,4,12,13] (fun (f,n,h)=>[]) (fun (f,n,h) w=>St w0 (imm (rI .u32) h.v n::ros) (box D 40 [.bool f,h.v]::rs) w∧sparseref03_rounded_j1 k l o z f n=some out) rfl ?_ ?_
  ·rintro ⟨f,n,h⟩ g w ⟨a,b⟩
   refine q 3 rfl (y (lbs_ [.bool f,h.v] ST_40 e0 a R0) (bE b fun T E b=>cZ (sparseref01_Int_ok E F0 a) fun w a=>q 14 rfl ?_))
   refine jC (Int×Int) [0,4] (fun (i,j)=>[(12,iV i),(14,iV j)]) (fun (i,j) w=>St w0 ros rs w∧sparseref03_rounded_j2 k l i j=some out) rfl ?_ ?_
   ·rintro ⟨i,j⟩ g w ⟨a,b⟩
    refine q 8 rfl ?_
    refine jW 4 [0,4,12,14] [(61,.bool ((decide ((4503599627370496:Int)≤j)) && (decide ((1024:Int) < (wa .i64 i 53)))))] (St w0 ros rs) rfl (fun u=>?_) ?_
    ·refine gB 57 rfl (fun r=>?_) fun r=>?_
     ·exact q 4 rfl (u _ _ a (hasC (congrArg Value.bool (andT r)) rfl))
     ·exact q 4 rfl (u _ _ a (hasC (congrArg Value.bool (andF r)) rfl))
    intro g w a
    refine q 3 rfl ?_
    refine cJ b (fun F b=>?_) fun F b=>?_
    ·refine q 4 rfl (bE b fun U G b=>cZ (sparseref03_over_ok G a) fun w a=>q 6 rfl ?_)
     cases b
     exact za m results76 ⟨rfl,a⟩
    ·refine q 7 rfl (cI b (fun H b=>?_) fun H b=>?_)
     ·refine q 11 rfl (bE b fun V I b=>cZ (sparseref03_signed_ok I a) fun w a=>q 6 rfl ?_)
      cases b
      exact za m results76 ⟨rfl,a⟩
     ·refine q 8 rfl (bE b fun W J b=>cZ (sparseref03_signed_ok J a) fun w a=>q 4 rfl ?_)
      cases b
      exact za m results76 ⟨rfl,a⟩
   refine cI b (fun K b=>?_) fun K b=>?_
   ·exact q 10 rfl (jx (_,_) ⟨((a.k14).fc),b⟩)
   ·exact q 1 rfl (jx (_,_) ⟨((a.k14).fc),b⟩)
  refine cI b (fun L b=>?_) fun L b=>?_
  ·exact q 2 rfl (y (lbs_ [.bool c,d.v] ST_40 e0 a R1) (bE b fun X N b=>q 5 rfl (cO (sparseref02_Cut_ok N p x a) fun Z w a=>sB rfl a ST_40 fun w a=>q 1 rfl (jx (_,_,_) ⟨(a.k11),b⟩))))
  ·refine q 1 rfl (y (lbs_ [.bool c,d.v] ST_40 e0 a R1) (bE b fun a0 O b=>q 3 rfl (cO (sparseref01_Shift_ok O p a) fun a1 w a=>?_)))
   replace a:=a.k10
   refine sB rfl a ST_40 fun w a=>q 1 rfl ?_
   replace a:=(a.k10).fz
   exact jx (_,_,_) ⟨(a.k11),b⟩
theorem sparseref03_Round_ok {d f:Bool} {j:LI} {g k:Int} {h:Hdr} {out:Int} (b:sparseref03_Round d f j g k=some out) (n:imm (rI .u32) h.v j∈ros) (l:globF∈ros) (a:St w0 ros rs w):
  Calls prog 36 #[.agg #[.bool d,.bool f,h.v,iV g],iV k] w (fun e w=>e=.returned (.int .u64 out)∧St w0 ros rs w):=by
 refine en func36 rfl ntmps36 fun Q i=>q 2 rfl (yb (r_box (vals:=[.bool d,.bool f,h.v,iV g]) a e0 rfl) fun z w a=>q 5 rfl (y (lbs_ [.bool d,.bool f,h.v,iV g] ST_53 e0 a R0) (bE b fun c o b=>cO (sparseref02_Norm_ok o n l a) fun m w a=>sB rfl a ST_53 fun w a=>q 6 rfl (y (lb_ (.bool c.1) O_4 e0 a R0) (q 2 rfl ?_)))))
 refine cJ b (fun p b=>?_) fun p b=>?_
 ·refine q 7 rfl ?_
  cases b
  exact za i results36 ⟨rfl,((a.k14).fc)⟩
 ·refine q 6 rfl (y (lbs_ [.bool c.2.1,m.v] ST_40 e0 a R0) (bE b fun A r b=>cZ (sparseref01_Sign_ok r F0 a) fun w a=>q 3 rfl (cI b (fun s b=>?_) fun s b=>?_)))
  ·refine q 7 rfl ?_
   cases b
   exact za i results36 ⟨rfl,((a.k14).fc)⟩
  ·refine q 3 rfl (bE b fun B t b=>bE b fun u x b=>dR [0,1,3,0,8,24,0,64,0,511,1023] [5,9,10] 3 folM ?_)
   replace a:=a.drew
   refine D1 [0,1,2,3,4,6,7,8] [] 5 rfl (qR 2 rfl (rQ rfl (lb_ (.bool c.2.1) O_4 e0 a R0) (qR 1 rfl (rQ rfl (lbs_ [.bool c.2.1,m.v] ST_40 e0 a R0) (qR 1 rfl (rQ rfl (lb_ (iV c.2.2.2) O_3 e0 a R0) (qR 1 rfl (Rn QSn (kO (sparseref01_Abs_ok t F0 a) fun C w a=>dU (D1 [] [0,1,2,6,7,8] 9 rfl (Rn (qS rfl (qS rfl (sY rfl (lb_ (.bool c.2.1) O_4 e0 a R1) (qS rfl (sY rfl (lb_ (iV c.2.2.2) O_3 e0 a R1) (qS rfl QSn)))))) ?_)))))))))))
   replace a:=a.fz
   refine kZ (sparseref03_rounded_ok x F0 (F_2 l) a) fun w a=>dU (D1 [] [] 10 rfl (Rn QSn (Ly wn (a_ (.int .u64 u) e0) (dU (Dz [] [] (Rn QSn (qx 2 rfl ?_)))))))
   cases b
   exact za i results36 ⟨rfl,((a.k14).fc)⟩
theorem sparseref03_FromInt_ok {c d out:Int} (a:sparseref03_FromInt c d=some out) (f:globF∈ros) (b:St w0 ros rs w):
  Calls prog 26 #[iV c,iV d] w (fun e w=>e=.returned (.int .u64 out)∧St w0 ros rs w):=by
 refine en func26 rfl ntmps26 fun Q g=>bE a fun j h a=>q 8 rfl (cO (sparseref02_FromInt_ok h f b) fun k w b=>bE a fun l i a=>q 1 rfl (cZ (sparseref03_Round_ok i F0 (mtF f) b) fun w b=>q 4 rfl ?_))
 cases a
 exact za g results26 ⟨rfl,(b.fc)⟩
theorem sparsegen_Small_ok {c out:Int} (a:sparsegen_Small c=some out) (d:globF∈ros) (b:St w0 ros rs w):
  Calls prog 75 #[.int .u64 c] w (fun e w=>e=.returned (.int .u64 out)∧St w0 ros rs w):=by
 refine en func75 rfl ntmps75 fun Q f=>bE a fun h g a=>q 11 rfl (cZ (sparseref03_FromInt_ok g d b) fun w b=>q 4 rfl ?_)
 cases a
 exact za f results75 ⟨rfl,b⟩
theorem sparsegen_Num_ok {d f out:Int} (a:sparsegen_Num d f=some out) (g:globF∈ros) (b:St w0 ros rs w):
  Calls prog 33 #[.int .u64 d,iV f] w (fun e w=>e=.returned (.int .u64 out)∧St w0 ros rs w):=by
 refine en func33 rfl ntmps33 fun Q c=>bE a fun o h a=>q 9 rfl (cZ (sparsegen_Mod_ok h b) fun w b=>q 9 rfl (cI a (fun i a=>?_) fun i a=>?_))
 ·refine q 16 rfl ?_
  cases a
  exact za c results33 ⟨rfl,b⟩
 ·refine q 6 rfl (cI a (fun j a=>?_) fun j a=>?_)
  ·refine q 16 rfl ?_
   cases a
   exact za c results33 ⟨rfl,b⟩
  ·refine q 6 rfl (cI a (fun k a=>?_) fun k a=>?_)
   ·refine q 10 rfl (bE a fun p l a=>cZ (sparseref03_IsFinite_ok l b) fun w b=>q 3 rfl ?_)
    refine cJn a (fun m a=>?_) fun m a=>?_
    ·refine q 11 rfl ?_
     cases a
     exact za c results33 ⟨rfl,b⟩
    ·refine q 9 rfl ?_
     cases a
     exact za c results33 ⟨rfl,b⟩
   ·refine q 6 rfl (bE a fun r n a=>cZ (sparsegen_Small_ok n g b) fun w b=>q 4 rfl ?_)
    cases a
    exact za c results33 ⟨rfl,b⟩
theorem sparsegen_General_ok {O:LI} {c d R:Int} {S:Hdr} {out:Int×Int×LI×LI×LI} (m:sparsegen_General O c d R=some out) (a3:imm (rI .u64) S.v O∈ros) (a4:globF∈ros) (a:St w0 ros rs w):
  Calls prog 12 #[S.v,iV c,iV d,iV R] w (fun e w=>∃ (T U V:Hdr),e=.returned (.agg #[iV out.1,iV out.2.1,T.v,U.v,V.v])∧St w0 ros (row 3 I1 T.v out.2.2.1::row 3 I1 U.v out.2.2.2.1::row 47 (rI .u64) V.v out.2.2.2.2::rs) w):=by
 refine en func12 rfl ntmps12 fun Q a5=>q 2 rfl (yb (rAl a ZT_26) fun o w a=>q 6 rfl (yh (rLt (n:=1) (l:=[0]) a SL_23 [iV 0] (bp1 rfl) rfl rfl (mks1 (cs:=[iV 0]) rfl mkI mks0)) fun W w a=>y (ybuild (us:=[iV c,iV d,W.v,hnil.v,hnil.v]) [(0,iV c),(1,iV d),(2,W.v)] SO_26 (bp3 e0 e0 e0) rfl) (yb (rAl a ZT_26) fun p w a=>sB rfl a ST_26 fun w a=>q 9 rfl ?_)))
 obtain ⟨⟨X,Z,a0⟩,a6,m⟩:=bs m
 replace a:=(a.rowNh 3 I1).rowNh 47 (rI .u64)
 refine lpN (Hdr×Hdr×Hdr) (Hdr×Hdr×Hdr) a6 [0,1,2,3,8,9] (fun (k,H,I,J) (f,u,x)=>[(10,iV J)]) (fun (k,H,I,J) (f,u,x)=>St w0 ros (box o 26 [iV 0,iV 0,hnil.v,hnil.v,hnil.v]::row 3 I1 f.v k::row 3 I1 u.v H::row 47 (rI .u64) x.v I::box p 26 [iV c,iV d,f.v,u.v,x.v]::rs)) (fun | (X,Z,a0),(z,A,B)=>(.exit 0,[],St w0 ros (box o 26 [iV 0,iV 0,hnil.v,hnil.v,hnil.v]::row 3 I1 z.v X::row 3 I1 A.v Z::row 47 (rI .u64) B.v a0::box p 26 [iV c,iV d,z.v,A.v,B.v]::rs))) rfl (_,_,_) (a.k23) rfl ?_ ?_
 ·clear a
  rintro ⟨z,A,B⟩ g w a
  refine q 4 rfl (y (lbs_ [iV c,iV d,z.v,A.v,B.v] ST_26 e0 a R4) (sB rfl a ST_26 fun w a=>q 3 rfl ?_))
  cases m
  exact a5 _ _ _ (fin1r results12 (rcs2 rfl rfl a R0 ST_26 rfl) ⟨_,_,_,rfl,(a.k24)⟩)
 rintro ⟨k,H,I,J⟩ ⟨f,u,x⟩ g w c1 a h
 refine q 8 rfl (cI h (fun a7 h=>?_) fun a7 h=>?_)
 ·refine q 11 rfl ?_
  obtain ⟨⟨r,a1⟩,a8,h⟩:=bs h
  refine lpN (Hdr×Hdr) (Hdr×Hdr) a8 [0,1,2,3,8,9,10] (fun (K,L,j) (s,i)=>[(11,iV j)]) (fun (K,L,j) (s,i)=>St w0 ros (box o 26 [iV 0,iV 0,hnil.v,hnil.v,hnil.v]::row 3 I1 f.v k::row 3 I1 s.v K::row 47 (rI .u64) i.v L::box p 26 [iV c,iV d,f.v,s.v,i.v]::rs)) (fun | (r,a1),(t,C)=>(.exit 2,[],St w0 ros (box o 26 [iV 0,iV 0,hnil.v,hnil.v,hnil.v]::row 3 I1 f.v k::row 3 I1 t.v r::row 47 (rI .u64) C.v a1::box p 26 [iV c,iV d,f.v,t.v,C.v]::rs))) rfl (_,_) a rfl ?_ ?_
  ·clear a
   rintro ⟨t,C⟩ g w a
   refine q 4 rfl (y (lb_ f.v O_23 e0 a R4) (q 1 rfl (y (lb_ t.v O_23 e0 a R4) (y (yLen SL_23 e0 a rO2) (yh (rLt (n:=1) (l:=[(r.length:Int)]) a SL_23 [iV (r.length:Int)] (bp1 e0) rfl rfl (mks1 (cs:=[iV (r.length:Int)]) rfl mkI mks0)) fun c2 w a=>bE h fun c3 a9 h=>?_)))))
   replace a:=a.k16
   refine yh (rAp a SL_23 e0 e0 rO1 a9) fun b0 w a=>q 1 rfl ?_
   replace a:=a.k25
   refine yt (r_stb1 (vals':=[iV c,iV d,b0.v,t.v,C.v]) a O_23 e0 e0 rfl rfl rfl rfl) fun w a=>q 8 rfl ?_
   cases h
   exact ln (_,_,_) (a.k26)
  rintro ⟨K,L,j⟩ ⟨s,i⟩ g w b1 a b
  refine q 8 rfl (cI b (fun b2 b=>?_) fun b2 b=>?_)
  ·refine q 13 rfl (bE b fun c4 b3 b=>cZ (sparsegen_Word_ok b3 a3 a) fun w a=>q 11 rfl ?_)
   refine jC (LI×LI×Hdr×Hdr) [0,1,2,3,8,9,10,11] (fun (D,E,F,G)=>[]) (fun (D,E,F,G) w=>St w0 ros (box o 26 [iV 0,iV 0,hnil.v,hnil.v,hnil.v]::row 3 I1 f.v k::row 3 I1 F.v D::row 47 (rI .u64) G.v E::box p 26 [iV c,iV d,f.v,F.v,G.v]::rs) w∧sparsegen_General_j13 j D E=some b1) rfl ?_ ?_
   ·rintro ⟨D,E,F,G⟩ g w ⟨a,m⟩
    refine q 7 rfl ?_
    cases m
    exact ln (_,_) a
   refine cI b (fun b4 b=>?_) fun b4 b=>?_
   ·refine q 3 rfl (y (lb_ s.v O_23 e0 a R4) (q 1 rfl (yh (rLt (n:=1) (l:=[j]) a SL_23 [iV j] (bp1 e0) rfl rfl (mks1 (cs:=[iV j]) rfl mkI mks0)) fun c5 w a=>bE b fun c6 b5 b=>?_)))
    replace a:=a.k1d
    refine yh (rAp a SL_23 e0 e0 rO1 b5) fun a2 w a=>q 1 rfl ?_
    replace a:=a.k25
    refine yt (r_stb1 (vals':=[iV c,iV d,f.v,a2.v,i.v]) a O_23 e0 e0 rfl rfl rfl rfl) fun w a=>bE b fun N b7 b=>bE b fun c7 b9 b=>q 2 rfl (dR [0,1,0,0,12,28,63,127,255] [4,5,6,8] 4 folM ?_)
    replace a:=a.drew
    refine D1 [0,1,2,3] [] 4 rfl (qR 1 rfl (rQ rfl (lb_ i.v O_24 e0 a R0) (qR 2 rfl (Rn QSn (kZ (sparsegen_Num_ok b7 a4 a) fun w a=>dU (D1 [] [0,1] 5 rfl (Rn (qS rfl (sY rfl (lb_ i.v O_24 e0 a R0) QSn)) (LH wn (rLt (n:=1) (l:=[N]) a SL_24 [.int .u64 N] (bp1 e0) rfl rfl (mks1 (cs:=[.int .u64 N]) rfl mkI mks0)) fun c8 w a=>dU (D1 [] [0,1] 6 rfl (Rn (qS rfl (sY rfl (lb_ i.v O_24 e0 a R1) QSn)) ?_))))))))))
    replace a:=a.k1t
    refine LH wn (rAp a SL_24 e0 e0 rO1 b9) fun c0 w a=>dU (D0 [7] [] 8 rfl (qR 1 rfl (Rn QSn ?_)))
    replace a:=a.k16
    exact LT wn (r_stb1 (vals':=[iV c,iV d,f.v,a2.v,c0.v]) a O_24 e0 e0 rfl rfl rfl rfl) fun w a=>Dz [] [] (Rn QSn (qx 0 rfl (jx (_,_,_,_) ⟨(a.k27),b⟩)))
   ·exact q 1 rfl (jx (_,_,_,_) ⟨a,b⟩)
  ·refine q 2 rfl ?_
   cases b
   exact lx (_,_) a
 ·refine q 2 rfl ?_
  cases h
  exact lx (_,_,_) a
theorem sparseref06_Finite_ok {h:LI} {i:Hdr} {out:Bool} (c:sparseref06_Finite h=some out) (d:imm (rI .u64) i.v h∈ros) (a:St w0 ros rs w):
  Calls prog 47 #[i.v] w (fun e w=>e=.returned (.bool out)∧St w0 ros rs w):=by
 refine en func47 rfl ntmps47 fun Q j=>bE c fun l m c=>q 12 rfl ?_
 refine lp m [0] (fun f=>[(3,iV f)]) (fun f=>St w0 ros rs) (fun | .inl ()=>(.exit 0,[],St w0 ros rs) | .inr ()=>(.ret,[(2,.bool false)],St w0 ros rs)) rfl a rfl ?_ ?_
 ·clear a
  intro g w a
  rcases l with ⟨⟩ | ⟨⟩
  ·refine q 8 rfl ?_
   cases c
   exact za j results47 ⟨rfl,a⟩
  ·refine q 2 rfl ?_
   cases c
   exact za j results47 ⟨rfl,a⟩
 rintro f g w r a b
 refine q 5 rfl (y (yLen SL_24 e0 a (rdI d)) (q 3 rfl (cI b (fun n b=>?_) fun n b=>?_)))
 ·refine q 8 rfl (bE b fun s k b=>y (yIa SL_24 e0 e0 a (rdI d) k) (y (yI O_47 e0 a (rdI d) k) (bE b fun t o b=>cZ (sparseref03_IsFinite_ok o a) fun w a=>q 3 rfl ?_)))
  refine cJn b (fun p b=>?_) fun p b=>?_
  ·refine q 8 rfl ?_
   cases b
   exact lo a
  ·refine q 8 rfl ?_
   cases b
   exact xo a
 ·refine q 2 rfl ?_
  cases b
  exact xo a
theorem sparseref09_Check_ok {b c:Int} {H E I:LI} {f d j:Hdr} {out:Int} (h:sparseref09_Check b c H E I=some out) (k:imm I1 f.v H∈ros) (i:imm I1 d.v E∈ros) (W:imm (rI .u64) j.v I∈ros) (a:St w0 ros rs w):
  Calls prog 18 #[.agg #[iV b,iV c,f.v,d.v,j.v]] w (fun e w=>e=.returned (iV out)∧St w0 ros rs w):=by
 refine en func18 rfl ntmps18 fun Q z=>q 2 rfl (yb (r_box (vals:=[iV b,iV c,f.v,d.v,j.v]) a e0 rfl) fun m w a=>q 7 rfl (y (lb_ (iV b) O_3 e0 a R0) (q 2 rfl ?_)))
 refine jW 4 [1] [(14,.bool ((decide (b < 0)) || (decide ((200:Int) < b))))] (St w0 ros (box m 26 [iV b,iV c,f.v,d.v,j.v]::rs)) rfl (fun X=>?_) ?_
 ·refine gB 10 rfl (fun J=>?_) fun J=>?_
  ·exact q 4 rfl (X _ _ a (hasC (congrArg Value.bool (orT J)) rfl))
  ·exact q 1 rfl (y (lb_ (iV b) O_3 e0 a R0) (q 2 rfl (X _ _ a (hasC (congrArg Value.bool (orF J)) rfl))))
 intro g w a
 refine q 1 rfl ?_
 refine jW 4 [1] [(19,.bool (((decide (b < 0)) || (decide ((200:Int) < b))) || (decide (c < 0))))] (St w0 ros (box m 26 [iV b,iV c,f.v,d.v,j.v]::rs)) rfl (fun Z=>?_) ?_
 ·refine gB 15 rfl (fun K=>?_) fun K=>?_
  ·exact q 4 rfl (Z _ _ a (hasC (congrArg Value.bool (orT K)) rfl))
  ·exact q 1 rfl (y (lb_ (iV c) O_3 e0 a R0) (q 2 rfl (Z _ _ a (hasC (congrArg Value.bool (orF K)) rfl))))
 intro g w a
 refine q 1 rfl ?_
 refine jW 4 [1] [(24,.bool ((((decide (b < 0)) || (decide ((200:Int) < b))) || (decide (c < 0))) || (decide ((200:Int) < c))))] (St w0 ros (box m 26 [iV b,iV c,f.v,d.v,j.v]::rs)) rfl (fun a0=>?_) ?_
 ·refine gB 20 rfl (fun L=>?_) fun L=>?_
  ·exact q 4 rfl (a0 _ _ a (hasC (congrArg Value.bool (orT L)) rfl))
  ·exact q 1 rfl (y (lb_ (iV c) O_3 e0 a R0) (q 2 rfl (a0 _ _ a (hasC (congrArg Value.bool (orF L)) rfl))))
 intro g w a
 refine q 1 rfl ?_
 refine jW 5 [1] [(30,.bool (((((decide (b < 0)) || (decide ((200:Int) < b))) || (decide (c < 0))) || (decide ((200:Int) < c))) || (decide ((10000:Int) < (E.length:Int)))))] (St w0 ros (box m 26 [iV b,iV c,f.v,d.v,j.v]::rs)) rfl (fun a1=>?_) ?_
 ·refine gB 25 rfl (fun N=>?_) fun N=>?_
  ·exact q 5 rfl (a1 _ _ a (hasC (congrArg Value.bool (orT N)) rfl))
  ·exact q 1 rfl (y (lb_ d.v O_23 e0 a R0) (y (yLen SL_23 e0 a (rdI i)) (q 2 rfl (a1 _ _ a (hasC (congrArg Value.bool (orF N)) rfl)))))
 intro g w a
 refine q 2 rfl ?_
 refine cJ h (fun b7 h=>?_) fun b7 h=>?_
 ·refine q 7 rfl ?_
  cases h
  exact za z results18 ⟨rfl,(a.k14)⟩
 ·refine q 5 rfl (y (lb_ d.v O_23 e0 a R0) (y (yLen SL_23 e0 a (rdI i)) (q 7 rfl (y (lb_ j.v O_24 e0 a R0) (y (yLen SL_24 e0 a (rdI W)) (q 3 rfl ?_))))))
  refine jW 8 [1,3] [(47,.bool ((!(decide ((I.length:Int)=(E.length:Int)))) || (!(decide ((H.length:Int)=(wa .i64 c 1))))))] (St w0 ros (box m 26 [iV b,iV c,f.v,d.v,j.v]::rs)) rfl (fun a2=>?_) ?_
  ·refine gB 39 rfl (fun O=>?_) fun O=>?_
   ·exact q 8 rfl (a2 _ _ a (hasC (congrArg Value.bool (orT O)) rfl))
   ·exact q 1 rfl (y (lb_ f.v O_23 e0 a R0) (y (yLen SL_23 e0 a (rdI k)) (q 1 rfl (y (lb_ (iV c) O_3 e0 a R0) (q 3 rfl (a2 _ _ a (hasC (congrArg Value.bool (orF O)) rfl)))))))
  intro g w a
  refine bE h fun b8 t h=>q 1 rfl ?_
  refine jW 6 [1,3] [(54,.bool b8)] (St w0 ros (box m 26 [iV b,iV c,f.v,d.v,j.v]::rs)) rfl (fun a3=>?_) ?_
  ·refine gJ 48 t rfl (fun c0 t=>?_) fun c0 t=>?_
   ·refine q 6 rfl ?_
    cases t
    exact a3 _ _ a rfl
   ·refine q 1 rfl (y (lb_ f.v O_23 e0 a R0) (bE t fun e2 a4 t=>y (yIa SL_23 e0 rfl a (rdI k) a4) (y (yI O_3 e0 a (rdI k) a4) (q 2 rfl ?_))))
    cases t
    exact a3 _ _ a rfl
  intro g w a
  refine bE h fun c1 u h=>q 1 rfl ?_
  refine jW 9 [1] [(64,.bool c1)] (St w0 ros (box m 26 [iV b,iV c,f.v,d.v,j.v]::rs)) rfl (fun a5=>?_) ?_
  ·refine gJ 55 u rfl (fun c2 u=>?_) fun c2 u=>?_
   ·refine q 9 rfl ?_
    cases u
    exact a5 _ _ a rfl
   ·refine q 1 rfl (y (lb_ f.v O_23 e0 a R0) (q 1 rfl (y (lb_ (iV c) O_3 e0 a R0) (bE u fun e3 a6 u=>y (yIa SL_23 e0 e0 a (rdI k) a6) (y (yI O_3 e0 a (rdI k) a6) (q 3 rfl ?_))))))
    cases u
    exact a5 _ _ a rfl
  intro g w a
  refine q 2 rfl ?_
  refine cJ h (fun c3 h=>?_) fun c3 h=>?_
  ·refine q 7 rfl ?_
   cases h
   exact za z results18 ⟨rfl,(a.k14)⟩
  ·refine q 9 rfl (bE h fun c4 c5 h=>?_)
   refine lp c5 [1] (fun R=>[(4,iV R)]) (fun R=>St w0 ros (box m 26 [iV b,iV c,f.v,d.v,j.v]::rs)) (fun | .inl ()=>(.exit 0,[],St w0 ros (box m 26 [iV b,iV c,f.v,d.v,j.v]::rs)) | .inr ()=>(.ret,[(2,iV 1)],St w0 ros rs)) rfl a rfl ?_ ?_
   ·clear a
    intro g w a
    rcases c4 with ⟨⟩ | ⟨⟩
    ·refine q 9 rfl (bE h fun c6 c7 h=>?_)
     refine lp c7 [1] (fun S=>[(5,iV S)]) (fun S=>St w0 ros (box m 26 [iV b,iV c,f.v,d.v,j.v]::rs)) (fun | .inl ()=>(.exit 2,[],St w0 ros (box m 26 [iV b,iV c,f.v,d.v,j.v]::rs)) | .inr ()=>(.ret,[(2,iV 1)],St w0 ros rs)) rfl a rfl ?_ ?_
     ·clear a
      intro g w a
      rcases c6 with ⟨⟩ | ⟨⟩
      ·refine q 6 rfl (y (lb_ j.v O_24 e0 a R0) (bE h fun e4 c8 h=>cZ (sparseref06_Finite_ok c8 W a) fun w a=>q 3 rfl ?_))
       refine cJn h (fun c9 h=>?_) fun c9 h=>?_
       ·refine q 8 rfl ?_
        cases h
        exact za z results18 ⟨rfl,(a.k14)⟩
       ·refine q 7 rfl ?_
        cases h
        exact za z results18 ⟨rfl,(a.k14)⟩
      ·refine q 2 rfl ?_
       cases h
       exact za z results18 ⟨rfl,a⟩
     rintro S g w e5 a p
     refine q 5 rfl (y (lb_ (iV c) O_3 e0 a R0) (q 3 rfl (cI p (fun d0 p=>?_) fun d0 p=>?_)))
     ·refine q 7 rfl (y (lb_ f.v O_23 e0 a R0) (bE p fun e6 a7 p=>q 1 rfl (y (yIa SL_23 e0 e0 a (rdI k) a7) (y (yI O_3 e0 a (rdI k) a7) (bE p fun d1 d2 p=>q 4 rfl ?_)))))
      refine lp d2 [1,5] (fun T=>[(6,iV T)]) (fun T=>St w0 ros (box m 26 [iV b,iV c,f.v,d.v,j.v]::rs)) (fun | .inl ()=>(.exit 4,[],St w0 ros (box m 26 [iV b,iV c,f.v,d.v,j.v]::rs)) | .inr ()=>(.ret,[(2,iV 1)],St w0 ros rs)) rfl a rfl ?_ ?_
      ·clear a
       intro g w a
       rcases d1 with ⟨⟩ | ⟨⟩
       ·refine q 8 rfl ?_
        cases p
        exact lo a
       ·refine q 3 rfl ?_
        cases p
        exact xo a
      rintro T g w e7 a l
      refine q 5 rfl (y (lb_ f.v O_23 e0 a R0) (bE l fun e8 a8 l=>q 2 rfl (y (yIa SL_23 e0 e0 a (rdI k) a8) (y (yI O_3 e0 a (rdI k) a8) (q 3 rfl (cI l (fun d3 l=>?_) fun d3 l=>?_))))))
      ·refine q 5 rfl (bE l fun e9 s l=>bE l fun B x l=>bE l fun C o l=>?_)
       refine jN Unit [1,5,6] (fun _=>[(142,.bool C)]) (fun _=>St w0 ros (box m 26 [iV b,iV c,f.v,d.v,j.v]::rs)) rfl ?_ ?_
       ·rcases iteS x with ⟨D,x⟩ | ⟨D,x⟩
        ·have a9:=someI x
         have b0:B=true:=a9.symm
         rw [if_pos b0] at o
         have d4:=someI o
         refine dR [0,1,0,7,15,31,63,127,255,127,1023,2047,127,4223,16383,32767,65535,131071,131071,393215,131071,1966079,4063231,8388607,16777215,33554431,67108863,33554431,268435455,536870911,33554431,1107296255,33554431,4328521727,16139681791,33319550975,68719476735,137438953471,274877906943] [] 0 folM ?_
         replace a:=a.drew
         refine Dz [0,1,2,3,4,5,6,7,8,9,10,11,12,13,14,15,16,17,18,19,20,21,22,23,24,25,26,27,28,29,30,31,32,33,34,35,36,37,38] [] (qR 1 rfl (rQ rfl (lb_ d.v O_23 e0 a R0) (qR 1 rfl (rQ rfl (yIa SL_23 e0 e0 a (rdI i) s) (rQ rfl (yI O_3 e0 a (rdI i) s) (qR 2 rfl (rK 110 rfl (dT D) (qR 8 rfl (rQ rfl (pt_ (.bool B) e0 rfl (eqv a9 rfl)) (qR 1 rfl (rK 120 rfl b0 (qR 21 rfl (rQ rfl (pt_ (.bool C) e0 rfl (eqv d4 rfl)) ?_)))))))))))))
         exact Rn QSn (jr () a)
        ·refine bE x fun f0 A x=>?_
         have U:=someI x
         rcases iteS o with ⟨F,o⟩ | ⟨F,o⟩
         ·have d5:=someI o
          refine dR [0,1,0,7,15,31,63,127,255,127,1023,2047,127,4223,16383,32767,65535,131071,131071,393215,131071,1966079,4063231,8388607,16777215,33554431,67108863,33554431,268435455,536870911,33554431,1107296255,33554431,4328521727,16139681791,33319550975,68719476735,137438953471,274877906943] [] 0 folM ?_
          replace a:=a.drew
          refine Dz [0,1,2,3,4,5,6,7,8,9,10,11,12,13,14,15,16,17,18,19,20,21,22,23,24,25,26,27,28,29,30,31,32,33,34,35,36,37,38] [] (qR 1 rfl (rQ rfl (lb_ d.v O_23 e0 a R0) (qR 1 rfl (rQ rfl (yIa SL_23 e0 e0 a (rdI i) s) (rQ rfl (yI O_3 e0 a (rdI i) s) (qR 2 rfl (rK 110 rfl (dF D) (qR 1 rfl (rQ rfl (lb_ d.v O_23 e0 a R0) (qR 1 rfl (rQ rfl (yIa SL_23 e0 e0 a (rdI i) A) (rQ rfl (yI O_3 e0 a (rdI i) A) (qR 1 rfl ?_)))))))))))))
          exact rQ rfl (lb_ (iV b) O_3 e0 a R0) (qR 1 rfl (rQ rfl (pf_ (.bool B) e0 rfl (eqv U e0)) (qR 1 rfl (rK 120 rfl F (qR 21 rfl (rQ rfl (pt_ (.bool C) e0 rfl (eqv d5 rfl)) (Rn QSn (jr () a))))))))
         ·refine bE o fun f1 G o=>bE o fun b1 r o=>?_
          have b2:=someI o
          rcases iteS r with ⟨V,r⟩ | ⟨V,r⟩
          ·refine bE r fun f2 b3 r=>bE r fun f3 b4 r=>?_
           have d6:=someI r
           refine dR [0,1,0,7,15,31,63,127,255,127,1023,2047,127,4223,16383,32767,65535,131071,131071,393215,131071,1966079,4063231,8388607,16777215,33554431,67108863,33554431,268435455,536870911,33554431,1107296255,33554431,4328521727,16139681791,33319550975,68719476735,137438953471,274877906943] [] 0 folM ?_
           replace a:=a.drew
           refine Dz [0,1,2,3,4,5,6,7,8,9,10,11,12,13,14,15,16,17,18,19,20,21,22,23,24,25,26,27,28,29,30,31,32,33,34,35,36,37,38] [] (qR 1 rfl (rQ rfl (lb_ d.v O_23 e0 a R0) (qR 1 rfl (rQ rfl (yIa SL_23 e0 e0 a (rdI i) s) (rQ rfl (yI O_3 e0 a (rdI i) s) (qR 2 rfl (rK 110 rfl (dF D) (qR 1 rfl (rQ rfl (lb_ d.v O_23 e0 a R0) (qR 1 rfl (rQ rfl (yIa SL_23 e0 e0 a (rdI i) A) (rQ rfl (yI O_3 e0 a (rdI i) A) (qR 1 rfl ?_)))))))))))))
           refine rQ rfl (lb_ (iV b) O_3 e0 a R0) (qR 1 rfl (rQ rfl (pf_ (.bool B) e0 rfl (eqv U e0)) (qR 1 rfl (rK 120 rfl (bfalse F) (qR 2 rfl (rQ rfl (lb_ f.v O_23 e0 a R0) (qR 1 rfl (rQ rfl (yIa SL_23 e0 e0 a (rdI k) G) (rQ rfl (yI O_3 e0 a (rdI k) G) (qR 2 rfl (rK 128 rfl (dT V) (qR 1 rfl (rQ rfl (lb_ d.v O_23 e0 a R0) ?_)))))))))))))
           exact qR 1 rfl (rQ rfl (yIa SL_23 e0 e0 a (rdI i) b3) (rQ rfl (yI O_3 e0 a (rdI i) b3) (qR 1 rfl (rQ rfl (lb_ d.v O_23 e0 a R0) (qR 2 rfl (rQ rfl (yIa SL_23 e0 e0 a (rdI i) b4) (rQ rfl (yI O_3 e0 a (rdI i) b4) (qR 1 rfl (rQ rfl (pt_ (.bool b1) e0 rfl (eqv d6 e0)) (rQ rfl (pf_ (.bool C) e0 rfl (eqv b2 e0)) (Rn QSn (jr () a))))))))))))
          ·have d7:=someI r
           refine dR [0,1,0,7,15,31,63,127,255,127,1023,2047,127,4223,16383,32767,65535,131071,131071,393215,131071,1966079,4063231,8388607,16777215,33554431,67108863,33554431,268435455,536870911,33554431,1107296255,33554431,4328521727,16139681791,33319550975,68719476735,137438953471,274877906943] [] 0 folM ?_
           replace a:=a.drew
           refine Dz [0,1,2,3,4,5,6,7,8,9,10,11,12,13,14,15,16,17,18,19,20,21,22,23,24,25,26,27,28,29,30,31,32,33,34,35,36,37,38] [] (qR 1 rfl (rQ rfl (lb_ d.v O_23 e0 a R0) (qR 1 rfl (rQ rfl (yIa SL_23 e0 e0 a (rdI i) s) (rQ rfl (yI O_3 e0 a (rdI i) s) (qR 2 rfl (rK 110 rfl (dF D) (qR 1 rfl (rQ rfl (lb_ d.v O_23 e0 a R0) (qR 1 rfl (rQ rfl (yIa SL_23 e0 e0 a (rdI i) A) (rQ rfl (yI O_3 e0 a (rdI i) A) (qR 1 rfl ?_)))))))))))))
           refine rQ rfl (lb_ (iV b) O_3 e0 a R0) (qR 1 rfl (rQ rfl (pf_ (.bool B) e0 rfl (eqv U e0)) (qR 1 rfl (rK 120 rfl (bfalse F) (qR 2 rfl (rQ rfl (lb_ f.v O_23 e0 a R0) (qR 1 rfl (rQ rfl (yIa SL_23 e0 e0 a (rdI k) G) (rQ rfl (yI O_3 e0 a (rdI k) G) (qR 2 rfl (rK 128 rfl (dF V) (qR 12 rfl (rQ rfl (pf_ (.bool b1) e0 rfl (eqv d7 rfl)) ?_)))))))))))))
           exact rQ rfl (pf_ (.bool C) e0 rfl (eqv b2 e0)) (Rn QSn (jr () a))
       rintro _ g w a
       refine q 1 rfl ?_
       refine cJ l (fun d8 l=>?_) fun d8 l=>?_
       ·refine q 8 rfl ?_
        cases l
        exact xo (a.k14)
       ·refine q 8 rfl ?_
        cases l
        exact lo a
      ·refine q 2 rfl ?_
       cases l
       exact xo a
     ·refine q 2 rfl ?_
      cases p
      exact xo a
    ·refine q 2 rfl ?_
     cases h
     exact za z results18 ⟨rfl,a⟩
   rintro R g w f4 a n
   refine q 5 rfl (y (lb_ (iV c) O_3 e0 a R0) (q 3 rfl (cI n (fun d9 n=>?_) fun d9 n=>?_)))
   ·refine q 5 rfl (bE n fun f5 b5 n=>bE n fun f6 b6 n=>dR [0,1,0,7,15,0,32,0,128,480,992,2047] [] 0 folM ?_)
    replace a:=a.drew
    refine Dz [0,1,2,3,4,5,6,7,8,9,10,11] [] (qR 1 rfl (rQ rfl (lb_ f.v O_23 e0 a R0) (qR 1 rfl (rQ rfl (yIa SL_23 e0 e0 a (rdI k) b5) (rQ rfl (yI O_3 e0 a (rdI k) b5) (qR 1 rfl (rQ rfl (lb_ f.v O_23 e0 a R0) (qR 2 rfl (rQ rfl (yIa SL_23 e0 e0 a (rdI k) b6) (rQ rfl (yI O_3 e0 a (rdI k) b6) (qR 1 rfl (Rn QSn (qx 1 rfl (cI n (fun e1 n=>?_) fun e1 n=>?_))))))))))))))
    ·refine q 8 rfl ?_
     cases n
     exact xo (a.k14)
    ·refine q 8 rfl ?_
     cases n
     exact lo a
   ·refine q 2 rfl ?_
    cases n
    exact xo a
theorem sparseref09_At_ok {j d:Int} {u x z:LI} {A k:Int} {f h i:Hdr} {out:Int} (c:sparseref09_At j d u x z A k=some out) (l:imm I1 f.v u∈ros) (m:imm I1 h.v x∈ros) (n:imm (rI .u64) i.v z∈ros) (a:St w0 ros rs w):
  Calls prog 15 #[.agg #[iV j,iV d,f.v,h.v,i.v],iV A,iV k] w (fun e w=>e=.returned (.int .u64 out)∧St w0 ros rs w):=by
 refine en func15 rfl ntmps15 fun Q o=>q 2 rfl (yb (r_box (vals:=[iV j,iV d,f.v,h.v,i.v]) a e0 rfl) fun p w a=>q 6 rfl (y (lbs_ [iV j,iV d,f.v,h.v,i.v] ST_26 e0 a R0) (bE c fun B J c=>cZ (sparseref09_Check_ok J l m n a) fun w a=>q 2 rfl ?_)))
 refine jW 3 [1,2,3] [(14,.bool ((!(decide (B=0))) || (decide (k < 0))))] (St w0 ros (box p 26 [iV j,iV d,f.v,h.v,i.v]::rs)) rfl (fun C=>?_) ?_
 ·refine gB 11 rfl (fun r=>?_) fun r=>?_
  ·exact q 3 rfl (C _ _ a (hasC (congrArg Value.bool (orT r)) rfl))
  ·exact q 3 rfl (C _ _ a (hasC (congrArg Value.bool (orF r)) rfl))
 intro g w a
 refine q 1 rfl ?_
 refine jW 5 [1,2,3] [(20,.bool (((!(decide (B=0))) || (decide (k < 0))) || (decide (d≤k))))] (St w0 ros (box p 26 [iV j,iV d,f.v,h.v,i.v]::rs)) rfl (fun D=>?_) ?_
 ·refine gB 15 rfl (fun s=>?_) fun s=>?_
  ·exact q 5 rfl (D _ _ a (hasC (congrArg Value.bool (orT s)) rfl))
  ·exact q 2 rfl (y (lb_ (iV d) O_3 e0 a R0) (q 2 rfl (D _ _ a (hasC (congrArg Value.bool (orF s)) rfl))))
 intro g w a
 refine q 2 rfl ?_
 refine cJ c (fun K c=>?_) fun K c=>?_
 ·refine q 7 rfl ?_
  cases c
  exact za o results15 ⟨rfl,(a.k14)⟩
 ·refine q 6 rfl (y (lb_ f.v O_23 e0 a R0) (bE c fun S E c=>q 1 rfl (y (yIa SL_23 e0 e0 a (rdI l) E) (y (yI O_3 e0 a (rdI l) E) (bE c fun L N c=>q 4 rfl ?_)))))
  refine lp N [1,2,3] (fun t=>[(7,iV t)]) (fun t=>St w0 ros (box p 26 [iV j,iV d,f.v,h.v,i.v]::rs)) (fun | .inl ()=>(.exit 0,[],St w0 ros rs) | .inr F=>(.ret,[(6,.int .u64 F)],St w0 ros rs)) rfl a rfl ?_ ?_
  ·clear a
   intro g w a
   rcases L with ⟨⟩ | F
   ·refine q 8 rfl ?_
    cases c
    exact za o results15 ⟨rfl,a⟩
   ·refine q 2 rfl ?_
    cases c
    exact za o results15 ⟨rfl,a⟩
  rintro t g w T a b
  refine q 5 rfl (y (lb_ f.v O_23 e0 a R0) (bE b fun U G b=>q 2 rfl (y (yIa SL_23 e0 e0 a (rdI l) G) (y (yI O_3 e0 a (rdI l) G) (q 3 rfl (cI b (fun O b=>?_) fun O b=>?_))))))
  ·refine q 7 rfl (y (lb_ h.v O_23 e0 a R0) (bE b fun V H b=>q 1 rfl (y (yIa SL_23 e0 e0 a (rdI m) H) (y (yI O_3 e0 a (rdI m) H) (q 4 rfl (cI b (fun R b=>?_) fun R b=>?_))))))
   ·refine q 3 rfl (y (lb_ i.v O_24 e0 a R0) (bE b fun W I b=>q 1 rfl (y (yIa SL_24 e0 e0 a (rdI n) I) (y (yI O_47 e0 a (rdI n) I) (q 6 rfl ?_)))))
    cases b
    exact xo (a.k14)
   ·refine q 8 rfl ?_
    cases b
    exact lo a
  ·refine q 2 rfl ?_
   cases b
   exact xo (a.k14)
theorem sparseref03_Kind_ok {c out:Int} (a:sparseref03_Kind c=some out) (b:St w0 ros rs w):
  Calls prog 35 #[.int .u64 c] w (fun e w=>e=.returned (iV out)∧St w0 ros rs w):=by
 refine en func35 rfl ntmps35 fun Q d=>q 23 rfl ?_
 refine jW 3 [3,4] [(16,.bool ((decide ((wand .u64 (wsrc .u64 c 52) 2047)=2047)) && (!(decide ((wand .u64 c 4503599627370495)=0)))))] (St w0 ros rs) rfl (fun i=>?_) ?_
 ·refine gB 13 rfl (fun f=>?_) fun f=>?_
  ·exact q 3 rfl (i _ _ b (hasC (congrArg Value.bool (andT f)) rfl))
  ·exact q 3 rfl (i _ _ b (hasC (congrArg Value.bool (andF f)) rfl))
 intro g w b
 refine q 3 rfl ?_
 refine cJ a (fun k a=>?_) fun k a=>?_
 ·refine q 8 rfl ?_
  cases a
  exact za d results35 ⟨rfl,b⟩
 ·refine q 7 rfl (cI a (fun l a=>?_) fun l a=>?_)
  ·refine q 8 rfl ?_
   cases a
   exact za d results35 ⟨rfl,b⟩
  ·refine q 5 rfl ?_
   refine jW 3 [] [(26,.bool ((decide ((wand .u64 (wsrc .u64 c 52) 2047)=0)) && (decide ((wand .u64 c 4503599627370495)=0))))] (St w0 ros rs) rfl (fun j=>?_) ?_
   ·refine gB 23 rfl (fun h=>?_) fun h=>?_
    ·exact q 3 rfl (j _ _ b (hasC (congrArg Value.bool (andT h)) rfl))
    ·exact q 3 rfl (j _ _ b (hasC (congrArg Value.bool (andF h)) rfl))
   intro g w b
   refine q 3 rfl ?_
   refine cJ a (fun m a=>?_) fun m a=>?_
   ·refine q 8 rfl ?_
    cases a
    exact za d results35 ⟨rfl,b⟩
   ·refine q 9 rfl ?_
    cases a
    exact za d results35 ⟨rfl,b⟩
end Go.Proofs.YtcoaljcfifecgagGreatDoor
