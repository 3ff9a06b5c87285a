/- Walks: each function computes its model, printed. -/
import Derived.Test.YtcoaljcfifecgabGreatDoorW2
namespace Go.Proofs.YtcoaljcfifecgabGreatDoor
open Go Sx M Go.Proofs.Tryz
set_option maxRecDepth 100000
set_option maxHeartbeats 40000000
set_option linter.unusedVariables false
attribute [local irreducible] wpList Code.wp Calls DR QR QS LA LS St row box fam imm rowS loop
variable {w0:World} {ros:List Fact} {rs:List Res} {w:World}
theorem w_bg {b:Int} {out:Bool} (c:m_cf b=some out) (a:St w0 ros rs w):
  Calls prog 24 #[.int .u64 b] w (fun e w=>e=.returned (.bool out)∧St w0 ros rs w):=by
 refine en func24 rfl ntmps24 fun Q d=>?_
 refine z 1 5 ?_;intro f g c w a
 cases c
 exact za d results24 ⟨rfl,a⟩
instance:CL prog 24 (type_of% @w_bg):=⟨@w_bg⟩
theorem w_bh {b:Int} {out:Bool} (c:m_cg b=some out) (a:St w0 ros rs w):
  Calls prog 65 #[.int .u64 b] w (fun e w=>e=.returned (.bool out)∧St w0 ros rs w):=by
 refine en func65 rfl ntmps65 fun Q d=>q 14 rfl ?_
 cases c
 exact za d results65 ⟨rfl,a⟩
instance:CL prog 65 (type_of% @w_bh):=⟨@w_bh⟩
theorem w_bi {f:Int} {out:Bool×Bool×LI×Int} (c:m_ci f=some out) (o:globF∈ros) (a:St w0 ros rs w):
  Calls prog 28 #[.int .u64 f] w (fun e w=>∃ (h:Hdr),e=.returned (.agg #[.bool out.1,.bool out.2.1,h.v,iV out.2.2.2])∧St w0 (imm (rI .u32) h.v out.2.2.1::ros) rs w):=by
 refine en func28 rfl ntmps28 fun Q i=>?_
 refine z 2 3 ?_;intro j w a p r c w a
 refine cJn c (fun k c=>?_) fun k c=>?_
 ·refine q 26 rfl ?_
  refine jC (Int×Int) [0,2] (fun (b,d)=>[(4,.int .u64 b),(5,iV d)]) (fun (b,d) w=>St w0 ros (box j 63 [.bool false,.bool false,hnil.v,iV 0]::rs) w∧m_ch f b d=some out) rfl ?_ ?_
  ·rintro ⟨b,d⟩ g w ⟨a,c⟩
   refine z 1 5 ?_;intro s t c w a
   refine yh (rLt (n:=2) (l:=[wc .u32 b,wc .u32 (wsrc .u64 b 32)]) a SL_47 [.int .u32 (wc .u32 b),.int .u32 (wc .u32 (wsrc .u64 b 32))] (bp2 e0 e0) rfl rfl (mks1 (cs:=[.int .u32 (wc .u32 b)]) rfl mkI (mks1 (cs:=[.int .u32 (wc .u32 (wsrc .u64 b 32))]) rfl mkI mks0))) fun u w a=>?_
   refine z 3 3 ?_;intro x y c A w a w a
   cases c
   exact i _ _ _ (fin1r results28 (rcs2 rfl rfl a R0 ST_63 rfl) ⟨_,rfl,((a.k13).facts (allC F0 (allT (allT allI))))⟩)
  refine cI c (fun m c=>?_) fun m c=>?_
  ·exact q 12 rfl (jx (_,_) ⟨a,c⟩)
  ·exact q 1 rfl (jx (_,_) ⟨a,c⟩)
 ·refine z 2 4 ?_;intro B C c w a w a
  cases c
  replace a:=a.immNh (rI .u32)
  exact i _ _ _ (fin1r results28 (rcs2 rfl rfl a R0 ST_63 rfl) ⟨_,rfl,(a.k13)⟩)
instance:CL prog 28 (type_of% @w_bi):=⟨@w_bi⟩
theorem w_bj {k l:Bool} {m:LI} {n f:Int} {o:Hdr} {out:Bool×Bool×LI×Int} (c:m_cj k l m n f=some out) (C:imm (rI .u32) o.v m∈ros) (D:globF∈ros) (a:St w0 ros rs w):
  Calls prog 27 #[.agg #[.bool k,.bool l,o.v,iV n],iV f] w (fun e w=>∃ (p:Hdr),e=.returned (.agg #[.bool out.1,.bool out.2.1,p.v,iV out.2.2.2])∧St w0 (imm (rI .u32) p.v out.2.2.1::ros) rs w):=by
 refine en func27 rfl ntmps27 fun Q i=>?_
 refine z 6 1 ?_;intro r w a s w a b E c h w a w a
 refine bE c fun x d c=>?_
 refine jW 5 [1,2,4] [(14,.bool x)] (St w0 (imm (rI .u32) h.v b.2.2.1::ros) (box r 63 [.bool b.1,.bool b.2.1,h.v,iV b.2.2.2]::box s 63 [.bool false,.bool false,hnil.v,iV 0]::rs)) rfl (fun t=>?_) ?_
 ·refine gJ 9 d rfl (fun y d=>?_) fun y d=>?_
  ·refine q 5 rfl ?_
   cases d
   exact t _ _ a rfl
  ·refine z 1 0 ?_
   refine bE d fun F G d=>?_
   refine z 1 2 ?_;intro w a
   cases d
   exact t _ _ a rfl
 intro g w a
 refine q 2 rfl ?_
 refine cJ c (fun A c=>?_) fun A c=>?_
 ·refine z 2 4 ?_;intro w a
  cases c
  exact i _ _ _ (fin1r results27 (rcs2 rfl rfl a R0 ST_63 rfl) ⟨_,rfl,(a.k19)⟩)
 ·refine q 8 rfl ?_
  refine jW 3 [1,2,4] [(21,.bool ((decide ((262144:Int) < f)) || (decide (f < (-262144)))))] (St w0 (imm (rI .u32) h.v b.2.2.1::ros) (box r 63 [.bool b.1,.bool b.2.1,h.v,iV b.2.2.2]::box s 63 [.bool false,.bool false,hnil.v,iV 0]::rs)) rfl (fun u=>?_) ?_
  ·refine gB 18 rfl (fun j=>?_) fun j=>?_
   ·exact q 3 rfl (u _ _ a (hasC (congrArg Value.bool (orT j)) rfl))
   ·exact q 3 rfl (u _ _ a (hasC (congrArg Value.bool (orF j)) rfl))
  intro g w a
  refine q 2 rfl ?_
  refine cJ c (fun B c=>?_) fun B c=>?_
  ·refine z 2 4 ?_;intro H I c w a w a
   cases c
   replace a:=a.immNh (rI .u32)
   exact i _ _ _ (fin1r results27 (rcs2 rfl rfl a R0 ST_63 rfl) ⟨_,rfl,((a.k19).facts (allC F0 (allT (allT allI))))⟩)
  ·refine z 4 3 ?_;intro J K c L w a w a
   cases c
   exact i _ _ _ (fin1r results27 (rcs2 rfl rfl a R0 ST_63 rfl) ⟨_,rfl,((a.k19).facts (allC F0 (allT (allT allI))))⟩)
instance:CL prog 27 (type_of% @w_bj):=⟨@w_bj⟩
theorem w_bk {d f g out:Int} (c:m_ck d f g=some out) (j:globF∈ros) (a:St w0 ros rs w):
  Calls prog 12 #[.int .u64 d,iV f,iV g] w (fun e w=>e=.returned (.int .u64 out)∧St w0 ros rs w):=by
 refine en func12 rfl ntmps12 fun Q b=>?_
 refine z 1 2 ?_;intro k l c w a
 refine cJ c (fun h c=>?_) fun h c=>?_
 ·refine q 7 rfl ?_
  cases c
  exact za b results12 ⟨rfl,a⟩
 ·refine z 1 3 ?_;intro m n c w a
  refine cIn c (fun i c=>?_) fun i c=>?_
  ·refine z 3 4 ?_;intro o p c r w a s t c u w a v x c w a
   cases c
   exact za b results12 ⟨rfl,(a.fc)⟩
  ·refine q 8 rfl ?_
   cases c
   exact za b results12 ⟨rfl,a⟩
instance:CL prog 12 (type_of% @w_bk):=⟨@w_bk⟩
theorem w_bl {E:LI} {O R S:Int} {T:Bool} {U:Hdr} {out:Int×Int×LI×LI×LI} (c:m_co E O R S T=some out) (c2:imm (rI .u64) U.v E∈ros) (a6:globF∈ros) (a:St w0 ros rs w):
  Calls prog 4 #[U.v,iV O,iV R,iV S,.bool T] w (fun e w=>∃ (V W X:Hdr),e=.returned (.agg #[iV out.1,iV out.2.1,V.v,W.v,X.v])∧St w0 ros (row 3 I1 V.v out.2.2.1::row 3 I1 W.v out.2.2.2.1::row 39 (rI .u64) X.v out.2.2.2.2::rs) w):=by
 refine en func4 rfl ntmps4 fun Q Z=>?_
 refine z 7 9 ?_;intro r w a c3 c4 c w a c5 c6 c w a c7 c8 c w a b c9 c f h i w a A w a w a
 refine cJn c (fun a7 c=>?_) fun a7 c=>?_
 ·refine z 2 0 ?_
  refine yh (rLt (n:=1) (l:=[0]) a SL_23 [iV 0] (bp1 rfl) rfl rfl (mks1 (cs:=[iV 0]) rfl mkI mks0)) fun d0 w a=>?_
  refine z 3 9 ?_;intro s w a w a
  obtain ⟨⟨a0,a1,a2⟩,a8,c⟩:=bs c
  replace a:=(((((((a.k1e).fz).k1e).fz).k1e).fz).rowNh 3 I1).rowNh 39 (rI .u64)
  refine lpN (Hdr×Hdr×Hdr) (Hdr×Hdr×Hdr) a8 [0,10,11,12] (fun (k,t,u,C) (d,m,o)=>[(13,iV C)]) (fun (k,t,u,C) (d,m,o)=>St w0 (imm I1 f.v b.2.2.1::imm I1 h.v b.2.2.2.1::imm (rI .u64) i.v b.2.2.2.2::ros) (box r 26 [iV 0,iV 0,hnil.v,hnil.v,hnil.v]::box A 26 [iV b.1,iV b.2.1,f.v,h.v,i.v]::row 3 I1 d.v k::row 3 I1 m.v t::row 39 (rI .u64) o.v u::box s 26 [iV b.1,iV b.2.1,d.v,m.v,o.v]::rs)) (fun | (a0,a1,a2),(F,G,H)=>(.exit 0,[],St w0 ros (box r 26 [iV 0,iV 0,hnil.v,hnil.v,hnil.v]::row 3 I1 F.v a0::row 3 I1 G.v a1::row 39 (rI .u64) H.v a2::box s 26 [iV b.1,iV b.2.1,F.v,G.v,H.v]::rs))) rfl (_,_,_) ((a.k29).facts (allC F2 (allC F1 (allC F0 (allT (allT (allT allI))))))) rfl ?_ ?_
  ·clear a
   rintro ⟨F,G,H⟩ g w a
   refine z 2 3 ?_;intro w a
   cases c
   exact Z _ _ _ (fin1r results4 (rcs2 rfl rfl a R0 ST_26 rfl) ⟨_,_,_,rfl,(a.k25)⟩)
  rintro ⟨k,t,u,C⟩ ⟨d,m,o⟩ g w a9 a c
  refine z 1 3 ?_
  refine cI c (fun b0 c=>?_) fun b0 c=>?_
  ·refine q 16 rfl (bE c fun b1 p c=>?_)
   refine jW 7 [0,10,11,12,13,14] [(51,.bool b1)] (St w0 (imm I1 f.v b.2.2.1::imm I1 h.v b.2.2.2.1::imm (rI .u64) i.v b.2.2.2.2::ros) (box r 26 [iV 0,iV 0,hnil.v,hnil.v,hnil.v]::box A 26 [iV b.1,iV b.2.1,f.v,h.v,i.v]::row 3 I1 d.v k::row 3 I1 m.v t::row 39 (rI .u64) o.v u::box s 26 [iV b.1,iV b.2.1,d.v,m.v,o.v]::rs)) rfl (fun a3=>?_) ?_
   ·refine gI 44 p rfl (fun b2 p=>?_) fun b2 p=>?_
    ·refine q 3 rfl (bE p fun d1 d2 p=>?_)
     refine z 1 3 ?_;intro w a
     cases p
     exact a3 _ _ a rfl
    ·refine q 7 rfl ?_
     cases p
     exact a3 _ _ a rfl
   intro g w a
   refine q 2 rfl ?_
   refine jC Int [0,10,11,12,13] (fun D=>[(14,iV D)]) (fun D w=>St w0 (imm I1 f.v b.2.2.1::imm I1 h.v b.2.2.2.1::imm (rI .u64) i.v b.2.2.2.2::ros) (box r 26 [iV 0,iV 0,hnil.v,hnil.v,hnil.v]::box A 26 [iV b.1,iV b.2.1,f.v,h.v,i.v]::row 3 I1 d.v k::row 3 I1 m.v t::row 39 (rI .u64) o.v u::box s 26 [iV b.1,iV b.2.1,d.v,m.v,o.v]::rs) w∧m_cm E C b t u k D=some a9) rfl ?_ ?_
   ·rintro D g w ⟨a,c⟩
    refine z 1 13 ?_;intro d3 d4 c w a
    obtain ⟨⟨B,a4⟩,b3,c⟩:=bs c
    refine lpN (Hdr×Hdr) (Hdr×Hdr) b3 [0,10,11,12,13,14,15] (fun (I,J,x) (y,j)=>[(16,iV x)]) (fun (I,J,x) (y,j)=>St w0 (imm I1 f.v b.2.2.1::imm I1 h.v b.2.2.2.1::imm (rI .u64) i.v b.2.2.2.2::ros) (box r 26 [iV 0,iV 0,hnil.v,hnil.v,hnil.v]::box A 26 [iV b.1,iV b.2.1,f.v,h.v,i.v]::row 3 I1 d.v k::row 3 I1 y.v I::row 39 (rI .u64) j.v J::box s 26 [iV b.1,iV b.2.1,d.v,y.v,j.v]::rs)) (fun | (B,a4),(K,L)=>(.exit 2,[],St w0 (imm I1 f.v b.2.2.1::imm I1 h.v b.2.2.2.1::imm (rI .u64) i.v b.2.2.2.2::ros) (box r 26 [iV 0,iV 0,hnil.v,hnil.v,hnil.v]::box A 26 [iV b.1,iV b.2.1,f.v,h.v,i.v]::row 3 I1 d.v k::row 3 I1 K.v B::row 39 (rI .u64) L.v a4::box s 26 [iV b.1,iV b.2.1,d.v,K.v,L.v]::rs))) rfl (_,_) a rfl ?_ ?_
    ·clear a
     rintro ⟨K,L⟩ g w a
     refine z 3 0 ?_
     refine yh (rLt (n:=1) (l:=[(B.length:Int)]) a SL_23 [iV (B.length:Int)] (bp1 e0) rfl rfl (mks1 (cs:=[iV (B.length:Int)]) rfl mkI mks0)) fun d5 w a=>?_
     refine z 2 8 ?_;intro d6 d7 c d8 w a w a
     cases c
     exact ln (_,_,_) (a.k2a)
    rintro ⟨I,J,x⟩ ⟨y,j⟩ g w d9 a c
    refine z 1 3 ?_
    refine cI c (fun b4 c=>?_) fun b4 c=>?_
    ·refine q 4 rfl (bE c fun e1 b5 c=>bE c fun e2 b6 c=>bE c fun N b8 c=>bE c fun e3 b9 c=>dS [3,4,10,12,13,14,16,18] 8 folM ?_)
     replace a:=a.drew
     refine D1 3047 0 3 rfl (qR 1 rfl (rQ rfl (lb_ y.v O_23 e0 a R5) (qR 2 rfl (rQ rfl (lb_ j.v O_24 e0 a R5) (rQ rfl (lbs_ [iV b.1,iV b.2.1,f.v,h.v,i.v] ST_26 e0 a R1) (qR 3 rfl (Rn QSn (LH wn (rLt (n:=1) (l:=[x]) a SL_23 [iV x] (bp1 e0) rfl rfl (mks1 (cs:=[iV x]) rfl mkI mks0)) fun e4 w a=>dU (D1 0 3043 4 rfl (Rn (qS rfl (sY rfl (lb_ y.v O_23 e0 a R6) (qS rfl (sY rfl (lb_ j.v O_24 e0 a R6) (sY rfl (lbs_ [iV b.1,iV b.2.1,f.v,h.v,i.v] ST_26 e0 a R2) (qS rfl (qS rfl (qS rfl QSn)))))))) ?_))))))))))
     replace a:=a.k1f
     refine LH wn (rAp a SL_23 e0 e0 rO1 b5) fun a5 w a=>dU (D1 32768 3040 10 rfl (qR 1 rfl (Rn (qS rfl (sY rfl (lb_ j.v O_24 e0 a R6) (sY rfl (lbs_ [iV b.1,iV b.2.1,f.v,h.v,i.v] ST_26 e0 a R3) (qS rfl (qS rfl (qS rfl QSn)))))) (kZ (w_be b6 F0 F1 F2 a) fun w a=>dU (D1 0 34912 12 rfl (Rn (qS rfl (sY rfl (lb_ j.v O_24 e0 a R6) (qS rfl (qS rfl QSn)))) (kZ (w_bk b8 (F_3 a6) a) fun w a=>dU (D1 0 32864 13 rfl (Rn (qS rfl (sY rfl (lb_ j.v O_24 e0 a R6) (qS rfl QSn))) ?_)))))))))
     refine LH wn (rLt (n:=1) (l:=[N]) a SL_24 [.int .u64 N] (bp1 e0) rfl rfl (mks1 (cs:=[.int .u64 N]) rfl mkI mks0)) fun e5 w a=>dU (D1 0 32864 14 rfl (Rn (qS rfl (sY rfl (lb_ j.v O_24 e0 a R7) (qS rfl QSn))) ?_))
     replace a:=a.k27
     refine LH wn (rAp a SL_24 e0 e0 rO1 b9) fun c0 w a=>dU (D0 0 32768 16 rfl (Rn (qS rfl QSn) ?_))
     replace a:=a.k2b
     refine LT wn (r_stb1 (vals':=[iV b.1,iV b.2.1,d.v,a5.v,j.v]) a O_23 e0 e0 rfl rfl rfl rfl) fun w a=>D0 131072 0 18 rfl (qR 1 rfl (Rn QSn (LT wn (r_stb1 (vals':=[iV b.1,iV b.2.1,d.v,a5.v,c0.v]) a O_24 e0 e0 rfl rfl rfl rfl) fun w a=>Dw 0 0 (Rn QSn (qx 7 rfl ?_)))))
     cases c
     exact ln (_,_) (a.k2c)
    ·refine q 2 rfl ?_
     cases c
     exact lx (_,_) a
   refine cJ c (fun c1 c=>?_) fun c1 c=>?_
   ·refine z 2 3 ?_;intro e6 e7 c w a e8 e9 c
    exact jx _ ⟨a,c⟩
   ·exact q 1 rfl (jx _ ⟨a,c⟩)
  ·refine q 2 rfl ?_
   cases c
   exact lx (_,_,_) ((a.k2d).fc)
 ·refine z 2 4 ?_;intro w a
  cases c
  exact Z _ _ _ (fin1r results4 (rcs2 rfl rfl a R0 ST_26 rfl) ⟨_,_,_,rfl,(a.k2e)⟩)
instance:CL prog 4 (type_of% @w_bl):=⟨@w_bl⟩
theorem w_bm {b d f:Int} {out:Bool} (c:m_cp b d f=some out) (a:St w0 ros rs w):
  Calls prog 67 #[iV b,iV d,iV f] w (fun e w=>e=.returned (.bool out)∧St w0 ros rs w):=by
 refine en func67 rfl ntmps67 fun Q j=>q 11 rfl ?_
 refine jW 4 [] [(14,.bool ((decide (d≤b)) && (decide (b≤f))))] (St w0 ros rs) rfl (fun i=>?_) ?_
 ·refine gB 10 rfl (fun h=>?_) fun h=>?_
  ·exact q 4 rfl (i _ _ a (hasC (congrArg Value.bool (andT h)) rfl))
  ·exact q 4 rfl (i _ _ a (hasC (congrArg Value.bool (andF h)) rfl))
 intro g w a
 refine q 4 rfl ?_
 cases c
 exact za j results67 ⟨rfl,a⟩
instance:CL prog 67 (type_of% @w_bm):=⟨@w_bm⟩
theorem w_bn {b:Int} {out:Bool} (c:m_cq b=some out) (a:St w0 ros rs w):
  Calls prog 175 #[iV b] w (fun e w=>e=.returned (.bool out)∧St w0 ros rs w):=by
 refine en func175 rfl ntmps175 fun Q d=>q 14 rfl ?_
 cases c
 exact za d results175 ⟨rfl,a⟩
instance:CL prog 175 (type_of% @w_bn):=⟨@w_bn⟩
theorem w_bo {d f:Int} {out:Bool} (c:m_cr d f=some out) (a:St w0 ros rs w):
  Calls prog 152 #[iV d,iV f] w (fun e w=>e=.returned (.bool out)∧St w0 ros rs w):=by
 refine en func152 rfl ntmps152 fun Q l=>?_
 refine z 1 1 ?_;intro n o c w a
 refine bE c fun i b c=>?_
 refine jW 4 [0,1] [(11,.bool i)] (St w0 ros rs) rfl (fun j=>?_) ?_
 ·refine gJ 7 b rfl (fun m b=>?_) fun m b=>?_
  ·refine q 1 rfl (bE b fun p r b=>?_)
   refine z 1 2 ?_;intro w a
   cases b
   exact j _ _ a rfl
  ·refine q 4 rfl ?_
   cases b
   exact j _ _ a rfl
 intro g w a
 refine q 1 rfl ?_
 refine jW 4 [] [(16,.bool (i || (decide (d < f))))] (St w0 ros rs) rfl (fun k=>?_) ?_
 ·refine gB 12 rfl (fun h=>?_) fun h=>?_
  ·exact q 4 rfl (k _ _ a (hasC (congrArg Value.bool (orT h)) rfl))
  ·exact q 4 rfl (k _ _ a (hasC (congrArg Value.bool (orF h)) rfl))
 intro g w a
 refine q 4 rfl ?_
 cases c
 exact za l results152 ⟨rfl,a⟩
instance:CL prog 152 (type_of% @w_bo):=⟨@w_bo⟩
theorem w_bp {d:LI} {f:Hdr} {out:Bool} (c:m_ct d=some out) (m:imm I1 f.v d∈ros) (a:St w0 ros rs w):
  Calls prog 120 #[f.v] w (fun e w=>e=.returned (.bool out)∧St w0 ros rs w):=by
 refine en func120 rfl ntmps120 fun Q h=>?_
 refine z 1 5 ?_
 refine bE c fun i j c=>?_
 refine lp j [0] (fun b=>[(3,iV b)]) (fun b=>St w0 ros rs) (fun | .inl ()=>(.exit 0,[],St w0 ros rs) | .inr ()=>(.ret,[(2,.bool false)],St w0 ros rs)) rfl a rfl ?_ ?_
 ·clear a
  intro g w a
  rcases i with ⟨⟩ | ⟨⟩
  ·refine q 8 rfl ?_
   cases c
   exact za h results120 ⟨rfl,a⟩
  ·refine q 2 rfl ?_
   cases c
   exact za h results120 ⟨rfl,a⟩
 rintro b g w n a c
 refine q 7 rfl (cI c (fun k c=>?_) fun k c=>?_)
 ·refine q 5 rfl (bE c fun o p c=>bE c fun r s c=>bE c fun t u c=>dS [9] 1 folM ?_)
  replace a:=a.drew
  refine z 5 1 ?_;intro w a
  refine cJ c (fun l c=>?_) fun l c=>?_
  ·refine q 8 rfl ?_
   cases c
   exact xo a
  ·refine q 8 rfl ?_
   cases c
   exact lo a
 ·refine q 2 rfl ?_
  cases c
  exact xo a
instance:CL prog 120 (type_of% @w_bp):=⟨@w_bp⟩
theorem w_bq {l f:Int} {N O R:LI} {d h m:Hdr} {out:Bool} (c:m_cw l f N O R=some out) (b:imm I1 d.v N∈ros) (x:imm I1 h.v O∈ros) (b4:imm (rI .u64) m.v R∈ros) (a:St w0 ros rs w):
  Calls prog 68 #[.agg #[iV l,iV f,d.v,h.v,m.v]] w (fun e w=>e=.returned (.bool out)∧St w0 ros rs w):=by
 refine en func68 rfl ntmps68 fun Q F=>?_
 refine z 1 5 ?_;intro y w a
 refine bE c fun s p c=>bE c fun r k c=>bE c fun n i c=>bE c fun t j c=>?_
 refine jN Unit [1] (fun _=>[(47,.bool t)]) (fun _=>St w0 ros (box y 26 [iV l,iV f,d.v,h.v,m.v]::rs)) rfl ?_ ?_
 ·rcases iteS p with ⟨u,p⟩ | ⟨u,p⟩
  ·refine bE p fun c9 o p=>?_
   have B:=someI p
   rcases iteS k with ⟨A,k⟩ | ⟨A,k⟩
   ·have S:=someI k
    have T:r=true:=S.symm
    rw [if_pos T] at i
    have U:=someI i
    have V:n=true:=U.symm
    rw [if_pos V] at j
    have b5:=someI j
    refine dS [17] 1 folM ?_
    replace a:=a.drew
    refine D1 131071 0 17 rfl (qR 1 rfl (rQ rfl (lb_ d.v O_23 e0 a R0) (rQ rfl (yLen SL_23 e0 a (rdI b)) (qR 1 rfl (rQ rfl (lb_ (iV f) O_3 e0 a R0) (qR 3 rfl (rK 14 rfl (nF (dT u)) (qR 1 rfl (rQ rfl (lb_ d.v O_23 e0 a R0) (rQ rfl (yIa SL_23 e0 rfl a (rdI b) o) (rQ rfl (yI O_3 e0 a (rdI b) o) (qR 1 rfl (rQ rfl (pf_ (.bool s) e0 rfl (eqv B e0)) ?_)))))))))))))
    refine qR 1 rfl (rK 21 rfl A (qR 2 rfl (Rn QSn (Lx (wqg_ok.2 rfl) (dU (Dw 2199022993408 0 (qR 1 rfl (rQ rfl (pt_ (.bool r) e0 rfl (eqv S rfl)) (qR 1 rfl (rK 27 rfl T (qR 10 rfl (rQ rfl (pt_ (.bool n) e0 rfl (eqv U rfl)) (qR 1 rfl ?_)))))))))))))
    exact rK 39 rfl V (qR 7 rfl (rQ rfl (pt_ (.bool t) e0 rfl (eqv b5 rfl)) (Rn QSn (jr () a))))
   ·refine bE k fun d0 G k=>?_
    have H:=someI k
    rcases iteS i with ⟨C,i⟩ | ⟨C,i⟩
    ·have W:=someI i
     have X:n=true:=W.symm
     rw [if_pos X] at j
     have b6:=someI j
     refine dS [17] 1 folM ?_
     replace a:=a.drew
     refine D1 131071 0 17 rfl (qR 1 rfl (rQ rfl (lb_ d.v O_23 e0 a R0) (rQ rfl (yLen SL_23 e0 a (rdI b)) (qR 1 rfl (rQ rfl (lb_ (iV f) O_3 e0 a R0) (qR 3 rfl (rK 14 rfl (nF (dT u)) (qR 1 rfl (rQ rfl (lb_ d.v O_23 e0 a R0) (rQ rfl (yIa SL_23 e0 rfl a (rdI b) o) (rQ rfl (yI O_3 e0 a (rdI b) o) (qR 1 rfl (rQ rfl (pf_ (.bool s) e0 rfl (eqv B e0)) ?_)))))))))))))
     refine qR 1 rfl (rK 21 rfl (bfalse A) (qR 1 rfl (rQ rfl (lb_ d.v O_23 e0 a R0) (Rn QSn (kZ (w_bp G b a) fun w a=>dU (Dw 2199022993408 0 (qR 1 rfl (rQ rfl (pf_ (.bool r) e0 rfl (eqv H e0)) (qR 1 rfl (rK 27 rfl C (qR 10 rfl (rQ rfl (pt_ (.bool n) e0 rfl (eqv W rfl)) ?_))))))))))))
     exact qR 1 rfl (rK 39 rfl X (qR 7 rfl (rQ rfl (pt_ (.bool t) e0 rfl (eqv b6 rfl)) (Rn QSn (jr () a)))))
    ·refine bE i fun d1 D i=>?_
     have Z:=someI i
     rcases iteS j with ⟨I,j⟩ | ⟨I,j⟩
     ·have b7:=someI j
      refine dS [17] 1 folM ?_
      replace a:=a.drew
      refine D1 131071 0 17 rfl (qR 1 rfl (rQ rfl (lb_ d.v O_23 e0 a R0) (rQ rfl (yLen SL_23 e0 a (rdI b)) (qR 1 rfl (rQ rfl (lb_ (iV f) O_3 e0 a R0) (qR 3 rfl (rK 14 rfl (nF (dT u)) (qR 1 rfl (rQ rfl (lb_ d.v O_23 e0 a R0) (rQ rfl (yIa SL_23 e0 rfl a (rdI b) o) (rQ rfl (yI O_3 e0 a (rdI b) o) (qR 1 rfl (rQ rfl (pf_ (.bool s) e0 rfl (eqv B e0)) ?_)))))))))))))
      refine qR 1 rfl (rK 21 rfl (bfalse A) (qR 1 rfl (rQ rfl (lb_ d.v O_23 e0 a R0) (Rn QSn (kZ (w_bp G b a) fun w a=>dU (Dw 2199022993408 0 (qR 1 rfl (rQ rfl (pf_ (.bool r) e0 rfl (eqv H e0)) (qR 1 rfl (rK 27 rfl (bfalse C) (qR 1 rfl (rQ rfl (lb_ d.v O_23 e0 a R0) ?_))))))))))))
      exact qR 1 rfl (rQ rfl (lb_ (iV f) O_3 e0 a R0) (rQ rfl (yIa SL_23 e0 e0 a (rdI b) D) (rQ rfl (yI O_3 e0 a (rdI b) D) (qR 1 rfl (rQ rfl (lb_ h.v O_23 e0 a R0) (rQ rfl (yLen SL_23 e0 a (rdI x)) (qR 1 rfl (rQ rfl (pf_ (.bool n) e0 rfl (eqv Z e0)) (qR 1 rfl (rK 39 rfl I (qR 7 rfl (rQ rfl (pt_ (.bool t) e0 rfl (eqv b7 rfl)) (Rn QSn (jr () a))))))))))))))
     ·have b8:=someI j
      refine dS [17] 1 folM ?_
      replace a:=a.drew
      refine D1 131071 0 17 rfl (qR 1 rfl (rQ rfl (lb_ d.v O_23 e0 a R0) (rQ rfl (yLen SL_23 e0 a (rdI b)) (qR 1 rfl (rQ rfl (lb_ (iV f) O_3 e0 a R0) (qR 3 rfl (rK 14 rfl (nF (dT u)) (qR 1 rfl (rQ rfl (lb_ d.v O_23 e0 a R0) (rQ rfl (yIa SL_23 e0 rfl a (rdI b) o) (rQ rfl (yI O_3 e0 a (rdI b) o) (qR 1 rfl (rQ rfl (pf_ (.bool s) e0 rfl (eqv B e0)) ?_)))))))))))))
      refine qR 1 rfl (rK 21 rfl (bfalse A) (qR 1 rfl (rQ rfl (lb_ d.v O_23 e0 a R0) (Rn QSn (kZ (w_bp G b a) fun w a=>dU (Dw 2199022993408 0 (qR 1 rfl (rQ rfl (pf_ (.bool r) e0 rfl (eqv H e0)) (qR 1 rfl (rK 27 rfl (bfalse C) (qR 1 rfl (rQ rfl (lb_ d.v O_23 e0 a R0) ?_))))))))))))
      refine qR 1 rfl (rQ rfl (lb_ (iV f) O_3 e0 a R0) (rQ rfl (yIa SL_23 e0 e0 a (rdI b) D) (rQ rfl (yI O_3 e0 a (rdI b) D) (qR 1 rfl (rQ rfl (lb_ h.v O_23 e0 a R0) (rQ rfl (yLen SL_23 e0 a (rdI x)) (qR 1 rfl (rQ rfl (pf_ (.bool n) e0 rfl (eqv Z e0)) (qR 1 rfl (rK 39 rfl (bfalse I) (qR 1 rfl (rQ rfl (lb_ h.v O_23 e0 a R0) (rQ rfl (yLen SL_23 e0 a (rdI x)) ?_)))))))))))))
      exact qR 1 rfl (rQ rfl (lb_ m.v O_24 e0 a R0) (rQ rfl (yLen SL_24 e0 a (rdI b4)) (qR 1 rfl (rQ rfl (pf_ (.bool t) e0 rfl (eqv b8 e0)) (Rn QSn (jr () a))))))
  ·have a0:=someI p
   have a1:s=true:=a0.symm
   rw [if_pos a1] at k
   have a2:=someI k
   have a3:r=true:=a2.symm
   rw [if_pos a3] at i
   have a4:=someI i
   have a5:n=true:=a4.symm
   rw [if_pos a5] at j
   have c0:=someI j
   refine dS [17] 1 folM ?_
   replace a:=a.drew
   refine D1 131071 0 17 rfl (qR 1 rfl (rQ rfl (lb_ d.v O_23 e0 a R0) (rQ rfl (yLen SL_23 e0 a (rdI b)) (qR 1 rfl (rQ rfl (lb_ (iV f) O_3 e0 a R0) (qR 3 rfl (rK 14 rfl (nT (dF u)) (qR 5 rfl (rQ rfl (pt_ (.bool s) e0 rfl (eqv a0 rfl)) (qR 1 rfl (rK 21 rfl a1 (qR 2 rfl (Rn QSn ?_)))))))))))))
   exact Lx (wqg_ok.2 rfl) (dU (Dw 2199022993408 0 (qR 1 rfl (rQ rfl (pt_ (.bool r) e0 rfl (eqv a2 rfl)) (qR 1 rfl (rK 27 rfl a3 (qR 10 rfl (rQ rfl (pt_ (.bool n) e0 rfl (eqv a4 rfl)) (qR 1 rfl (rK 39 rfl a5 (qR 7 rfl (rQ rfl (pt_ (.bool t) e0 rfl (eqv c0 rfl)) (Rn QSn (jr () a))))))))))))))
 rintro _ g w a
 refine q 1 rfl ?_
 refine cJ c (fun c1 c=>?_) fun c1 c=>?_
 ·refine q 7 rfl ?_
  cases c
  exact za F results68 ⟨rfl,(a.k13)⟩
 ·refine z 1 4 ?_
  refine bE c fun c2 c3 c=>?_
  refine lp c3 [1,49] (fun J=>[(50,iV J)]) (fun J=>St w0 ros (box y 26 [iV l,iV f,d.v,h.v,m.v]::rs)) (fun | .inl ()=>(.exit 0,[],St w0 ros rs) | .inr ()=>(.ret,[(2,.bool false)],St w0 ros rs)) rfl a rfl ?_ ?_
  ·clear a
   intro g w a
   rcases c2 with ⟨⟩ | ⟨⟩
   ·refine q 8 rfl ?_
    cases c
    exact za F results68 ⟨rfl,a⟩
   ·refine q 2 rfl ?_
    cases c
    exact za F results68 ⟨rfl,a⟩
  rintro J g w d2 a c
  refine q 6 rfl (cI c (fun c4 c=>?_) fun c4 c=>?_)
  ·refine q 16 rfl (bE c fun a6 a7 c=>bE c fun a8 a9 c=>bE c fun b0 b1 c=>dS [] 0 folM ?_)
   replace a:=a.drew
   refine Dw 65535 0 (qR 1 rfl (rQ rfl (lb_ h.v O_23 e0 a R0) (qR 1 rfl (rQ rfl (lb_ d.v O_23 e0 a R0) (qR 1 rfl (rQ rfl (yIa SL_23 e0 e0 a (rdI b) a7) (rQ rfl (yI O_3 e0 a (rdI b) a7) (qR 1 rfl (rQ rfl (lb_ d.v O_23 e0 a R0) (qR 2 rfl (rQ rfl (yIa SL_23 e0 e0 a (rdI b) a9) (rQ rfl (yI O_3 e0 a (rdI b) a9) (rQ rfl (ySl SL_23 e0 a (rdI x) (.inl (congrArg some e0)) (.inl (congrArg some e0)) b1) ?_)))))))))))))
   replace a:=a.sub x b1
   refine rQ rfl (yLen SL_23 e0 a (rdI F0)) (qR 1 rfl (Rn QSn (bE c fun c5 c6 c=>qx 2 rfl ?_)))
   refine lp c6 [1,49,50,66,67] (fun (E,K)=>[(4,iV E),(68,iV K)]) (fun (E,K)=>St w0 (imm I1 (subH h 1 a6 a8).v b0::ros) (box y 26 [iV l,iV f,d.v,h.v,m.v]::rs)) (fun | .inl ()=>(.exit 2,[],St w0 ros (box y 26 [iV l,iV f,d.v,h.v,m.v]::rs)) | .inr ()=>(.ret,[(2,.bool false)],St w0 ros rs)) rfl a rfl ?_ ?_
   ·clear a
    intro g w a
    rcases c5 with ⟨⟩ | ⟨⟩
    ·refine q 7 rfl ?_
     cases c
     exact lo a
    ·refine q 3 rfl ?_
     cases c
     exact xo a
   rintro ⟨E,K⟩ g w d3 a c
   refine q 6 rfl (cI c (fun c7 c=>?_) fun c7 c=>?_)
   ·refine z 2 10 ?_;intro b2 d4 c
    refine jW 5 [1,6,49,50,66,67,68] [(80,.bool ((decide (b2≤E)) || (decide (l≤b2))))] (St w0 (imm I1 (subH h 1 a6 a8).v b0::ros) (box y 26 [iV l,iV f,d.v,h.v,m.v]::rs)) rfl (fun b3=>?_) ?_
    ·refine gB 75 rfl (fun L=>?_) fun L=>?_
     ·exact q 5 rfl (b3 _ _ a (hasC (congrArg Value.bool (orT L)) rfl))
     ·refine z 1 2 ?_
      exact b3 _ _ a (hasC (congrArg Value.bool (orF L)) rfl)
    intro g w a
    refine q 2 rfl ?_
    refine cJ c (fun c8 c=>?_) fun c8 c=>?_
    ·refine q 9 rfl ?_
     cases c
     exact xo ((a.k13).fc)
    ·refine q 12 rfl ?_
     cases c
     exact lo a
   ·refine q 2 rfl ?_
    cases c
    exact xo (a.fc)
  ·refine q 2 rfl ?_
   cases c
   exact xo (a.k13)
instance:CL prog 68 (type_of% @w_bq):=⟨@w_bq⟩
theorem w_br {b:Int} {out:Int×Int} (c:m_cx b=some out) (a:St w0 ros rs w):
  Calls prog 72 #[.int .u64 b] w (fun e w=>e=.returned (.tuple #[iV out.1,.int .u64 out.2])∧St w0 ros rs w):=by
 refine en func72 rfl ntmps72 fun Q d=>q 19 rfl ?_
 cases c
 exact zb d results72 ⟨rfl,a⟩
instance:CL prog 72 (type_of% @w_br):=⟨@w_br⟩
theorem w_bs {b:Int} {out:Bool} (c:m_cy b=some out) (a:St w0 ros rs w):
  Calls prog 71 #[.int .u64 b] w (fun e w=>e=.returned (.bool out)∧St w0 ros rs w):=by
 refine en func71 rfl ntmps71 fun Q d=>?_
 refine z 1 15 ?_;intro f g c w a
 cases c
 exact za d results71 ⟨rfl,a⟩
instance:CL prog 71 (type_of% @w_bs):=⟨@w_bs⟩
theorem w_bt {b:Int} {out:Bool} (c:m_cz b=some out) (a:St w0 ros rs w):
  Calls prog 70 #[.int .u64 b] w (fun e w=>e=.returned (.bool out)∧St w0 ros rs w):=by
 refine en func70 rfl ntmps70 fun Q d=>?_
 refine z 1 5 ?_;intro f g c w a
 cases c
 exact za d results70 ⟨rfl,a⟩
instance:CL prog 70 (type_of% @w_bt):=⟨@w_bt⟩
end Go.Proofs.YtcoaljcfifecgabGreatDoor
