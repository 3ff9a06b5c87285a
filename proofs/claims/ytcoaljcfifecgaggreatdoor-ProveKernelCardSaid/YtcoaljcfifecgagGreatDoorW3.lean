/- Walks: each function computes its model, printed. -/
import Derived.Test.YtcoaljcfifecgagGreatDoorW2
namespace Go.Proofs.YtcoaljcfifecgagGreatDoor
open Go Sx M Go.Proofs.Tryz
set_option maxRecDepth 100000
set_option maxHeartbeats 40000000
set_option linter.unusedVariables false
attribute [local irreducible] wpList Code.wp Calls DR QR QS LA LS St
variable {w0:World} {ros:List Fact} {rs:List Res} {w:World}
theorem sparseref03_nan_ok {c:Int} {out:Bool} (a:sparseref03_nan c=some out) (b:St w0 ros rs w):
  Calls prog 34 #[.int .u64 c] w (fun e w=>e=.returned (.bool out)∧St w0 ros rs w):=by
 refine en func34 rfl ntmps34 fun Q d=>bE a fun g f a=>q 8 rfl (cZ (sparseref03_Kind_ok f b) fun w b=>q 5 rfl ?_)
 cases a
 exact za d results34 ⟨rfl,b⟩
theorem sparseref03_Minus_ok {a:Int} {out:Bool} (b:sparseref03_Minus a=some out) (c:St w0 ros rs w):
  Calls prog 51 #[.int .u64 a] w (fun e w=>e=.returned (.bool out)∧St w0 ros rs w):=by
 refine en func51 rfl ntmps51 fun Q d=>q 14 rfl ?_
 cases b
 exact za d results51 ⟨rfl,c⟩
theorem sparseref03_Of_ok {f:Int} {out:Bool×Bool×LI×Int} (b:sparseref03_Of f=some out) (m:globF∈ros) (a:St w0 ros rs w):
  Calls prog 19 #[.int .u64 f] w (fun e w=>∃ (h:Hdr),e=.returned (.agg #[.bool out.1,.bool out.2.1,h.v,iV out.2.2.2])∧St w0 (imm (rI .u32) h.v out.2.2.1::ros) rs w):=by
 refine en func19 rfl ntmps19 fun Q i=>q 2 rfl (yb (rAl a ZT_53) fun o w a=>bE b fun z p b=>q 6 rfl (cZ (sparseref03_IsFinite_ok p a) fun w a=>q 3 rfl ?_))
 refine cJn b (fun r b=>?_) fun r b=>?_
 ·refine q 26 rfl ?_
  refine jC (Int×Int) [0,2] (fun (c,d)=>[(4,.int .u64 c),(5,iV d)]) (fun (c,d) w=>St w0 ros (box o 53 [.bool false,.bool false,hnil.v,iV 0]::rs) w∧sparseref03_Of_j1 f c d=some out) rfl ?_ ?_
  ·rintro ⟨c,d⟩ g w ⟨a,b⟩
   refine bE b fun j s b=>q 4 rfl (cZ (sparseref03_Minus_ok s a) fun w a=>q 5 rfl (yh (rLt (n:=2) (l:=[wc .u32 c,wc .u32 (wsrc .u64 c 32)]) a SL_38 [.int .u32 (wc .u32 c),.int .u32 (wc .u32 (wsrc .u64 c 32))] (bp2 e0 e0) rfl rfl (mks1 (cs:=[.int .u32 (wc .u32 c)]) rfl mkI (mks1 (cs:=[.int .u32 (wc .u32 (wsrc .u64 c 32))]) rfl mkI mks0))) fun k w a=>y (ybuild (us:=[.bool j,k.v]) [(0,.bool j),(1,k.v)] SO_40 (bp2 e0 e0) rfl) (bE b fun A t b=>q 1 rfl ?_)))
   replace a:=a.fz
   refine cO (sparseref02_Make_ok t F0 (mtF m) a) fun B w a=>sB rfl a ST_53 fun w a=>q 3 rfl ?_
   cases b
   exact i _ _ _ (fin1r results19 (rcs2 rfl rfl a R0 ST_53 rfl) ⟨_,rfl,((a.k14).facts (allC F0 (allT (allT allI))))⟩)
  refine cI b (fun u b=>?_) fun u b=>?_
  ·exact q 12 rfl (jx (_,_) ⟨a,b⟩)
  ·exact q 1 rfl (jx (_,_) ⟨a,b⟩)
 ·refine q 2 rfl (bE b fun C x b=>cZ (sparseref02_Bad_ok x a) fun w a=>sB rfl a ST_53 fun w a=>q 4 rfl ?_)
  cases b
  replace a:=a.immNh (rI .u32)
  exact i _ _ _ (fin1r results19 (rcs2 rfl rfl a R0 ST_53 rfl) ⟨_,rfl,(a.k14)⟩)
theorem sparseref02_Scale_ok {h i:Bool} {o:LI} {j k:Int} {l:Hdr} {out:Bool×Bool×LI×Int} (b:sparseref02_Scale h i o j k=some out) (z:imm (rI .u32) l.v o∈ros) (p:globF∈ros) (a:St w0 ros rs w):
  Calls prog 37 #[.agg #[.bool h,.bool i,l.v,iV j],iV k] w (fun e w=>∃ (r:Hdr),e=.returned (.agg #[.bool out.1,.bool out.2.1,r.v,iV out.2.2.2])∧St w0 (imm (rI .u32) r.v out.2.2.1::ros) rs w):=by
 refine en func37 rfl ntmps37 fun Q m=>q 2 rfl (yb (r_box (vals:=[.bool h,.bool i,l.v,iV j]) a e0 rfl) fun s w a=>yb (rAl a ZT_53) fun t w a=>q 4 rfl (y (lbs_ [.bool h,.bool i,l.v,iV j] ST_53 e0 a R1) (bE b fun c A b=>cO (sparseref02_Norm_ok A z p a) fun d w a=>?_)))
 replace a:=a.k10
 refine sB rfl a ST_53 fun w a=>q 6 rfl (y (lb_ (.bool c.1) O_4 e0 a R0) (bE b fun B f b=>q 1 rfl ?_))
 refine jW 5 [1,2,4] [(14,.bool B)] (St w0 (imm (rI .u32) d.v c.2.2.1::ros) (box s 53 [.bool c.1,.bool c.2.1,d.v,iV c.2.2.2]::box t 53 [.bool false,.bool false,hnil.v,iV 0]::rs)) rfl (fun u=>?_) ?_
 ·refine gJ 9 f rfl (fun C f=>?_) fun C f=>?_
  ·refine q 5 rfl ?_
   cases f
   exact u _ _ a rfl
  ·refine q 1 rfl (y (lbs_ [.bool c.2.1,d.v] ST_40 e0 a R0) (bE f fun I D f=>cZ (sparseref01_Sign_ok D F0 a) fun w a=>q 2 rfl ?_))
   cases f
   exact u _ _ a rfl
 intro g w a
 refine q 2 rfl ?_
 refine cJ b (fun E b=>?_) fun E b=>?_
 ·refine q 2 rfl (y (lbs_ [.bool c.1,.bool c.2.1,d.v,iV c.2.2.2] ST_53 e0 a R0) ?_)
  replace a:=a.k10
  refine sB rfl a ST_53 fun w a=>q 4 rfl ?_
  cases b
  exact m _ _ _ (fin1r results37 (rcs2 rfl rfl a R0 ST_53 rfl) ⟨_,rfl,(a.k19)⟩)
 ·refine q 8 rfl ?_
  refine jW 3 [1,2,4] [(21,.bool ((decide ((262144:Int) < k)) || (decide (k < (-262144)))))] (St w0 (imm (rI .u32) d.v c.2.2.1::ros) (box s 53 [.bool c.1,.bool c.2.1,d.v,iV c.2.2.2]::box t 53 [.bool false,.bool false,hnil.v,iV 0]::rs)) rfl (fun x=>?_) ?_
  ·refine gB 18 rfl (fun n=>?_) fun n=>?_
   ·exact q 3 rfl (x _ _ a (hasC (congrArg Value.bool (orT n)) rfl))
   ·exact q 3 rfl (x _ _ a (hasC (congrArg Value.bool (orF n)) rfl))
  intro g w a
  refine q 2 rfl ?_
  refine cJ b (fun F b=>?_) fun F b=>?_
  ·refine q 2 rfl (bE b fun J G b=>cZ (sparseref02_Bad_ok G a) fun w a=>?_)
   replace a:=a.k10
   refine sB rfl a ST_53 fun w a=>q 4 rfl ?_
   cases b
   replace a:=a.immNh (rI .u32)
   exact m _ _ _ (fin1r results37 (rcs2 rfl rfl a R0 ST_53 rfl) ⟨_,rfl,((a.k19).facts (allC F0 (allT (allT allI))))⟩)
  ·refine q 5 rfl (y (lbs_ [.bool c.2.1,d.v] ST_40 e0 a R0) (q 1 rfl (y (lb_ (iV c.2.2.2) O_3 e0 a R0) (bE b fun K H b=>q 2 rfl (cO (sparseref02_Make_ok H F0 (mtF p) a) fun L w a=>?_)))))
   replace a:=a.k10
   refine sB rfl a ST_53 fun w a=>q 3 rfl ?_
   cases b
   exact m _ _ _ (fin1r results37 (rcs2 rfl rfl a R0 ST_53 rfl) ⟨_,rfl,((a.k19).facts (allC F0 (allT (allT allI))))⟩)
theorem sparseref03_Scale_ok {f g h out:Int} (a:sparseref03_Scale f g h=some out) (c:globF∈ros) (b:St w0 ros rs w):
  Calls prog 14 #[.int .u64 f,iV g,iV h] w (fun e w=>e=.returned (.int .u64 out)∧St w0 ros rs w):=by
 refine en func14 rfl ntmps14 fun Q d=>bE a fun p i a=>q 9 rfl (cZ (sparseref03_nan_ok i b) fun w b=>q 2 rfl ?_)
 refine cJ a (fun j a=>?_) fun j a=>?_
 ·refine q 7 rfl ?_
  cases a
  exact za d results14 ⟨rfl,b⟩
 ·refine q 6 rfl (bE a fun r k a=>cZ (sparseref03_Kind_ok k b) fun w b=>q 3 rfl ?_)
  refine cIn a (fun l a=>?_) fun l a=>?_
  ·refine q 13 rfl (bE a fun s m a=>cO (sparseref03_Of_ok m c b) fun t w b=>bE a fun u n a=>q 1 rfl (cO (sparseref02_Scale_ok n F0 (mtF c) b) fun v w b=>bE a fun x o a=>q 1 rfl (cZ (sparseref03_Round_ok o F0 (F_2 c) b) fun w b=>q 4 rfl ?_)))
   cases a
   exact za d results14 ⟨rfl,(b.fc)⟩
  ·refine q 8 rfl ?_
   cases a
   exact za d results14 ⟨rfl,b⟩
theorem sparselaw42_pick_ok {N:LI} {T U V:Int} {W:Bool} {X:Hdr} {out:Int×Int×LI×LI×LI} (c:sparselaw42_pick N T U V W=some out) (F:imm (rI .u64) X.v N∈ros) (Z:globF∈ros) (a:St w0 ros rs w):
  Calls prog 4 #[X.v,iV T,iV U,iV V,.bool W] w (fun e w=>∃ (a0 a1 a2:Hdr),e=.returned (.agg #[iV out.1,iV out.2.1,a0.v,a1.v,a2.v])∧St w0 ros (row 3 I1 a0.v out.2.2.1::row 3 I1 a1.v out.2.2.2.1::row 47 (rI .u64) a2.v out.2.2.2.2::rs) w):=by
 refine en func4 rfl ntmps4 fun Q a3=>q 2 rfl (yb (rAl a ZT_26) fun t w a=>bE c fun d6 b1 c=>q 5 rfl (cZ (sparsegen_Mod_ok b1 a) fun w a=>bE c fun d7 b2 c=>q 7 rfl (cZ (sparsegen_Mod_ok b2 a) fun w a=>bE c fun d8 b3 c=>q 1 rfl (cZ (sparsegen_Mod_ok b3 a) fun w a=>bE c fun b b4 c=>?_))))
 refine q 1 rfl (cR_ (sparsegen_General_ok b4 F Z a) fun h i j w a=>yb (rAl a ZT_26) fun C w a=>sB rfl a ST_26 fun w a=>q 9 rfl ?_)
 refine cJn c (fun b5 c=>?_) fun b5 c=>?_
 ·refine q 5 rfl (y (lb_ (iV b.1) O_3 e0 a R0) (q 1 rfl (y (lb_ (iV b.2.1) O_3 e0 a R0) (yh (rLt (n:=1) (l:=[0]) a SL_23 [iV 0] (bp1 rfl) rfl rfl (mks1 (cs:=[iV 0]) rfl mkI mks0)) fun a4 w a=>y (ybuild (us:=[iV b.1,iV b.2.1,a4.v,hnil.v,hnil.v]) [(0,iV b.1),(1,iV b.2.1),(2,a4.v)] SO_26 (bp3 e0 e0 e0) rfl) (yb (rAl a ZT_26) fun u w a=>sB rfl a ST_26 fun w a=>q 9 rfl ?_)))))
  obtain ⟨⟨a5,a6,a7⟩,b6,c⟩:=bs c
  replace a:=(((((((a.k1d).fz).k1d).fz).k1d).fz).rowNh 3 I1).rowNh 47 (rI .u64)
  refine lpN (Hdr×Hdr×Hdr) (Hdr×Hdr×Hdr) b6 [0,10,11,12] (fun (o,x,z,G) (d,p,r)=>[(13,iV G)]) (fun (o,x,z,G) (d,p,r)=>St w0 (imm I1 h.v b.2.2.1::imm I1 i.v b.2.2.2.1::imm (rI .u64) j.v b.2.2.2.2::ros) (box t 26 [iV 0,iV 0,hnil.v,hnil.v,hnil.v]::box C 26 [iV b.1,iV b.2.1,h.v,i.v,j.v]::row 3 I1 d.v o::row 3 I1 p.v x::row 47 (rI .u64) r.v z::box u 26 [iV b.1,iV b.2.1,d.v,p.v,r.v]::rs)) (fun | (a5,a6,a7),(H,I,J)=>(.exit 0,[],St w0 ros (box t 26 [iV 0,iV 0,hnil.v,hnil.v,hnil.v]::row 3 I1 H.v a5::row 3 I1 I.v a6::row 47 (rI .u64) J.v a7::box u 26 [iV b.1,iV b.2.1,H.v,I.v,J.v]::rs))) rfl (_,_,_) ((a.k28).facts (allC F2 (allC F1 (allC F0 (allT (allT (allT allI))))))) rfl ?_ ?_
  ·clear a
   rintro ⟨H,I,J⟩ g w a
   refine q 4 rfl (y (lbs_ [iV b.1,iV b.2.1,H.v,I.v,J.v] ST_26 e0 a R4) (sB rfl a ST_26 fun w a=>q 3 rfl ?_))
   cases c
   exact a3 _ _ _ (fin1r results4 (rcs2 rfl rfl a R0 ST_26 rfl) ⟨_,_,_,rfl,(a.k24)⟩)
  rintro ⟨o,x,z,G⟩ ⟨d,p,r⟩ g w b8 a f
  refine q 5 rfl (y (lb_ (iV b.2.1) O_3 e0 a R1) (q 3 rfl (cI f (fun b9 f=>?_) fun b9 f=>?_)))
  ·refine q 16 rfl (bE f fun c0 s f=>?_)
   refine jW 7 [0,10,11,12,13,14] [(51,.bool c0)] (St w0 (imm I1 h.v b.2.2.1::imm I1 i.v b.2.2.2.1::imm (rI .u64) j.v b.2.2.2.2::ros) (box t 26 [iV 0,iV 0,hnil.v,hnil.v,hnil.v]::box C 26 [iV b.1,iV b.2.1,h.v,i.v,j.v]::row 3 I1 d.v o::row 3 I1 p.v x::row 47 (rI .u64) r.v z::box u 26 [iV b.1,iV b.2.1,d.v,p.v,r.v]::rs)) rfl (fun a8=>?_) ?_
   ·refine gI 44 s rfl (fun c1 s=>?_) fun c1 s=>?_
    ·refine q 3 rfl (bE s fun d9 c2 s=>cZ (sparsegen_Word_ok c2 (F_3 F) a) fun w a=>q 3 rfl ?_)
     cases s
     exact a8 _ _ a rfl
    ·refine q 7 rfl ?_
     cases s
     exact a8 _ _ a rfl
   intro g w a
   refine q 2 rfl ?_
   refine jC Int [0,10,11,12,13] (fun K=>[(14,iV K)]) (fun K w=>St w0 (imm I1 h.v b.2.2.1::imm I1 i.v b.2.2.2.1::imm (rI .u64) j.v b.2.2.2.2::ros) (box t 26 [iV 0,iV 0,hnil.v,hnil.v,hnil.v]::box C 26 [iV b.1,iV b.2.1,h.v,i.v,j.v]::row 3 I1 d.v o::row 3 I1 p.v x::row 47 (rI .u64) r.v z::box u 26 [iV b.1,iV b.2.1,d.v,p.v,r.v]::rs) w∧sparselaw42_pick_j9 N G b x z o K=some b8) rfl ?_ ?_
   ·rintro K g w ⟨a,c⟩
    refine bE c fun e1 c3 c=>q 6 rfl (cZ (sparsegen_Word_ok c3 (F_3 F) a) fun w a=>q 13 rfl ?_)
    obtain ⟨⟨D,a9⟩,c4,c⟩:=bs c
    refine lpN (Hdr×Hdr) (Hdr×Hdr) c4 [0,10,11,12,13,14,15] (fun (O,R,A) (B,m)=>[(16,iV A)]) (fun (O,R,A) (B,m)=>St w0 (imm I1 h.v b.2.2.1::imm I1 i.v b.2.2.2.1::imm (rI .u64) j.v b.2.2.2.2::ros) (box t 26 [iV 0,iV 0,hnil.v,hnil.v,hnil.v]::box C 26 [iV b.1,iV b.2.1,h.v,i.v,j.v]::row 3 I1 d.v o::row 3 I1 B.v O::row 47 (rI .u64) m.v R::box u 26 [iV b.1,iV b.2.1,d.v,B.v,m.v]::rs)) (fun | (D,a9),(E,L)=>(.exit 2,[],St w0 (imm I1 h.v b.2.2.1::imm I1 i.v b.2.2.2.1::imm (rI .u64) j.v b.2.2.2.2::ros) (box t 26 [iV 0,iV 0,hnil.v,hnil.v,hnil.v]::box C 26 [iV b.1,iV b.2.1,h.v,i.v,j.v]::row 3 I1 d.v o::row 3 I1 E.v D::row 47 (rI .u64) L.v a9::box u 26 [iV b.1,iV b.2.1,d.v,E.v,L.v]::rs))) rfl (_,_) a rfl ?_ ?_
    ·clear a
     rintro ⟨E,L⟩ g w a
     refine q 4 rfl (y (lb_ d.v O_23 e0 a R5) (q 1 rfl (y (lb_ E.v O_23 e0 a R5) (y (yLen SL_23 e0 a rO3) (yh (rLt (n:=1) (l:=[(D.length:Int)]) a SL_23 [iV (D.length:Int)] (bp1 e0) rfl rfl (mks1 (cs:=[iV (D.length:Int)]) rfl mkI mks0)) fun e2 w a=>bE c fun e3 c5 c=>?_)))))
     replace a:=a.k1d
     refine yh (rAp a SL_23 e0 e0 rO1 c5) fun c6 w a=>q 1 rfl ?_
     replace a:=a.k1t
     refine yt (r_stb1 (vals':=[iV b.1,iV b.2.1,c6.v,E.v,L.v]) a O_23 e0 e0 rfl rfl rfl rfl) fun w a=>q 8 rfl ?_
     cases c
     exact ln (_,_,_) (a.k29)
    rintro ⟨O,R,A⟩ ⟨B,m⟩ g w e4 a k
    refine q 5 rfl (y (lb_ (iV b.1) O_3 e0 a R1) (q 3 rfl (cI k (fun c7 k=>?_) fun c7 k=>?_)))
    ·refine q 4 rfl (bE k fun e5 c8 k=>bE k fun e6 c9 k=>bE k fun S d0 k=>bE k fun e7 d1 k=>dR [0,1,0,4,15,0,32,0,0,0,927,0,3999,8095,16383,127,65535,131071,262143] [3,4,10,12,13,14,16,18] 8 folM ?_)
     replace a:=a.drew
     refine D1 [0,1,2,5,6,7,8,9,11] [] 3 rfl (qR 1 rfl (rQ rfl (lb_ B.v O_23 e0 a R5) (qR 2 rfl (rQ rfl (lb_ m.v O_24 e0 a R5) (rQ rfl (lbs_ [iV b.1,iV b.2.1,h.v,i.v,j.v] ST_26 e0 a R1) (qR 3 rfl (Rn QSn (LH wn (rLt (n:=1) (l:=[A]) a SL_23 [iV A] (bp1 e0) rfl rfl (mks1 (cs:=[iV A]) rfl mkI mks0)) fun e8 w a=>dU (D1 [] [0,1,5,6,7,8,9,11] 4 rfl (Rn (qS rfl (sY rfl (lb_ B.v O_23 e0 a R6) (qS rfl (sY rfl (lb_ m.v O_24 e0 a R6) (sY rfl (lbs_ [iV b.1,iV b.2.1,h.v,i.v,j.v] ST_26 e0 a R2) (qS rfl (qS rfl (qS rfl QSn)))))))) ?_))))))))))
     replace a:=a.k1e
     refine LH wn (rAp a SL_23 e0 e0 rO1 c8) fun b0 w a=>dU (D1 [15] [5,6,7,8,9,11] 10 rfl (qR 1 rfl (Rn (qS rfl (sY rfl (lb_ m.v O_24 e0 a R6) (sY rfl (lbs_ [iV b.1,iV b.2.1,h.v,i.v,j.v] ST_26 e0 a R3) (qS rfl (qS rfl (qS rfl QSn)))))) (kZ (sparseref09_At_ok c9 F0 F1 F2 a) fun w a=>dU (D1 [] [5,6,11,15] 12 rfl (Rn (qS rfl (sY rfl (lb_ m.v O_24 e0 a R6) (qS rfl (qS rfl QSn)))) (kZ (sparseref03_Scale_ok d0 (F_3 Z) a) fun w a=>dU (D1 [] [5,6,15] 13 rfl (Rn (qS rfl (sY rfl (lb_ m.v O_24 e0 a R6) (qS rfl QSn))) ?_)))))))))
     refine LH wn (rLt (n:=1) (l:=[S]) a SL_24 [.int .u64 S] (bp1 e0) rfl rfl (mks1 (cs:=[.int .u64 S]) rfl mkI mks0)) fun e9 w a=>dU (D1 [] [5,6,15] 14 rfl (Rn (qS rfl (sY rfl (lb_ m.v O_24 e0 a R7) (qS rfl QSn))) ?_))
     replace a:=a.k1t
     refine LH wn (rAp a SL_24 e0 e0 rO1 d1) fun d2 w a=>dU (D0 [] [15] 16 rfl (Rn (qS rfl QSn) ?_))
     replace a:=a.k2a
     refine LT wn (r_stb1 (vals':=[iV b.1,iV b.2.1,d.v,b0.v,m.v]) a O_23 e0 e0 rfl rfl rfl rfl) fun w a=>D0 [17] [] 18 rfl (qR 1 rfl (Rn QSn (LT wn (r_stb1 (vals':=[iV b.1,iV b.2.1,d.v,b0.v,d2.v]) a O_24 e0 e0 rfl rfl rfl rfl) fun w a=>Dz [] [] (Rn QSn (qx 7 rfl ?_)))))
     cases k
     exact ln (_,_) (a.k2b)
    ·refine q 2 rfl ?_
     cases k
     exact lx (_,_) a
   refine cJ f (fun d3 f=>?_) fun d3 f=>?_
   ·exact q 4 rfl (bE f fun f0 d4 f=>cZ (sparsegen_Word_ok d4 (F_3 F) a) fun w a=>bE f fun f1 d5 f=>q 2 rfl (y (yrem e0 e0 d5) (q 3 rfl (jx _ ⟨a,f⟩))))
   ·exact q 1 rfl (jx _ ⟨a,f⟩)
  ·refine q 2 rfl ?_
   cases f
   exact lx (_,_,_) ((a.k2c).fc)
 ·refine q 2 rfl (y (lbs_ [iV b.1,iV b.2.1,h.v,i.v,j.v] ST_26 e0 a R0) ?_)
  replace a:=a.k1e
  refine sB rfl a ST_26 fun w a=>q 4 rfl ?_
  cases c
  exact a3 _ _ _ (fin1r results4 (rcs2 rfl rfl a R0 ST_26 rfl) ⟨_,_,_,rfl,(a.k2d)⟩)
theorem matrix_within_ok {a c d:Int} {out:Bool} (i:matrix_within a c d=some out) (b:St w0 ros rs w):
  Calls prog 78 #[iV a,iV c,iV d] w (fun e w=>e=.returned (.bool out)∧St w0 ros rs w):=by
 refine en func78 rfl ntmps78 fun Q j=>q 11 rfl ?_
 refine jW 4 [] [(14,.bool ((decide (c≤a)) && (decide (a≤d))))] (St w0 ros rs) rfl (fun h=>?_) ?_
 ·refine gB 10 rfl (fun f=>?_) fun f=>?_
  ·exact q 4 rfl (h _ _ b (hasC (congrArg Value.bool (andT f)) rfl))
  ·exact q 4 rfl (h _ _ b (hasC (congrArg Value.bool (andF f)) rfl))
 intro g w b
 refine q 4 rfl ?_
 cases i
 exact za j results78 ⟨rfl,b⟩
theorem cmp_isNaN_int_ok {a:Int} {out:Bool} (b:cmp_isNaN_int a=some out) (c:St w0 ros rs w):
  Calls prog 171 #[iV a] w (fun e w=>e=.returned (.bool out)∧St w0 ros rs w):=by
 refine en func171 rfl ntmps171 fun Q d=>q 14 rfl ?_
 cases b
 exact za d results171 ⟨rfl,c⟩
theorem cmp_Less_int_ok {d f:Int} {out:Bool} (c:cmp_Less_int d f=some out) (a:St w0 ros rs w):
  Calls prog 151 #[iV d,iV f] w (fun e w=>e=.returned (.bool out)∧St w0 ros rs w):=by
 refine en func151 rfl ntmps151 fun Q l=>bE c fun p m c=>q 8 rfl (cZ (cmp_isNaN_int_ok m a) fun w a=>bE c fun i b c=>q 1 rfl ?_)
 refine jW 4 [0,1] [(11,.bool i)] (St w0 ros rs) rfl (fun j=>?_) ?_
 ·refine gJ 7 b rfl (fun n b=>?_) fun n b=>?_
  ·refine q 1 rfl (bE b fun r o b=>cZ (cmp_isNaN_int_ok o a) fun w a=>q 2 rfl ?_)
   cases b
   exact j _ _ a rfl
  ·refine q 4 rfl ?_
   cases b
   exact j _ _ a rfl
 intro g w a
 refine q 1 rfl ?_
 refine jW 4 [] [(16,.bool (i || (decide (d < f))))] (St w0 ros rs) rfl (fun k=>?_) ?_
 ·refine gB 12 rfl (fun h=>?_) fun h=>?_
  ·exact q 4 rfl (k _ _ a (hasC (congrArg Value.bool (orT h)) rfl))
  ·exact q 4 rfl (k _ _ a (hasC (congrArg Value.bool (orF h)) rfl))
 intro g w a
 refine q 4 rfl ?_
 cases c
 exact za l results151 ⟨rfl,a⟩
theorem slices_IsSorted_int_ok {h:LI} {i:Hdr} {out:Bool} (d:slices_IsSorted_int h=some out) (c:imm I1 i.v h∈ros) (a:St w0 ros rs w):
  Calls prog 123 #[i.v] w (fun e w=>e=.returned (.bool out)∧St w0 ros rs w):=by
 refine en func123 rfl ntmps123 fun Q j=>q 9 rfl (y (yLen SL_23 e0 a (rdI c)) (bE d fun m n d=>q 5 rfl ?_))
 refine lp n [0] (fun f=>[(3,iV f)]) (fun f=>St w0 ros rs) (fun | .inl ()=>(.exit 0,[],St w0 ros rs) | .inr ()=>(.ret,[(2,.bool false)],St w0 ros rs)) rfl a rfl ?_ ?_
 ·clear a
  intro g w a
  rcases m with ⟨⟩ | ⟨⟩
  ·refine q 8 rfl ?_
   cases d
   exact za j results123 ⟨rfl,a⟩
  ·refine q 2 rfl ?_
   cases d
   exact za j results123 ⟨rfl,a⟩
 rintro f g w s a b
 refine q 7 rfl (cI b (fun o b=>?_) fun o b=>?_)
 ·refine q 5 rfl (bE b fun t k b=>bE b fun u l b=>bE b fun x p b=>dR [0,0,3,7,0,0,32,112,240,511] [9] 1 folM ?_)
  replace a:=a.drew
  refine D1 [0,1,2,3,4,5,6,7,8] [] 9 rfl (qR 2 rfl (rQ rfl (yIa SL_23 e0 e0 a (rdI c) k) (rQ rfl (yI O_3 e0 a (rdI c) k) (qR 3 rfl (rQ rfl (yIa SL_23 e0 e0 a (rdI c) l) (rQ rfl (yI O_3 e0 a (rdI c) l) (Rn QSn (kZ (cmp_Less_int_ok p a) fun w a=>dU (Dz [] [] (Rn QSn (qx 1 rfl ?_)))))))))))
  refine cJ b (fun r b=>?_) fun r b=>?_
  ·refine q 8 rfl ?_
   cases b
   exact xo a
  ·refine q 8 rfl ?_
   cases b
   exact lo a
 ·refine q 2 rfl ?_
  cases b
  exact xo a
theorem matrix_columns_ok {m d:Int} {R S T:LI} {b h n:Hdr} {out:Bool} (f:matrix_columns m d R S T=some out) (c:imm I1 b.v R∈ros) (A:imm I1 h.v S∈ros) (b7:imm (rI .u64) n.v T∈ros) (a:St w0 ros rs w):
  Calls prog 79 #[.agg #[iV m,iV d,b.v,h.v,n.v]] w (fun e w=>e=.returned (.bool out)∧St w0 ros rs w):=by
 refine en func79 rfl ntmps79 fun Q H=>q 2 rfl (yb (r_box (vals:=[iV m,iV d,b.v,h.v,n.v]) a e0 rfl) fun B w a=>bE f fun u s f=>bE f fun t o f=>bE f fun p j f=>bE f fun x k f=>q 5 rfl ?_)
 refine jN Unit [1] (fun _=>[(47,.bool x)]) (fun _=>St w0 ros (box B 26 [iV m,iV d,b.v,h.v,n.v]::rs)) rfl ?_ ?_
 ·rcases iteS s with ⟨z,s⟩ | ⟨z,s⟩
  ·refine bE s fun d2 r s=>?_
   have D:=someI s
   rcases iteS o with ⟨C,o⟩ | ⟨C,o⟩
   ·have U:=someI o
    have V:t=true:=U.symm
    rw [if_pos V] at j
    have W:=someI j
    have X:p=true:=W.symm
    rw [if_pos X] at k
    have b8:=someI k
    refine dR [0,1,3,0,8,24,63,127,255,511,1023,2047,4095,8191,16383,32767,65535,131071,262143,524287,1048575,2097151,4194303,2097151,10485759,33554431,67108863,2097151,136314879,404750335,1073741823,2147483647,4294967295,8589934591,17179869183,34359738367,8589934591,77309411327,214748364799,549755813887,1099511627775] [17] 1 folM ?_
    replace a:=a.drew
    refine D1 [0,1,2,3,4,5,6,7,8,9,10,11,12,13,14,15,16] [] 17 rfl (qR 1 rfl (rQ rfl (lb_ b.v O_23 e0 a R0) (rQ rfl (yLen SL_23 e0 a (rdI c)) (qR 1 rfl (rQ rfl (lb_ (iV d) O_3 e0 a R0) (qR 3 rfl (rK 14 rfl (nF (dT z)) (qR 1 rfl (rQ rfl (lb_ b.v O_23 e0 a R0) (rQ rfl (yIa SL_23 e0 rfl a (rdI c) r) (rQ rfl (yI O_3 e0 a (rdI c) r) (qR 1 rfl (rQ rfl (pf_ (.bool u) e0 rfl (eqv D e0)) ?_)))))))))))))
    refine qR 1 rfl (rK 21 rfl C (qR 2 rfl (Rn QSn (Lx (wqg_ok.2 rfl) (dU (Dz [18,19,20,21,22,23,24,25,26,27,28,29,30,31,32,33,34,35,36,37,38,39,40] [] (qR 1 rfl (rQ rfl (pt_ (.bool t) e0 rfl (eqv U rfl)) (qR 1 rfl (rK 27 rfl V (qR 10 rfl (rQ rfl (pt_ (.bool p) e0 rfl (eqv W rfl)) (qR 1 rfl ?_)))))))))))))
    exact rK 39 rfl X (qR 7 rfl (rQ rfl (pt_ (.bool x) e0 rfl (eqv b8 rfl)) (Rn QSn (jr () a))))
   ·refine bE o fun d3 I o=>?_
    have J:=someI o
    rcases iteS j with ⟨E,j⟩ | ⟨E,j⟩
    ·have Z:=someI j
     have a0:p=true:=Z.symm
     rw [if_pos a0] at k
     have c0:=someI k
     refine dR [0,1,3,0,8,24,63,127,255,511,1023,2047,4095,8191,16383,32767,65535,131071,262143,524287,1048575,2097151,4194303,2097151,10485759,33554431,67108863,2097151,136314879,404750335,1073741823,2147483647,4294967295,8589934591,17179869183,34359738367,8589934591,77309411327,214748364799,549755813887,1099511627775] [17] 1 folM ?_
     replace a:=a.drew
     refine D1 [0,1,2,3,4,5,6,7,8,9,10,11,12,13,14,15,16] [] 17 rfl (qR 1 rfl (rQ rfl (lb_ b.v O_23 e0 a R0) (rQ rfl (yLen SL_23 e0 a (rdI c)) (qR 1 rfl (rQ rfl (lb_ (iV d) O_3 e0 a R0) (qR 3 rfl (rK 14 rfl (nF (dT z)) (qR 1 rfl (rQ rfl (lb_ b.v O_23 e0 a R0) (rQ rfl (yIa SL_23 e0 rfl a (rdI c) r) (rQ rfl (yI O_3 e0 a (rdI c) r) (qR 1 rfl (rQ rfl (pf_ (.bool u) e0 rfl (eqv D e0)) ?_)))))))))))))
     refine qR 1 rfl (rK 21 rfl (bfalse C) (qR 1 rfl (rQ rfl (lb_ b.v O_23 e0 a R0) (Rn QSn (kZ (slices_IsSorted_int_ok I c a) fun w a=>dU (Dz [18,19,20,21,22,23,24,25,26,27,28,29,30,31,32,33,34,35,36,37,38,39,40] [] (qR 1 rfl (rQ rfl (pf_ (.bool t) e0 rfl (eqv J e0)) (qR 1 rfl (rK 27 rfl E (qR 10 rfl (rQ rfl (pt_ (.bool p) e0 rfl (eqv Z rfl)) ?_))))))))))))
     exact qR 1 rfl (rK 39 rfl a0 (qR 7 rfl (rQ rfl (pt_ (.bool x) e0 rfl (eqv c0 rfl)) (Rn QSn (jr () a)))))
    ·refine bE j fun d4 F j=>?_
     have a1:=someI j
     rcases iteS k with ⟨K,k⟩ | ⟨K,k⟩
     ·have c1:=someI k
      refine dR [0,1,3,0,8,24,63,127,255,511,1023,2047,4095,8191,16383,32767,65535,131071,262143,524287,1048575,2097151,4194303,2097151,10485759,33554431,67108863,2097151,136314879,404750335,1073741823,2147483647,4294967295,8589934591,17179869183,34359738367,8589934591,77309411327,214748364799,549755813887,1099511627775] [17] 1 folM ?_
      replace a:=a.drew
      refine D1 [0,1,2,3,4,5,6,7,8,9,10,11,12,13,14,15,16] [] 17 rfl (qR 1 rfl (rQ rfl (lb_ b.v O_23 e0 a R0) (rQ rfl (yLen SL_23 e0 a (rdI c)) (qR 1 rfl (rQ rfl (lb_ (iV d) O_3 e0 a R0) (qR 3 rfl (rK 14 rfl (nF (dT z)) (qR 1 rfl (rQ rfl (lb_ b.v O_23 e0 a R0) (rQ rfl (yIa SL_23 e0 rfl a (rdI c) r) (rQ rfl (yI O_3 e0 a (rdI c) r) (qR 1 rfl (rQ rfl (pf_ (.bool u) e0 rfl (eqv D e0)) ?_)))))))))))))
      refine qR 1 rfl (rK 21 rfl (bfalse C) (qR 1 rfl (rQ rfl (lb_ b.v O_23 e0 a R0) (Rn QSn (kZ (slices_IsSorted_int_ok I c a) fun w a=>dU (Dz [18,19,20,21,22,23,24,25,26,27,28,29,30,31,32,33,34,35,36,37,38,39,40] [] (qR 1 rfl (rQ rfl (pf_ (.bool t) e0 rfl (eqv J e0)) (qR 1 rfl (rK 27 rfl (bfalse E) (qR 1 rfl (rQ rfl (lb_ b.v O_23 e0 a R0) ?_))))))))))))
      exact qR 1 rfl (rQ rfl (lb_ (iV d) O_3 e0 a R0) (rQ rfl (yIa SL_23 e0 e0 a (rdI c) F) (rQ rfl (yI O_3 e0 a (rdI c) F) (qR 1 rfl (rQ rfl (lb_ h.v O_23 e0 a R0) (rQ rfl (yLen SL_23 e0 a (rdI A)) (qR 1 rfl (rQ rfl (pf_ (.bool p) e0 rfl (eqv a1 e0)) (qR 1 rfl (rK 39 rfl K (qR 7 rfl (rQ rfl (pt_ (.bool x) e0 rfl (eqv c1 rfl)) (Rn QSn (jr () a))))))))))))))
     ·have c2:=someI k
      refine dR [0,1,3,0,8,24,63,127,255,511,1023,2047,4095,8191,16383,32767,65535,131071,262143,524287,1048575,2097151,4194303,2097151,10485759,33554431,67108863,2097151,136314879,404750335,1073741823,2147483647,4294967295,8589934591,17179869183,34359738367,8589934591,77309411327,214748364799,549755813887,1099511627775] [17] 1 folM ?_
      replace a:=a.drew
      refine D1 [0,1,2,3,4,5,6,7,8,9,10,11,12,13,14,15,16] [] 17 rfl (qR 1 rfl (rQ rfl (lb_ b.v O_23 e0 a R0) (rQ rfl (yLen SL_23 e0 a (rdI c)) (qR 1 rfl (rQ rfl (lb_ (iV d) O_3 e0 a R0) (qR 3 rfl (rK 14 rfl (nF (dT z)) (qR 1 rfl (rQ rfl (lb_ b.v O_23 e0 a R0) (rQ rfl (yIa SL_23 e0 rfl a (rdI c) r) (rQ rfl (yI O_3 e0 a (rdI c) r) (qR 1 rfl (rQ rfl (pf_ (.bool u) e0 rfl (eqv D e0)) ?_)))))))))))))
      refine qR 1 rfl (rK 21 rfl (bfalse C) (qR 1 rfl (rQ rfl (lb_ b.v O_23 e0 a R0) (Rn QSn (kZ (slices_IsSorted_int_ok I c a) fun w a=>dU (Dz [18,19,20,21,22,23,24,25,26,27,28,29,30,31,32,33,34,35,36,37,38,39,40] [] (qR 1 rfl (rQ rfl (pf_ (.bool t) e0 rfl (eqv J e0)) (qR 1 rfl (rK 27 rfl (bfalse E) (qR 1 rfl (rQ rfl (lb_ b.v O_23 e0 a R0) ?_))))))))))))
      refine qR 1 rfl (rQ rfl (lb_ (iV d) O_3 e0 a R0) (rQ rfl (yIa SL_23 e0 e0 a (rdI c) F) (rQ rfl (yI O_3 e0 a (rdI c) F) (qR 1 rfl (rQ rfl (lb_ h.v O_23 e0 a R0) (rQ rfl (yLen SL_23 e0 a (rdI A)) (qR 1 rfl (rQ rfl (pf_ (.bool p) e0 rfl (eqv a1 e0)) (qR 1 rfl (rK 39 rfl (bfalse K) (qR 1 rfl (rQ rfl (lb_ h.v O_23 e0 a R0) (rQ rfl (yLen SL_23 e0 a (rdI A)) ?_)))))))))))))
      exact qR 1 rfl (rQ rfl (lb_ n.v O_24 e0 a R0) (rQ rfl (yLen SL_24 e0 a (rdI b7)) (qR 1 rfl (rQ rfl (pf_ (.bool x) e0 rfl (eqv c2 e0)) (Rn QSn (jr () a))))))
  ·have a2:=someI s
   have a3:u=true:=a2.symm
   rw [if_pos a3] at o
   have a4:=someI o
   have a5:t=true:=a4.symm
   rw [if_pos a5] at j
   have a6:=someI j
   have a7:p=true:=a6.symm
   rw [if_pos a7] at k
   have c3:=someI k
   refine dR [0,1,3,0,8,24,63,127,255,511,1023,2047,4095,8191,16383,32767,65535,131071,262143,524287,1048575,2097151,4194303,2097151,10485759,33554431,67108863,2097151,136314879,404750335,1073741823,2147483647,4294967295,8589934591,17179869183,34359738367,8589934591,77309411327,214748364799,549755813887,1099511627775] [17] 1 folM ?_
   replace a:=a.drew
   refine D1 [0,1,2,3,4,5,6,7,8,9,10,11,12,13,14,15,16] [] 17 rfl (qR 1 rfl (rQ rfl (lb_ b.v O_23 e0 a R0) (rQ rfl (yLen SL_23 e0 a (rdI c)) (qR 1 rfl (rQ rfl (lb_ (iV d) O_3 e0 a R0) (qR 3 rfl (rK 14 rfl (nT (dF z)) (qR 5 rfl (rQ rfl (pt_ (.bool u) e0 rfl (eqv a2 rfl)) (qR 1 rfl (rK 21 rfl a3 (qR 2 rfl (Rn QSn ?_)))))))))))))
   exact Lx (wqg_ok.2 rfl) (dU (Dz [18,19,20,21,22,23,24,25,26,27,28,29,30,31,32,33,34,35,36,37,38,39,40] [] (qR 1 rfl (rQ rfl (pt_ (.bool t) e0 rfl (eqv a4 rfl)) (qR 1 rfl (rK 27 rfl a5 (qR 10 rfl (rQ rfl (pt_ (.bool p) e0 rfl (eqv a6 rfl)) (qR 1 rfl (rK 39 rfl a7 (qR 7 rfl (rQ rfl (pt_ (.bool x) e0 rfl (eqv c3 rfl)) (Rn QSn (jr () a))))))))))))))
 rintro _ g w a
 refine q 1 rfl ?_
 refine cJ f (fun c4 f=>?_) fun c4 f=>?_
 ·refine q 7 rfl ?_
  cases f
  exact za H results79 ⟨rfl,(a.k14)⟩
 ·refine q 6 rfl (y (lb_ (iV d) O_3 e0 a R0) (bE f fun c5 c6 f=>q 4 rfl ?_))
  refine lp c6 [1,49] (fun L=>[(50,iV L)]) (fun L=>St w0 ros (box B 26 [iV m,iV d,b.v,h.v,n.v]::rs)) (fun | .inl ()=>(.exit 0,[],St w0 ros rs) | .inr ()=>(.ret,[(2,.bool false)],St w0 ros rs)) rfl a rfl ?_ ?_
  ·clear a
   intro g w a
   rcases c5 with ⟨⟩ | ⟨⟩
   ·refine q 8 rfl ?_
    cases f
    exact za H results79 ⟨rfl,a⟩
   ·refine q 2 rfl ?_
    cases f
    exact za H results79 ⟨rfl,a⟩
  rintro L g w d5 a i
  refine q 6 rfl (cI i (fun c7 i=>?_) fun c7 i=>?_)
  ·refine q 16 rfl (bE i fun a8 a9 i=>bE i fun b0 b1 i=>bE i fun b2 b3 i=>dR [0,1,0,4,0,28,60,0,128,0,512,1920,3968,8191,16383,0] [] 0 folM ?_)
   replace a:=a.drew
   refine Dz [0,1,2,3,4,5,6,7,8,9,10,11,12,13,14,15] [] (qR 1 rfl (rQ rfl (lb_ h.v O_23 e0 a R0) (qR 1 rfl (rQ rfl (lb_ b.v O_23 e0 a R0) (qR 1 rfl (rQ rfl (yIa SL_23 e0 e0 a (rdI c) a9) (rQ rfl (yI O_3 e0 a (rdI c) a9) (qR 1 rfl (rQ rfl (lb_ b.v O_23 e0 a R0) (qR 2 rfl (rQ rfl (yIa SL_23 e0 e0 a (rdI c) b1) (rQ rfl (yI O_3 e0 a (rdI c) b1) (rQ rfl (ySl SL_23 e0 a (rdI A) (.inl (congrArg some e0)) (.inl (congrArg some e0)) b3) ?_)))))))))))))
   replace a:=a.sub A b3
   refine rQ rfl (yLen SL_23 e0 a (rdI F0)) (qR 1 rfl (Rn QSn (bE i fun c8 c9 i=>qx 2 rfl ?_)))
   refine lp c9 [1,49,50,66,67] (fun (G,N)=>[(4,iV G),(68,iV N)]) (fun (G,N)=>St w0 (imm I1 (subH h 1 a8 b0).v b2::ros) (box B 26 [iV m,iV d,b.v,h.v,n.v]::rs)) (fun | .inl ()=>(.exit 2,[],St w0 ros (box B 26 [iV m,iV d,b.v,h.v,n.v]::rs)) | .inr ()=>(.ret,[(2,.bool false)],St w0 ros rs)) rfl a rfl ?_ ?_
   ·clear a
    intro g w a
    rcases c8 with ⟨⟩ | ⟨⟩
    ·refine q 7 rfl ?_
     cases i
     exact lo a
    ·refine q 3 rfl ?_
     cases i
     exact xo a
   rintro ⟨G,N⟩ g w d6 a l
   refine q 6 rfl (cI l (fun d0 l=>?_) fun d0 l=>?_)
   ·refine q 6 rfl (bE l fun b4 b5 l=>y (yIa SL_23 e0 e0 a (rdI F0) b5) (y (yI O_3 e0 a (rdI F0) b5) (q 10 rfl ?_)))
    refine jW 5 [1,6,49,50,66,67,68] [(80,.bool ((decide (b4≤G)) || (decide (m≤b4))))] (St w0 (imm I1 (subH h 1 a8 b0).v b2::ros) (box B 26 [iV m,iV d,b.v,h.v,n.v]::rs)) rfl (fun b6=>?_) ?_
    ·refine gB 75 rfl (fun O=>?_) fun O=>?_
     ·exact q 5 rfl (b6 _ _ a (hasC (congrArg Value.bool (orT O)) rfl))
     ·exact q 2 rfl (y (lb_ (iV m) O_3 e0 a R0) (q 2 rfl (b6 _ _ a (hasC (congrArg Value.bool (orF O)) rfl))))
    intro g w a
    refine q 2 rfl ?_
    refine cJ l (fun d1 l=>?_) fun d1 l=>?_
    ·refine q 9 rfl ?_
     cases l
     exact xo ((a.k14).fc)
    ·refine q 12 rfl ?_
     cases l
     exact lo a
   ·refine q 2 rfl ?_
    cases l
    exact xo (a.fc)
  ·refine q 2 rfl ?_
   cases i
   exact xo (a.k14)
theorem float_parts_ok {a:Int} {out:Int×Int} (b:float_parts a=some out) (c:St w0 ros rs w):
  Calls prog 83 #[.int .u64 a] w (fun e w=>e=.returned (.tuple #[iV out.1,.int .u64 out.2])∧St w0 ros rs w):=by
 refine en func83 rfl ntmps83 fun Q d=>q 19 rfl ?_
 cases b
 exact zb d results83 ⟨rfl,c⟩
theorem float_IsFinite_ok {c:Int} {out:Bool} (a:float_IsFinite c=some out) (b:St w0 ros rs w):
  Calls prog 82 #[.int .u64 c] w (fun e w=>e=.returned (.bool out)∧St w0 ros rs w):=by
 refine en func82 rfl ntmps82 fun Q d=>bE a fun g f a=>q 8 rfl (cZ (float_parts_ok f b) fun w b=>q 15 rfl ?_)
 cases a
 exact za d results82 ⟨rfl,b⟩
theorem matrix_Check_1_ok {c:Int} {out:Bool} (a:matrix_Check_1 c=some out) (b:St w0 ros rs w):
  Calls prog 81 #[.int .u64 c] w (fun e w=>e=.returned (.bool out)∧St w0 ros rs w):=by
 refine en func81 rfl ntmps81 fun Q d=>bE a fun g f a=>q 8 rfl (cZ (float_IsFinite_ok f b) fun w b=>q 5 rfl ?_)
 cases a
 exact za d results81 ⟨rfl,b⟩
end Go.Proofs.YtcoaljcfifecgagGreatDoor
