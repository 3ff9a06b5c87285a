/- Walks: each function computes its model, printed. -/
import Derived.Test.YtcoaljcfifecgagGreatDoorW11
namespace Go.Proofs.YtcoaljcfifecgagGreatDoor
open Go Sx M Go.Proofs.Tryz
set_option maxRecDepth 100000
set_option maxHeartbeats 40000000
set_option linter.unusedVariables false
attribute [local irreducible] wpList Code.wp Calls DR QR QS LA LS St
variable {w0:World} {ros:List Fact} {rs:List Res} {w:World}
theorem prove_minor_ok {G:List (List (Bool×LI))} {i d:Int} {H I:LI} {J:List (List (Bool×LI))} {K f h j:Hdr} {out:Bool} (m:prove_minor G i d H I J=some out) (L:imm (rS (rP rB (rS (rI .u32)))) K.v G∈ros) (x:imm I1 f.v H∈ros) (z:imm I1 h.v I∈ros) (b0:imm (rS (rP rB (rS (rI .u32)))) j.v J∈ros) (a:St w0 ros rs w):
  Calls prog 71 #[K.v,.agg #[iV i,iV d,f.v,h.v,j.v]] w (fun e w=>e=.returned (.bool out)∧St w0 ros rs w):=by
 refine en func71 rfl ntmps71 fun Q X=>q 2 rfl (yb (r_box (vals:=[iV i,iV d,f.v,h.v,j.v]) a e0 rfl) fun t w a=>q 12 rfl (y (lb_ f.v O_23 e0 a R0) (y (yLen SL_23 e0 a (rdI x)) (bE m fun N Z m=>q 4 rfl ?_))))
 replace a:=a.rowNh 23 S1
 refine lpN Hdr Hdr Z [0,3,16,17] (fun (o,A) k=>[(5,k.v),(18,iV A)]) (fun (o,A) k=>St w0 ros (box t 68 [iV i,iV d,f.v,h.v,j.v]::row 23 S1 k.v o::rs)) (fun | N,B=>(.exit 0,[(5,B.v)],St w0 ros (box t 68 [iV i,iV d,f.v,h.v,j.v]::row 23 S1 B.v N::rs))) rfl _ (a.k10) rfl ?_ ?_
 ·clear a
  rintro B g w a
  refine q 6 rfl (y (lb_ (iV d) O_3 e0 a R0) (bE m fun O a0 m=>?_))
  have R:=a
  replace a:=(a.k10).fz
  have p:=a.guest0
  replace a:=R
  clear R
  refine yC (yCall FN_113 (a2 e0 e0)) (modular_Det_ok a0 F0 p) ?_
  clear p
  rintro _ w ⟨rfl,p⟩
  replace a:=a.back p
  clear p
  refine ⟨_,rfl,?_⟩
  refine nf (q 12 rfl ?_)
  refine jW 3 [] [(64,.bool ((decide (O.2=0)) && (!(decide (O.1=0)))))] (St w0 ros rs) rfl (fun S=>?_) ?_
  ·refine gB 61 rfl (fun C=>?_) fun C=>?_
   ·exact q 3 rfl (S _ _ (a.k19) (hasC (congrArg Value.bool (andT C)) rfl))
   ·exact q 3 rfl (S _ _ (a.k19) (hasC (congrArg Value.bool (andF C)) rfl))
  intro g w a
  refine q 4 rfl ?_
  cases m
  exact za X results71 ⟨rfl,a⟩
 rintro ⟨o,A⟩ k g w b1 a c
 refine q 6 rfl (cI c (fun a1 c=>?_) fun a1 c=>?_)
 ·refine q 6 rfl (bE c fun b2 T c=>y (yIa SL_23 e0 e0 a (rdI x) T) (y (yI O_3 e0 a (rdI x) T) (q 12 rfl (y (lb_ h.v O_23 e0 a R0) (y (yLen SL_23 e0 a (rdI z)) (bE c fun D a3 c=>q 4 rfl ?_))))))
  replace a:=a.rowNh 3 I1
  refine lpN Hdr Hdr a3 [0,3,5,7,16,17,18,23,24] (fun (E,F) u=>[(8,u.v),(25,iV F)]) (fun (E,F) u=>St w0 ros (box t 68 [iV i,iV d,f.v,h.v,j.v]::row 23 S1 k.v o::row 3 I1 u.v E::rs)) (fun | D,r=>(.exit 2,[(8,r.v)],St w0 ros (box t 68 [iV i,iV d,f.v,h.v,j.v]::row 23 S1 k.v o::row 3 I1 r.v D::rs))) rfl _ (a.k1f) rfl ?_ ?_
  ·clear a
   rintro r g w a
   refine q 5 rfl ?_
   replace a:=(a.k16).fz
   refine yh (rLt (n:=1) (l:=[D]) a SL_109 [r.v] (bp1 e0) rfl rfl (mks1 (cs:=[r.v]) rfl (mkS F0) mks0)) fun b3 w a=>bE c fun b4 a4 c=>?_
   replace a:=a.k16
   refine yh (rAp a SL_109 e0 e0 rO1 a4) fun b5 w a=>q 8 rfl ?_
   cases c
   exact ln _ ((a.k1y).fc)
  rintro ⟨E,F⟩ u g w b6 a b
  refine q 6 rfl (cI b (fun a5 b=>?_) fun a5 b=>?_)
  ·refine q 6 rfl (bE b fun b7 U b=>y (yIa SL_23 e0 e0 a (rdI z) U) (y (yI O_3 e0 a (rdI z) U) (bE b fun b8 V b=>bE b fun a6 W b=>bE b fun s a7 b=>q 4 rfl (dR [0,0,3,7,0,31,63,0,128,511,1023,2047,2047,4095,16383] [9,13,14] 3 folM ?_))))
   replace a:=a.drew
   refine D1 [0,1,2,3,4,5,6,7,8] [] 9 rfl (qR 2 rfl (rQ rfl (yIa SL_32 e0 e0 a (rdI L) V) ?_))
   obtain ⟨b9,a⟩:=iLs a L V
   refine rQ rfl (yCt O_28 e0 a F1 rfl) (qR 1 rfl (rQ rfl (yIa SL_28 e0 e0 a (rdI F0) W) ?_))
   obtain ⟨c0,c1,a⟩:=iLd a F0 W
   obtain ⟨c2,c3,rfl,a⟩:=a.eltP
   obtain ⟨rfl,a⟩:=a.eltB
   obtain ⟨a8,rfl,a⟩:=a.eltS
   refine rQ rfl (yCtn (cs:=[.bool a6.1,a8.v]) ST_40 rfl e0 a F1) (qR 1 rfl (rQ rfl (lb_ (iV d) O_3 e0 a R0) (Rn QSn (kZ (modular_Reduce_ok a7 F0 a) fun w a=>dU (D1 [10,11,12] [] 13 rfl (qR 3 rfl (Rn QSn (Ly wn (a_ (iV s.1) e0) (dU (D1 [] [12] 14 rfl (Rn (qS rfl QSn) (Ly wn (a_ (iV s.2) e0) ?_))))))))))))
   refine dU (Dz [] [] (Rn QSn (qx 4 rfl (yh (rLt (n:=1) (l:=[s.1]) a SL_23 [iV s.1] (bp1 e0) rfl rfl (mks1 (cs:=[iV s.1]) rfl mkI mks0)) fun c4 w a=>bE b fun c5 a9 b=>?_))))
   replace a:=a.k1d
   refine yh (rAp a SL_23 e0 e0 rO1 a9) fun c6 w a=>q 8 rfl ?_
   cases b
   exact ln _ ((a.k1j).fc)
  ·refine q 2 rfl ?_
   cases b
   exact lx _ a
 ·refine q 2 rfl ?_
  cases c
  exact lx _ a
theorem prove_inKernel_ok {o:List (List (Bool×LI))} {p:List (Bool×LI)} {r s:Hdr} {out:Bool} (h:prove_inKernel o p=some out) (j:imm (rS (rP rB (rS (rI .u32)))) r.v o∈ros) (t:imm (rP rB (rS (rI .u32))) s.v p∈ros) (a:St w0 ros rs w):
  Calls prog 72 #[r.v,s.v] w (fun e w=>e=.returned (.bool out)∧St w0 ros rs w):=by
 refine en func72 rfl ntmps72 fun Q u=>q 9 rfl (y (yLen SL_32 e0 a (rdI j)) (bE h fun H I h=>q 4 rfl ?_))
 refine lp I [1,10,11] (fun k=>[(12,iV k)]) (fun k=>St w0 ros rs) (fun | .inl ()=>(.exit 0,[],St w0 ros rs) | .inr ()=>(.ret,[(4,.bool false)],St w0 ros rs)) rfl a rfl ?_ ?_
 ·clear a
  intro g w a
  rcases H with ⟨⟩ | ⟨⟩
  ·refine q 8 rfl ?_
   cases h
   exact za u results72 ⟨rfl,a⟩
  ·refine q 2 rfl ?_
   cases h
   exact za u results72 ⟨rfl,a⟩
 rintro k g w Z a b
 refine q 6 rfl (cI b (fun J b=>?_) fun J b=>?_)
 ·refine q 6 rfl (bE b fun K x b=>y (yIa SL_32 e0 e0 a (rdI j) x) ?_)
  obtain ⟨L,a⟩:=iLs a j x
  refine y (yCt O_28 e0 a F1 rfl) (bE b fun a0 N b=>q 5 rfl (cO (integer_FromInt_ok N a) fun a1 w a=>yb (rAl a ZT_40) fun z w a=>sB rfl a ST_40 fun w a=>q 6 rfl (y (yLen SL_28 e0 a (rdI F1)) (q 4 rfl ?_))))
  obtain ⟨⟨l,A⟩,O,b⟩:=bs b
  refine lpN Hdr Hdr O [1,7,10,11,12,17,18] (fun (f,m,n) d=>[(19,iV n)]) (fun (f,m,n) d=>St w0 (imm (rI .u32) d.v m::imm (rP rB (rS (rI .u32))) L.v K::ros) (box z 40 [.bool f,d.v]::rs)) (fun | (l,A),i=>(.exit 2,[],St w0 (imm (rI .u32) i.v A::ros) (box z 40 [.bool l,i.v]::rs))) rfl _ (a.facts (allC F0 (allC F1 (allT (allT (allT allI)))))) rfl ?_ ?_
  ·clear a
   rintro i g w a
   refine q 4 rfl (y (lbs_ [.bool l,i.v] ST_40 e0 a R0) (bE b fun a2 R b=>cZ (integer_Sign_ok R F0 a) fun w a=>q 3 rfl ?_))
   refine cIn b (fun S b=>?_) fun S b=>?_
   ·refine q 7 rfl ?_
    cases b
    exact lo ((a.k14).fc)
   ·refine q 8 rfl ?_
    cases b
    exact xo ((a.k14).fc)
  rintro ⟨f,m,n⟩ d g w a3 a c
  refine q 6 rfl (cI c (fun T c=>?_) fun T c=>?_)
  ·refine q 7 rfl (bE c fun B C c=>y (yIa SL_28 e0 e0 a (rdI F1) C) ?_)
   obtain ⟨a4,a5,a⟩:=iLd a F1 C
   obtain ⟨a6,a7,rfl,a⟩:=a.eltP
   obtain ⟨rfl,a⟩:=a.eltB
   obtain ⟨D,rfl,a⟩:=a.eltS
   refine y (yCtn (cs:=[.bool B.1,D.v]) ST_40 rfl e0 a F1) (yb (rAl a ZT_40) fun a8 w a=>q 1 rfl (sB rfl a ST_40 fun w a=>bE c fun U E c=>bE c fun a9 V c=>bE c fun F W c=>q 2 rfl (dR [0,0,0,0,12,28,62,127,255] [6,7,8] 3 folM ?_)))
   replace a:=a.drew
   refine D1 [0,1,2,3,4,5] [] 6 rfl (rQ rfl (lbs_ [.bool f,d.v] ST_40 e0 a R1) (rQ rfl (lbs_ [.bool B.1,D.v] ST_40 e0 a R0) (qR 2 rfl (rQ rfl (yIa SL_28 e0 e0 a (rdI (F_4 t)) E) ?_))))
   obtain ⟨b0,b1,a⟩:=iLd a (F_4 t) E
   obtain ⟨b2,b3,rfl,a⟩:=a.eltP
   obtain ⟨rfl,a⟩:=a.eltB
   obtain ⟨X,rfl,a⟩:=a.eltS
   refine rQ rfl (yCtn (cs:=[.bool U.1,X.v]) ST_40 rfl e0 a F1) (Rn QSn (kO (integer_Mul_ok V F2 F0 a) fun b4 w a=>dU (D1 [] [0] 7 rfl (Rn (sY rfl (lbs_ [.bool f,d.v] ST_40 e0 a R1) QSn) (kO (integer_Add_ok W F5 F0 a) fun G w a=>dU (D0 [] [] 8 rfl (Rn QSn ?_)))))))
   replace a:=a.k10
   refine LT wn (r_stbn (vals':=[.bool F.1,G.v]) (us:=[.bool F.1,G.v]) a ST_40 e0 e0 rfl rfl (one_of rfl) rfl) fun w a=>Dz [] [] (Rn QSn (qx 6 rfl ?_))
   cases c
   exact ln _ ((a.k11).facts (allC F0 (allC F7 (allT (allT (allT (allT (allT (allT (allT (allT allI)))))))))))
  ·refine q 2 rfl ?_
   cases c
   exact lx _ (a.facts (allC F0 (allT (allT allI))))
 ·refine q 2 rfl ?_
  cases b
  exact xo a
theorem prove_Check_ok {l h:Int} {I J K:LI} {d f:Int} {L N:LI} {E:List (List (Bool×LI))} {m n o j k c:Hdr} {out:Bool} (b:prove_Check l h I J K d f L N E=some out) (a2:imm I1 m.v I∈ros) (a3:imm I1 n.v J∈ros) (a4:imm (rI .u64) o.v K∈ros) (O:imm I1 j.v L∈ros) (R:imm I1 k.v N∈ros) (p:imm (rS (rP rB (rS (rI .u32)))) c.v E∈ros) (a5:globF∈ros) (a:St w0 ros rs w):
  Calls prog 30 #[.agg #[iV l,iV h,m.v,n.v,o.v],.agg #[iV d,iV f,j.v,k.v,c.v]] w (fun e w=>e=.returned (.bool out)∧St w0 ros rs w):=by
 refine en func30 rfl ntmps30 fun Q D=>q 2 rfl (yb (r_box (vals:=[iV l,iV h,m.v,n.v,o.v]) a e0 rfl) fun z w a=>yb (r_box (vals:=[iV d,iV f,j.v,k.v,c.v]) a e0 rfl) fun r w a=>q 5 rfl (y (lbs_ [iV l,iV h,m.v,n.v,o.v] ST_26 e0 a R1) (bE b fun A a6 b=>cT_ (matrix_Integers_ok a6 a2 a3 a4 a5 a) fun B C w a=>bE b fun S s b=>q 15 rfl ?_)))
 refine jW 5 [2,3,5] [(24,.bool S)] (St w0 ros (box z 26 [iV l,iV h,m.v,n.v,o.v]::box r 68 [iV d,iV f,j.v,k.v,c.v]::row 28 rH B.v C::fam 40 (rP rB (rS (rI .u32))) C A.1::rs)) rfl (fun T=>?_) ?_
 ·refine gIn 19 s rfl (fun a7 s=>?_) fun a7 s=>?_
  ·refine q 1 rfl (y (lb_ (iV f) O_3 e0 a R2) (bE s fun c7 a8 s=>cZ (modular_IsPrime_ok a8 a) fun w a=>q 2 rfl ?_))
   cases s
   exact T _ _ (a.k1h) rfl
  ·refine q 5 rfl ?_
   cases s
   exact T _ _ (a.k1h) rfl
 intro g w a
 refine q 1 rfl ?_
 refine jW 4 [2,3,5] [(29,.bool (S || (decide ((2147483647:Int) < f))))] (St w0 ros (box z 26 [iV l,iV h,m.v,n.v,o.v]::box r 68 [iV d,iV f,j.v,k.v,c.v]::row 28 rH B.v C::fam 40 (rP rB (rS (rI .u32))) C A.1::rs)) rfl (fun U=>?_) ?_
 ·refine gB 25 rfl (fun F=>?_) fun F=>?_
  ·exact q 4 rfl (U _ _ a (hasC (congrArg Value.bool (orT F)) rfl))
  ·exact q 1 rfl (y (lb_ (iV f) O_3 e0 a R1) (q 2 rfl (U _ _ a (hasC (congrArg Value.bool (orF F)) rfl))))
 intro g w a
 refine q 2 rfl ?_
 refine cJ b (fun a9 b=>?_) fun a9 b=>?_
 ·refine q 7 rfl ?_
  cases b
  exact za D results30 ⟨rfl,(a.k1a)⟩
 ·refine q 6 rfl (y (lb_ j.v O_23 e0 a R1) (q 1 rfl (y (lb_ (iV d) O_3 e0 a R1) (q 1 rfl (y (lb_ (iV l) O_3 e0 a R0) (bE b fun c8 b0 b=>cZ (prove_ascending_ok b0 O a) fun w a=>bE b fun b1 t b=>q 2 rfl ?_))))))
  refine jW 9 [2,3,5] [(47,.bool b1)] (St w0 ros (box z 26 [iV l,iV h,m.v,n.v,o.v]::box r 68 [iV d,iV f,j.v,k.v,c.v]::row 28 rH B.v C::fam 40 (rP rB (rS (rI .u32))) C A.1::rs)) rfl (fun V=>?_) ?_
  ·refine gJn 38 t rfl (fun b2 t=>?_) fun b2 t=>?_
   ·refine q 1 rfl (y (lb_ k.v O_23 e0 a R1) (q 1 rfl (y (lb_ (iV d) O_3 e0 a R1) (q 1 rfl (y (lb_ (iV h) O_3 e0 a R0) (bE t fun c9 b3 t=>cZ (prove_ascending_ok b3 R a) fun w a=>q 2 rfl ?_))))))
    cases t
    exact V _ _ a rfl
   ·refine q 9 rfl ?_
    cases t
    exact V _ _ a rfl
  intro g w a
  refine bE b fun b4 u b=>q 1 rfl ?_
  refine jW 5 [2,3,5] [(53,.bool b4)] (St w0 (imm (rS (rP rB (rS (rI .u32)))) B.v A.1::ros) (box z 26 [iV l,iV h,m.v,n.v,o.v]::box r 68 [iV d,iV f,j.v,k.v,c.v]::rs)) rfl (fun W=>?_) ?_
  ·refine gJ 48 u rfl (fun b5 u=>?_) fun b5 u=>?_
   ·refine q 5 rfl ?_
    cases u
    replace a:=(a.k1z).ffz
    exact W _ _ a rfl
   ·refine q 1 rfl (y (lbs_ [iV d,iV f,j.v,k.v,c.v] ST_68 e0 a R1) (bE u fun d0 b6 u=>?_))
    replace a:=(a.k1z).ffz
    refine cZ (prove_minor_ok b6 F0 (mtF O) (mtF R) (mtF p) a) fun w a=>q 2 rfl ?_
    cases u
    exact W _ _ a rfl
  intro g w a
  refine q 2 rfl ?_
  refine cJ b (fun b7 b=>?_) fun b7 b=>?_
  ·refine q 7 rfl ?_
   cases b
   exact za D results30 ⟨rfl,((a.k19).fc)⟩
  ·refine q 6 rfl (y (lb_ c.v O_32 e0 a R1) (y (yLen SL_32 e0 a (rdI (mtF p))) (q 1 rfl (y (lb_ (iV h) O_3 e0 a R0) (q 1 rfl (y (lb_ (iV d) O_3 e0 a R1) (q 4 rfl ?_)))))))
   refine cIn b (fun b8 b=>?_) fun b8 b=>?_
   ·refine q 6 rfl (y (lb_ c.v O_32 e0 a R1) (y (yLen SL_32 e0 a (rdI (mtF p))) (bE b fun b9 c0 b=>q 4 rfl ?_)))
    refine lp c0 [2,3,5,64,65] (fun G=>[(66,iV G)]) (fun G=>St w0 (imm (rS (rP rB (rS (rI .u32)))) B.v A.1::ros) (box z 26 [iV l,iV h,m.v,n.v,o.v]::box r 68 [iV d,iV f,j.v,k.v,c.v]::rs)) (fun | .inl ()=>(.exit 0,[],St w0 ros (box r 68 [iV d,iV f,j.v,k.v,c.v]::rs)) | .inr ()=>(.ret,[(4,.bool false)],St w0 ros rs)) rfl a rfl ?_ ?_
    ·clear a
     intro g w a
     rcases b9 with ⟨⟩ | ⟨⟩
     ·refine q 5 rfl (y (lb_ c.v O_32 e0 a R0) (bE b fun X c1 b=>cZ (exact_Rank_ok c1 p a) fun w a=>q 12 rfl ?_))
      refine jW 6 [] [(96,.bool ((decide (X.2=0)) && (decide (X.1=(E.length:Int)))))] (St w0 ros rs) rfl (fun Z=>?_) ?_
      ·refine gB 90 rfl (fun H=>?_) fun H=>?_
       ·exact q 2 rfl (y (lb_ c.v O_32 e0 a R0) (y (yLen SL_32 e0 a (rdI p)) (q 2 rfl (Z _ _ (a.k14) (hasC (congrArg Value.bool (andT H)) rfl)))))
       ·exact q 6 rfl (Z _ _ (a.k14) (hasC (congrArg Value.bool (andF H)) rfl))
      intro g w a
      refine q 4 rfl ?_
      cases b
      exact za D results30 ⟨rfl,a⟩
     ·refine q 2 rfl ?_
      cases b
      exact za D results30 ⟨rfl,a⟩
    rintro G g w d1 a i
    refine q 6 rfl (cI i (fun c2 i=>?_) fun c2 i=>?_)
    ·refine q 6 rfl (bE i fun d2 a0 i=>y (yIa SL_32 e0 e0 a (rdI (mtF p)) a0) ?_)
     obtain ⟨d3,a⟩:=iLs a (mtF p) a0
     refine y (yCt O_28 e0 a F1 rfl) (q 6 rfl (y (yLen SL_28 e0 a (rdI F0)) (q 1 rfl (y (lb_ (iV h) O_3 e0 a R0) (bE i fun c3 x i=>q 2 rfl ?_)))))
     refine jW 5 [2,3,5,64,65,66] [(80,.bool c3)] (St w0 (imm (rS (rP rB (rS (rI .u32)))) B.v A.1::ros) (box z 26 [iV l,iV h,m.v,n.v,o.v]::box r 68 [iV d,iV f,j.v,k.v,c.v]::rs)) rfl (fun a1=>?_) ?_
     ·refine gIn 75 x rfl (fun c4 x=>?_) fun c4 x=>?_
      ·refine q 2 rfl (bE x fun d4 c5 x=>cZ (prove_inKernel_ok c5 F2 F0 a) fun w a=>q 2 rfl ?_)
       cases x
       exact a1 _ _ (a.facts (allC F2 (allT (allT (allT allI))))) rfl
      ·refine q 5 rfl ?_
       cases x
       exact a1 _ _ (a.facts (allC F2 (allT (allT (allT allI))))) rfl
     intro g w a
     refine q 2 rfl ?_
     refine cJ i (fun c6 i=>?_) fun c6 i=>?_
     ·refine q 8 rfl ?_
      cases i
      exact xo ((a.k19).fc)
     ·refine q 7 rfl ?_
      cases i
      exact lo a
    ·refine q 2 rfl ?_
     cases i
     exact xo ((a.k12).fc)
   ·refine q 7 rfl ?_
    cases b
    exact za D results30 ⟨rfl,((a.k19).fc)⟩
theorem sparselaw42_awake_ok {out:Bool} (b:sparselaw42_awake=some out) (L:globF∈ros) (a:St w0 ros rs w):
  Calls prog 8 #[] w (fun e w=>e=.returned (.bool out)∧St w0 ros rs w):=by
 refine en func8 rfl ntmps8 fun Q g6=>bE b fun H g7 b=>q 7 rfl (cZ (sparseref03_FromInt_ok g7 L a) fun w a=>bE b fun a2 g8 b=>cZ (sparseref03_FromInt_ok g8 L a) fun w a=>q 6 rfl (yh (rLt (n:=3) (l:=[0,2,4]) a SL_23 [iV 0,iV 2,iV 4] (bp3 rfl rfl rfl) rfl rfl (mks1 (cs:=[iV 0]) rfl mkI (mks1 (cs:=[iV 2]) rfl mkI (mks1 (cs:=[iV 4]) rfl mkI mks0)))) fun N w a=>yh (rLt (n:=4) (l:=[0,1,0,1]) a SL_23 [iV 0,iV 1,iV 0,iV 1] (bp4 rfl rfl rfl rfl) rfl rfl (mks1 (cs:=[iV 0]) rfl mkI (mks1 (cs:=[iV 1]) rfl mkI (mks1 (cs:=[iV 0]) rfl mkI (mks1 (cs:=[iV 1]) rfl mkI mks0))))) fun O w a=>q 3 rfl (yh (rLt (n:=4) (l:=[4607182418800017408,H,H,a2]) a SL_24 [.int .u64 4607182418800017408,.int .u64 H,.int .u64 H,.int .u64 a2] (bp4 rfl e0 e0 e0) rfl rfl (mks1 (cs:=[.int .u64 4607182418800017408]) rfl mkI (mks1 (cs:=[.int .u64 H]) rfl mkI (mks1 (cs:=[.int .u64 H]) rfl mkI (mks1 (cs:=[.int .u64 a2]) rfl mkI mks0))))) fun R w a=>?_)))
 refine y (ybuild (us:=[iV 2,iV 2,N.v,O.v,R.v]) [(0,iV 2),(1,iV 2),(2,N.v),(3,O.v),(4,R.v)] SO_26 (bp5 rfl rfl e0 e0 e0) rfl) (yb (rAl a ZT_26) fun i9 w a=>sB rfl a ST_26 fun w a=>q 4 rfl (y (lbs_ [iV 2,iV 2,N.v,O.v,R.v] ST_26 e0 a R0) (bE b fun o g9 b=>?_)))
 replace a:=(((((a.k1d).fz).k16).fz).k10).fz
 refine yC (yCall FN_27 (a1 e0)) (prove_Rank_ok g9 F2 F1 F0 (F_3 L) a) ?_
 rintro _ w ⟨h0,h1,S,j0,rfl,a⟩
 refine ⟨_,rfl,?_⟩
 refine nf (q 3 rfl (yb (rAl a ZT_68) fun j1 w a=>sB rfl a ST_68 fun w a=>q 5 rfl (y (lbs_ [iV 2,iV 2,N.v,O.v,R.v] ST_26 e0 a R5) (bE b fun j2 h2 b=>cO (prove_Singular_ok h2 F2 F1 F0 (F_3 L) a) fun j3 w a=>bE b fun x T b=>bE b fun t E b=>bE b fun s A b=>bE b fun p u b=>?_))))
 refine bE b fun m r b=>bE b fun j k b=>bE b fun i c b=>bE b fun f d b=>q 10 rfl ?_
 refine jN Unit [] (fun _=>[(0,.bool f)]) (fun _=>St w0 ros rs) rfl ?_ ?_
 ·rcases iteS T with ⟨z,T⟩ | ⟨z,T⟩
  ·have C:=someI T
   rcases iteS E with ⟨B,E⟩ | ⟨B,E⟩
   ·have F:=someI E
    rcases iteS A with ⟨D,A⟩ | ⟨D,A⟩
    ·have I:=someI A
     rcases iteS u with ⟨G,u⟩ | ⟨G,u⟩
     ·have U:=someI u
      rcases iteS r with ⟨J,r⟩ | ⟨J,r⟩
      ·have X:=someI r
       rcases iteS k with ⟨V,k⟩ | ⟨V,k⟩
       ·have a3:=someI k
        rcases iteS c with ⟨Z,c⟩ | ⟨Z,c⟩
        ·refine bE c fun a0 K c=>bE c fun j4 a5 c=>bE c fun j5 a6 c=>?_
         have a7:=someI c
         rcases iteS d with ⟨a4,d⟩ | ⟨a4,d⟩
         ·refine bE d fun j6 h6 d=>?_
          have h7:=someI d
          refine dR [0,1,3,7,15,31,63,127,255,511,1023,2047,4095,8191,16383,32767,65535,131071,262143,524287,1048575,2097151,4194303,8388607,16777215,33554431,67108863,134217727,268435455,536870911,1073741823,2147483647,4294967295,8589934591,2147483647,34359738367,68719476735,137438953471,274877906943,274877906943,1099511627775,2199023255551,4398046511103] [34,35,40,42] 4 folM ?_
          replace a:=a.drew
          refine D1 [0,1,2,3,4,5,6,7,8,9,10,11,12,13,14,15,16,17,18,19,20,21,22,23,24,25,26,27,28,29,30,31,32,33] [] 34 rfl (qR 3 rfl (rK 31 rfl (dT z) (qR 2 rfl (rQ rfl (pt_ (.bool x) e0 rfl (eqv C e0)) (qR 1 rfl (rK 35 rfl B (qR 1 rfl (rQ rfl (pt_ (.bool t) e0 rfl (eqv F e0)) (qR 1 rfl (rK 38 rfl D (qR 1 rfl (rQ rfl (lb_ (iV o.1) O_3 e0 a R0) (qR 1 rfl ?_)))))))))))))
          refine rQ rfl (pt_ (.bool s) e0 rfl (eqv I e0)) (qR 1 rfl (rK 43 rfl G (qR 1 rfl (rQ rfl (lb_ (iV o.2.1) O_3 e0 a R0) (qR 1 rfl (rQ rfl (pt_ (.bool p) e0 rfl (eqv U e0)) (qR 1 rfl (rK 48 rfl J (qR 1 rfl (rQ rfl (lb_ S.v O_32 e0 a R0) (rQ rfl (yLenF SLH_32 e0 a rO3 R4) (qR 1 rfl (rQ rfl (pt_ (.bool m) e0 rfl (eqv X e0)) ?_)))))))))))))
          refine qR 1 rfl (rK 54 rfl V (qR 1 rfl (rQ rfl (yLen SL_28 e0 a (rdI F0)) (qR 1 rfl (rQ rfl (pt_ (.bool j) e0 rfl (eqv a3 e0)) (qR 1 rfl (rK 59 rfl Z (qR 1 rfl (rQ rfl (yIa SL_28 e0 rfl a (rdI F0) K) ?_)))))))))
          obtain ⟨j7,j8,a⟩:=iLd a F0 K
          obtain ⟨j9,k0,rfl,a⟩:=a.eltP
          obtain ⟨rfl,a⟩:=a.eltB
          obtain ⟨W,rfl,a⟩:=a.eltS
          refine rQ rfl (yCtn (cs:=[.bool a0.1,W.v]) ST_40 rfl e0 a F1) (Rn QSn (kO (sparseref01_FromInt_ok a5 a) fun i0 w a=>dU (D1 [] [31,32,33] 35 rfl (Rn (qS rfl (sY rfl (yIa SL_28 e0 rfl a (rdI F2) K) (sY rfl (yCtn (cs:=[.bool a0.1,W.v]) ST_40 rfl e0 a F1) QSn))) ?_))))
          replace a:=a.fz
          refine kZ (sparsekit_Big_ok a6 F1 F0 a) fun w a=>dU (D1 [36,37,38,39] [] 40 rfl (rQ rfl (pt_ (.bool i) e0 rfl (eqv a7 e0)) (qR 1 rfl (rK 66 rfl a4 (rQ rfl (lbs_ [iV 2,iV 2,N.v,O.v,R.v] ST_26 e0 a R5) (rQ rfl (lbs_ [iV o.1,iV o.2.1,h0.v,h1.v,S.v] ST_68 e0 a R0) (Rn QSn ?_)))))))
          replace a:=(((((a.k10).fz).k10).fz).k1f).ffz
          exact kZ (prove_Check_ok h6 F9 F8 F7 F2 F1 F0 (F_10 L) a) fun w a=>dU (D1 [41] [] 42 rfl (rQ rfl (pt_ (.bool f) e0 rfl (eqv h7 e0)) (Rn QSn (Ly wn (a_ (.bool f) e0) (dU (Dz [] [] (Rn QSn (jr () ((a.k19).fc)))))))))
         ·have i1:=someI d
          refine dR [0,1,3,7,15,31,63,127,255,511,1023,2047,4095,8191,16383,32767,65535,131071,262143,524287,1048575,2097151,4194303,8388607,16777215,33554431,67108863,134217727,268435455,536870911,1073741823,2147483647,4294967295,8589934591,2147483647,34359738367,68719476735,137438953471,274877906943,274877906943,1099511627775,2199023255551,4398046511103] [34,35,40,42] 4 folM ?_
          replace a:=a.drew
          refine D1 [0,1,2,3,4,5,6,7,8,9,10,11,12,13,14,15,16,17,18,19,20,21,22,23,24,25,26,27,28,29,30,31,32,33] [] 34 rfl (qR 3 rfl (rK 31 rfl (dT z) (qR 2 rfl (rQ rfl (pt_ (.bool x) e0 rfl (eqv C e0)) (qR 1 rfl (rK 35 rfl B (qR 1 rfl (rQ rfl (pt_ (.bool t) e0 rfl (eqv F e0)) (qR 1 rfl (rK 38 rfl D (qR 1 rfl (rQ rfl (lb_ (iV o.1) O_3 e0 a R0) (qR 1 rfl ?_)))))))))))))
          refine rQ rfl (pt_ (.bool s) e0 rfl (eqv I e0)) (qR 1 rfl (rK 43 rfl G (qR 1 rfl (rQ rfl (lb_ (iV o.2.1) O_3 e0 a R0) (qR 1 rfl (rQ rfl (pt_ (.bool p) e0 rfl (eqv U e0)) (qR 1 rfl (rK 48 rfl J (qR 1 rfl (rQ rfl (lb_ S.v O_32 e0 a R0) (rQ rfl (yLenF SLH_32 e0 a rO3 R4) (qR 1 rfl (rQ rfl (pt_ (.bool m) e0 rfl (eqv X e0)) ?_)))))))))))))
          refine qR 1 rfl (rK 54 rfl V (qR 1 rfl (rQ rfl (yLen SL_28 e0 a (rdI F0)) (qR 1 rfl (rQ rfl (pt_ (.bool j) e0 rfl (eqv a3 e0)) (qR 1 rfl (rK 59 rfl Z (qR 1 rfl (rQ rfl (yIa SL_28 e0 rfl a (rdI F0) K) ?_)))))))))
          obtain ⟨k1,k2,a⟩:=iLd a F0 K
          obtain ⟨k3,k4,rfl,a⟩:=a.eltP
          obtain ⟨rfl,a⟩:=a.eltB
          obtain ⟨W,rfl,a⟩:=a.eltS
          refine rQ rfl (yCtn (cs:=[.bool a0.1,W.v]) ST_40 rfl e0 a F1) (Rn QSn (kO (sparseref01_FromInt_ok a5 a) fun i0 w a=>dU (D1 [] [31,32,33] 35 rfl (Rn (qS rfl (sY rfl (yIa SL_28 e0 rfl a (rdI F2) K) (sY rfl (yCtn (cs:=[.bool a0.1,W.v]) ST_40 rfl e0 a F1) QSn))) ?_))))
          replace a:=a.fz
          refine kZ (sparsekit_Big_ok a6 F1 F0 a) fun w a=>dU (D1 [36,37,38,39] [] 40 rfl (rQ rfl (pt_ (.bool i) e0 rfl (eqv a7 e0)) (qR 1 rfl (rK 66 rfl (bfalse a4) (qR 2 rfl (Rn QSn (Lx (wqg_ok.2 rfl) (dU (D1 [41] [] 42 rfl (rQ rfl (pf_ (.bool f) e0 rfl (eqv i1 rfl)) (Rn QSn (Ly wn (a_ (.bool f) e0) ?_))))))))))))
          exact dU (Dz [] [] (Rn QSn (jr () ((a.k20).fc))))
        ·have a8:=someI c
         have a9:¬ i=true:=fun h=>Bool.false_ne_true (a8.trans h)
         rw [if_neg a9] at d
         have i2:=someI d
         refine dR [0,1,3,7,15,31,63,127,255,511,1023,2047,4095,8191,16383,32767,65535,131071,262143,524287,1048575,2097151,4194303,8388607,16777215,33554431,67108863,134217727,268435455,536870911,1073741823,2147483647,4294967295,8589934591,2147483647,34359738367,68719476735,137438953471,274877906943,274877906943,1099511627775,2199023255551,4398046511103] [34,35,40,42] 4 folM ?_
         replace a:=a.drew
         refine D1 [0,1,2,3,4,5,6,7,8,9,10,11,12,13,14,15,16,17,18,19,20,21,22,23,24,25,26,27,28,29,30,31,32,33] [] 34 rfl (qR 3 rfl (rK 31 rfl (dT z) (qR 2 rfl (rQ rfl (pt_ (.bool x) e0 rfl (eqv C e0)) (qR 1 rfl (rK 35 rfl B (qR 1 rfl (rQ rfl (pt_ (.bool t) e0 rfl (eqv F e0)) (qR 1 rfl (rK 38 rfl D (qR 1 rfl (rQ rfl (lb_ (iV o.1) O_3 e0 a R0) (qR 1 rfl ?_)))))))))))))
         refine rQ rfl (pt_ (.bool s) e0 rfl (eqv I e0)) (qR 1 rfl (rK 43 rfl G (qR 1 rfl (rQ rfl (lb_ (iV o.2.1) O_3 e0 a R0) (qR 1 rfl (rQ rfl (pt_ (.bool p) e0 rfl (eqv U e0)) (qR 1 rfl (rK 48 rfl J (qR 1 rfl (rQ rfl (lb_ S.v O_32 e0 a R0) (rQ rfl (yLenF SLH_32 e0 a rO3 R4) (qR 1 rfl (rQ rfl (pt_ (.bool m) e0 rfl (eqv X e0)) ?_)))))))))))))
         refine qR 1 rfl (rK 54 rfl V (qR 1 rfl (rQ rfl (yLen SL_28 e0 a (rdI F0)) (qR 1 rfl (rQ rfl (pt_ (.bool j) e0 rfl (eqv a3 e0)) (qR 1 rfl (rK 59 rfl (bfalse Z) (qR 3 rfl (Rn QSn (Lx (wqg_ok.2 rfl) (dU (D1 [] [31,32,33] 35 rfl (Rn (qS rfl (qS rfl (qS rfl QSn))) ?_)))))))))))))
         refine Lx (wqg_ok.2 rfl) (dU (D1 [36,37,38,39] [] 40 rfl (rQ rfl (pf_ (.bool i) e0 rfl (eqv a8 rfl)) (qR 1 rfl (rK 66 rfl (bfalse a9) (qR 2 rfl (Rn QSn (Lx (wqg_ok.2 rfl) (dU (D1 [41] [] 42 rfl (rQ rfl (pf_ (.bool f) e0 rfl (eqv i2 rfl)) (Rn QSn (Ly wn (a_ (.bool f) e0) ?_)))))))))))))
         exact dU (Dz [] [] (Rn QSn (jr () ((a.k20).fc))))
       ·have b0:=someI k
        have b1:¬ j=true:=fun h=>Bool.false_ne_true (b0.trans h)
        rw [if_neg b1] at c
        have b2:=someI c
        have b3:¬ i=true:=fun h=>Bool.false_ne_true (b2.trans h)
        rw [if_neg b3] at d
        have i3:=someI d
        refine dR [0,1,3,7,15,31,63,127,255,511,1023,2047,4095,8191,16383,32767,65535,131071,262143,524287,1048575,2097151,4194303,8388607,16777215,33554431,67108863,134217727,268435455,536870911,1073741823,2147483647,4294967295,8589934591,2147483647,34359738367,68719476735,137438953471,274877906943,274877906943,1099511627775,2199023255551,4398046511103] [34,35,40,42] 4 folM ?_
        replace a:=a.drew
        refine D1 [0,1,2,3,4,5,6,7,8,9,10,11,12,13,14,15,16,17,18,19,20,21,22,23,24,25,26,27,28,29,30,31,32,33] [] 34 rfl (qR 3 rfl (rK 31 rfl (dT z) (qR 2 rfl (rQ rfl (pt_ (.bool x) e0 rfl (eqv C e0)) (qR 1 rfl (rK 35 rfl B (qR 1 rfl (rQ rfl (pt_ (.bool t) e0 rfl (eqv F e0)) (qR 1 rfl (rK 38 rfl D (qR 1 rfl (rQ rfl (lb_ (iV o.1) O_3 e0 a R0) (qR 1 rfl ?_)))))))))))))
        refine rQ rfl (pt_ (.bool s) e0 rfl (eqv I e0)) (qR 1 rfl (rK 43 rfl G (qR 1 rfl (rQ rfl (lb_ (iV o.2.1) O_3 e0 a R0) (qR 1 rfl (rQ rfl (pt_ (.bool p) e0 rfl (eqv U e0)) (qR 1 rfl (rK 48 rfl J (qR 1 rfl (rQ rfl (lb_ S.v O_32 e0 a R0) (rQ rfl (yLenF SLH_32 e0 a rO3 R4) (qR 1 rfl (rQ rfl (pt_ (.bool m) e0 rfl (eqv X e0)) ?_)))))))))))))
        refine qR 1 rfl (rK 54 rfl (bfalse V) (qR 3 rfl (rQ rfl (pf_ (.bool j) e0 rfl (eqv b0 rfl)) (qR 1 rfl (rK 59 rfl (bfalse b1) (qR 3 rfl (Rn QSn (Lx (wqg_ok.2 rfl) (dU (D1 [] [31,32,33] 35 rfl (Rn (qS rfl (qS rfl (qS rfl QSn))) (Lx (wqg_ok.2 rfl) (dU ?_)))))))))))))
        refine D1 [36,37,38,39] [] 40 rfl (rQ rfl (pf_ (.bool i) e0 rfl (eqv b2 rfl)) (qR 1 rfl (rK 66 rfl (bfalse b3) (qR 2 rfl (Rn QSn (Lx (wqg_ok.2 rfl) (dU (D1 [41] [] 42 rfl (rQ rfl (pf_ (.bool f) e0 rfl (eqv i3 rfl)) (Rn QSn (Ly wn (a_ (.bool f) e0) (dU (Dz [] [] ?_)))))))))))))
        exact Rn QSn (jr () ((a.k20).fc))
      ·have b4:=someI r
       have b5:¬ m=true:=fun h=>Bool.false_ne_true (b4.trans h)
       rw [if_neg b5] at k
       have b7:=someI k
       have b8:¬ j=true:=fun h=>Bool.false_ne_true (b7.trans h)
       rw [if_neg b8] at c
       have b9:=someI c
       have c0:¬ i=true:=fun h=>Bool.false_ne_true (b9.trans h)
       rw [if_neg c0] at d
       have i4:=someI d
       refine dR [0,1,3,7,15,31,63,127,255,511,1023,2047,4095,8191,16383,32767,65535,131071,262143,524287,1048575,2097151,4194303,8388607,16777215,33554431,67108863,134217727,268435455,536870911,1073741823,2147483647,4294967295,8589934591,2147483647,34359738367,68719476735,137438953471,274877906943,274877906943,1099511627775,2199023255551,4398046511103] [34,35,40,42] 4 folM ?_
       replace a:=a.drew
       refine D1 [0,1,2,3,4,5,6,7,8,9,10,11,12,13,14,15,16,17,18,19,20,21,22,23,24,25,26,27,28,29,30,31,32,33] [] 34 rfl (qR 3 rfl (rK 31 rfl (dT z) (qR 2 rfl (rQ rfl (pt_ (.bool x) e0 rfl (eqv C e0)) (qR 1 rfl (rK 35 rfl B (qR 1 rfl (rQ rfl (pt_ (.bool t) e0 rfl (eqv F e0)) (qR 1 rfl (rK 38 rfl D (qR 1 rfl (rQ rfl (lb_ (iV o.1) O_3 e0 a R0) (qR 1 rfl ?_)))))))))))))
       refine rQ rfl (pt_ (.bool s) e0 rfl (eqv I e0)) (qR 1 rfl (rK 43 rfl G (qR 1 rfl (rQ rfl (lb_ (iV o.2.1) O_3 e0 a R0) (qR 1 rfl (rQ rfl (pt_ (.bool p) e0 rfl (eqv U e0)) (qR 1 rfl (rK 48 rfl (bfalse J) (qR 4 rfl (rQ rfl (pf_ (.bool m) e0 rfl (eqv b4 rfl)) (qR 1 rfl (rK 54 rfl (bfalse b5) (qR 3 rfl ?_)))))))))))))
       refine rQ rfl (pf_ (.bool j) e0 rfl (eqv b7 rfl)) (qR 1 rfl (rK 59 rfl (bfalse b8) (qR 3 rfl (Rn QSn (Lx (wqg_ok.2 rfl) (dU (D1 [] [31,32,33] 35 rfl (Rn (qS rfl (qS rfl (qS rfl QSn))) (Lx (wqg_ok.2 rfl) (dU (D1 [36,37,38,39] [] 40 rfl (rQ rfl (pf_ (.bool i) e0 rfl (eqv b9 rfl)) (qR 1 rfl ?_)))))))))))))
       exact rK 66 rfl (bfalse c0) (qR 2 rfl (Rn QSn (Lx (wqg_ok.2 rfl) (dU (D1 [41] [] 42 rfl (rQ rfl (pf_ (.bool f) e0 rfl (eqv i4 rfl)) (Rn QSn (Ly wn (a_ (.bool f) e0) (dU (Dz [] [] (Rn QSn (jr () ((a.k20).fc)))))))))))))
     ·have c1:=someI u
      have c2:¬ p=true:=fun h=>Bool.false_ne_true (c1.trans h)
      rw [if_neg c2] at r
      have c3:=someI r
      have c4:¬ m=true:=fun h=>Bool.false_ne_true (c3.trans h)
      rw [if_neg c4] at k
      have c5:=someI k
      have c6:¬ j=true:=fun h=>Bool.false_ne_true (c5.trans h)
      rw [if_neg c6] at c
      have c7:=someI c
      have c8:¬ i=true:=fun h=>Bool.false_ne_true (c7.trans h)
      rw [if_neg c8] at d
      have i5:=someI d
      refine dR [0,1,3,7,15,31,63,127,255,511,1023,2047,4095,8191,16383,32767,65535,131071,262143,524287,1048575,2097151,4194303,8388607,16777215,33554431,67108863,134217727,268435455,536870911,1073741823,2147483647,4294967295,8589934591,2147483647,34359738367,68719476735,137438953471,274877906943,274877906943,1099511627775,2199023255551,4398046511103] [34,35,40,42] 4 folM ?_
      replace a:=a.drew
      refine D1 [0,1,2,3,4,5,6,7,8,9,10,11,12,13,14,15,16,17,18,19,20,21,22,23,24,25,26,27,28,29,30,31,32,33] [] 34 rfl (qR 3 rfl (rK 31 rfl (dT z) (qR 2 rfl (rQ rfl (pt_ (.bool x) e0 rfl (eqv C e0)) (qR 1 rfl (rK 35 rfl B (qR 1 rfl (rQ rfl (pt_ (.bool t) e0 rfl (eqv F e0)) (qR 1 rfl (rK 38 rfl D (qR 1 rfl (rQ rfl (lb_ (iV o.1) O_3 e0 a R0) (qR 1 rfl ?_)))))))))))))
      refine rQ rfl (pt_ (.bool s) e0 rfl (eqv I e0)) (qR 1 rfl (rK 43 rfl (bfalse G) (qR 3 rfl (rQ rfl (pf_ (.bool p) e0 rfl (eqv c1 rfl)) (qR 1 rfl (rK 48 rfl (bfalse c2) (qR 4 rfl (rQ rfl (pf_ (.bool m) e0 rfl (eqv c3 rfl)) (qR 1 rfl (rK 54 rfl (bfalse c4) (qR 3 rfl (rQ rfl (pf_ (.bool j) e0 rfl (eqv c5 rfl)) (qR 1 rfl ?_)))))))))))))
      refine rK 59 rfl (bfalse c6) (qR 3 rfl (Rn QSn (Lx (wqg_ok.2 rfl) (dU (D1 [] [31,32,33] 35 rfl (Rn (qS rfl (qS rfl (qS rfl QSn))) (Lx (wqg_ok.2 rfl) (dU (D1 [36,37,38,39] [] 40 rfl (rQ rfl (pf_ (.bool i) e0 rfl (eqv c7 rfl)) (qR 1 rfl (rK 66 rfl (bfalse c8) (qR 2 rfl ?_)))))))))))))
      exact Rn QSn (Lx (wqg_ok.2 rfl) (dU (D1 [41] [] 42 rfl (rQ rfl (pf_ (.bool f) e0 rfl (eqv i5 rfl)) (Rn QSn (Ly wn (a_ (.bool f) e0) (dU (Dz [] [] (Rn QSn (jr () ((a.k20).fc)))))))))))
    ·have c9:=someI A
     have d0:¬ s=true:=fun h=>Bool.false_ne_true (c9.trans h)
     rw [if_neg d0] at u
     have d1:=someI u
     have d2:¬ p=true:=fun h=>Bool.false_ne_true (d1.trans h)
     rw [if_neg d2] at r
     have d3:=someI r
     have d4:¬ m=true:=fun h=>Bool.false_ne_true (d3.trans h)
     rw [if_neg d4] at k
     have d5:=someI k
     have d6:¬ j=true:=fun h=>Bool.false_ne_true (d5.trans h)
     rw [if_neg d6] at c
     have d7:=someI c
     have d8:¬ i=true:=fun h=>Bool.false_ne_true (d7.trans h)
     rw [if_neg d8] at d
     have i6:=someI d
     refine dR [0,1,3,7,15,31,63,127,255,511,1023,2047,4095,8191,16383,32767,65535,131071,262143,524287,1048575,2097151,4194303,8388607,16777215,33554431,67108863,134217727,268435455,536870911,1073741823,2147483647,4294967295,8589934591,2147483647,34359738367,68719476735,137438953471,274877906943,274877906943,1099511627775,2199023255551,4398046511103] [34,35,40,42] 4 folM ?_
     replace a:=a.drew
     refine D1 [0,1,2,3,4,5,6,7,8,9,10,11,12,13,14,15,16,17,18,19,20,21,22,23,24,25,26,27,28,29,30,31,32,33] [] 34 rfl (qR 3 rfl (rK 31 rfl (dT z) (qR 2 rfl (rQ rfl (pt_ (.bool x) e0 rfl (eqv C e0)) (qR 1 rfl (rK 35 rfl B (qR 1 rfl (rQ rfl (pt_ (.bool t) e0 rfl (eqv F e0)) (qR 1 rfl (rK 38 rfl (bfalse D) (qR 3 rfl (rQ rfl (pf_ (.bool s) e0 rfl (eqv c9 rfl)) (qR 1 rfl ?_)))))))))))))
     refine rK 43 rfl (bfalse d0) (qR 3 rfl (rQ rfl (pf_ (.bool p) e0 rfl (eqv d1 rfl)) (qR 1 rfl (rK 48 rfl (bfalse d2) (qR 4 rfl (rQ rfl (pf_ (.bool m) e0 rfl (eqv d3 rfl)) (qR 1 rfl (rK 54 rfl (bfalse d4) (qR 3 rfl (rQ rfl (pf_ (.bool j) e0 rfl (eqv d5 rfl)) (qR 1 rfl (rK 59 rfl (bfalse d6) (qR 3 rfl ?_)))))))))))))
     refine Rn QSn (Lx (wqg_ok.2 rfl) (dU (D1 [] [31,32,33] 35 rfl (Rn (qS rfl (qS rfl (qS rfl QSn))) (Lx (wqg_ok.2 rfl) (dU (D1 [36,37,38,39] [] 40 rfl (rQ rfl (pf_ (.bool i) e0 rfl (eqv d7 rfl)) (qR 1 rfl (rK 66 rfl (bfalse d8) (qR 2 rfl (Rn QSn (Lx (wqg_ok.2 rfl) ?_)))))))))))))
     exact dU (D1 [41] [] 42 rfl (rQ rfl (pf_ (.bool f) e0 rfl (eqv i6 rfl)) (Rn QSn (Ly wn (a_ (.bool f) e0) (dU (Dz [] [] (Rn QSn (jr () ((a.k20).fc)))))))))
   ·have d9:=someI E
    have e1:¬ t=true:=fun h=>Bool.false_ne_true (d9.trans h)
    rw [if_neg e1] at A
    have e2:=someI A
    have e3:¬ s=true:=fun h=>Bool.false_ne_true (e2.trans h)
    rw [if_neg e3] at u
    have e4:=someI u
    have e5:¬ p=true:=fun h=>Bool.false_ne_true (e4.trans h)
    rw [if_neg e5] at r
    have e6:=someI r
    have e7:¬ m=true:=fun h=>Bool.false_ne_true (e6.trans h)
    rw [if_neg e7] at k
    have e8:=someI k
    have e9:¬ j=true:=fun h=>Bool.false_ne_true (e8.trans h)
    rw [if_neg e9] at c
    have f0:=someI c
    have f1:¬ i=true:=fun h=>Bool.false_ne_true (f0.trans h)
    rw [if_neg f1] at d
    have i7:=someI d
    refine dR [0,1,3,7,15,31,63,127,255,511,1023,2047,4095,8191,16383,32767,65535,131071,262143,524287,1048575,2097151,4194303,8388607,16777215,33554431,67108863,134217727,268435455,536870911,1073741823,2147483647,4294967295,8589934591,2147483647,34359738367,68719476735,137438953471,274877906943,274877906943,1099511627775,2199023255551,4398046511103] [34,35,40,42] 4 folM ?_
    replace a:=a.drew
    refine D1 [0,1,2,3,4,5,6,7,8,9,10,11,12,13,14,15,16,17,18,19,20,21,22,23,24,25,26,27,28,29,30,31,32,33] [] 34 rfl (qR 3 rfl (rK 31 rfl (dT z) (qR 2 rfl (rQ rfl (pt_ (.bool x) e0 rfl (eqv C e0)) (qR 1 rfl (rK 35 rfl (bfalse B) (qR 1 rfl (rQ rfl (pf_ (.bool t) e0 rfl (eqv d9 rfl)) (qR 1 rfl (rK 38 rfl (bfalse e1) (qR 3 rfl (rQ rfl (pf_ (.bool s) e0 rfl (eqv e2 rfl)) (qR 1 rfl ?_)))))))))))))
    refine rK 43 rfl (bfalse e3) (qR 3 rfl (rQ rfl (pf_ (.bool p) e0 rfl (eqv e4 rfl)) (qR 1 rfl (rK 48 rfl (bfalse e5) (qR 4 rfl (rQ rfl (pf_ (.bool m) e0 rfl (eqv e6 rfl)) (qR 1 rfl (rK 54 rfl (bfalse e7) (qR 3 rfl (rQ rfl (pf_ (.bool j) e0 rfl (eqv e8 rfl)) (qR 1 rfl (rK 59 rfl (bfalse e9) (qR 3 rfl ?_)))))))))))))
    refine Rn QSn (Lx (wqg_ok.2 rfl) (dU (D1 [] [31,32,33] 35 rfl (Rn (qS rfl (qS rfl (qS rfl QSn))) (Lx (wqg_ok.2 rfl) (dU (D1 [36,37,38,39] [] 40 rfl (rQ rfl (pf_ (.bool i) e0 rfl (eqv f0 rfl)) (qR 1 rfl (rK 66 rfl (bfalse f1) (qR 2 rfl (Rn QSn (Lx (wqg_ok.2 rfl) ?_)))))))))))))
    exact dU (D1 [41] [] 42 rfl (rQ rfl (pf_ (.bool f) e0 rfl (eqv i7 rfl)) (Rn QSn (Ly wn (a_ (.bool f) e0) (dU (Dz [] [] (Rn QSn (jr () ((a.k20).fc)))))))))
  ·have f2:=someI T
   have f3:¬ x=true:=fun h=>Bool.false_ne_true (f2.trans h)
   rw [if_neg f3] at E
   have f4:=someI E
   have f5:¬ t=true:=fun h=>Bool.false_ne_true (f4.trans h)
   rw [if_neg f5] at A
   have f6:=someI A
   have f7:¬ s=true:=fun h=>Bool.false_ne_true (f6.trans h)
   rw [if_neg f7] at u
   have f8:=someI u
   have f9:¬ p=true:=fun h=>Bool.false_ne_true (f8.trans h)
   rw [if_neg f9] at r
   have g0:=someI r
   have g1:¬ m=true:=fun h=>Bool.false_ne_true (g0.trans h)
   rw [if_neg g1] at k
   have g2:=someI k
   have g3:¬ j=true:=fun h=>Bool.false_ne_true (g2.trans h)
   rw [if_neg g3] at c
   have g4:=someI c
   have g5:¬ i=true:=fun h=>Bool.false_ne_true (g4.trans h)
   rw [if_neg g5] at d
   have i8:=someI d
   refine dR [0,1,3,7,15,31,63,127,255,511,1023,2047,4095,8191,16383,32767,65535,131071,262143,524287,1048575,2097151,4194303,8388607,16777215,33554431,67108863,134217727,268435455,536870911,1073741823,2147483647,4294967295,8589934591,2147483647,34359738367,68719476735,137438953471,274877906943,274877906943,1099511627775,2199023255551,4398046511103] [34,35,40,42] 4 folM ?_
   replace a:=a.drew
   refine D1 [0,1,2,3,4,5,6,7,8,9,10,11,12,13,14,15,16,17,18,19,20,21,22,23,24,25,26,27,28,29,30,31,32,33] [] 34 rfl (qR 3 rfl (rK 31 rfl (dF z) (qR 2 rfl (rQ rfl (pf_ (.bool x) e0 rfl (eqv f2 rfl)) (qR 1 rfl (rK 35 rfl (bfalse f3) (qR 1 rfl (rQ rfl (pf_ (.bool t) e0 rfl (eqv f4 rfl)) (qR 1 rfl (rK 38 rfl (bfalse f5) (qR 3 rfl (rQ rfl (pf_ (.bool s) e0 rfl (eqv f6 rfl)) (qR 1 rfl ?_)))))))))))))
   refine rK 43 rfl (bfalse f7) (qR 3 rfl (rQ rfl (pf_ (.bool p) e0 rfl (eqv f8 rfl)) (qR 1 rfl (rK 48 rfl (bfalse f9) (qR 4 rfl (rQ rfl (pf_ (.bool m) e0 rfl (eqv g0 rfl)) (qR 1 rfl (rK 54 rfl (bfalse g1) (qR 3 rfl (rQ rfl (pf_ (.bool j) e0 rfl (eqv g2 rfl)) (qR 1 rfl (rK 59 rfl (bfalse g3) (qR 3 rfl ?_)))))))))))))
   refine Rn QSn (Lx (wqg_ok.2 rfl) (dU (D1 [] [31,32,33] 35 rfl (Rn (qS rfl (qS rfl (qS rfl QSn))) (Lx (wqg_ok.2 rfl) (dU (D1 [36,37,38,39] [] 40 rfl (rQ rfl (pf_ (.bool i) e0 rfl (eqv g4 rfl)) (qR 1 rfl (rK 66 rfl (bfalse g5) (qR 2 rfl (Rn QSn (Lx (wqg_ok.2 rfl) ?_)))))))))))))
   exact dU (D1 [41] [] 42 rfl (rQ rfl (pf_ (.bool f) e0 rfl (eqv i8 rfl)) (Rn QSn (Ly wn (a_ (.bool f) e0) (dU (Dz [] [] (Rn QSn (jr () ((a.k20).fc)))))))))
 rintro _ g w a
 refine q 2 rfl ?_
 cases b
 exact za g6 results8 ⟨rfl,a⟩
theorem sparselaw42_ProveKernel_ok {E:LI} {F G H:Int} {I:Bool} {J:Hdr} {out:Bool} (b:sparselaw42_ProveKernel E F G H I=some out) (c8:out=true) (V:imm (rI .u64) J.v E∈ros) (s:globF∈ros) (a:St w0 ros rs w):
  Calls prog 3 #[J.v,iV F,iV G,iV H,.bool I] w (fun e w=>e=.returned (.bool out)∧St w0 ros rs w):=by
 refine en func3 rfl ntmps3 fun Q t=>bE b fun c W b=>q 12 rfl (cR_ (sparselaw42_pick_ok W V s a) fun i j k w a=>yb (rAl a ZT_26) fun x w a=>sB rfl a ST_26 fun w a=>q 4 rfl (y (lbs_ [iV c.1,iV c.2.1,i.v,j.v,k.v] ST_26 e0 a R0) (bE b fun f X b=>?_)))
 replace a:=(((((a.k10).fz).k10).fz).k10).fz
 refine cO (prove_Singular_ok X F2 F1 F0 (F_3 s) a) fun p w a=>q 11 rfl (y (lbs_ [iV c.1,iV c.2.1,i.v,j.v,k.v] ST_26 e0 a R0) (bE b fun l Z b=>cO (sparseref09_Integers_ok Z F3 F2 F1 (F_4 s) a) fun r w a=>q 18 rfl (y (lb_ (iV c.1) O_3 e0 a R1) (q 2 rfl ?_))))
 refine jW 4 [11,12,13,14,15,18] [(48,.bool ((decide ((0:Int) < c.1)) && (decide ((0:Int) < c.2.1))))] (St w0 (imm I1 i.v c.2.2.1::imm I1 j.v c.2.2.2.1::imm (rI .u64) k.v c.2.2.2.2::imm (rP rB (rS (rI .u32))) p.v f.1::ros) (box x 26 [iV c.1,iV c.2.1,i.v,j.v,k.v]::row 28 (rS (rP rB (rS (rI .u32)))) r.v l.1::rs)) rfl (fun K=>?_) ?_
 ·refine gB 44 rfl (fun z=>?_) fun z=>?_
  ·exact q 1 rfl (y (lb_ (iV c.2.1) O_3 e0 a R1) (q 2 rfl (K _ _ ((a.k10).facts (allC F3 (allC F2 (allC F1 (allC F0 (allT (allT (allT (allT allI))))))))) (hasC (congrArg Value.bool (andT z)) rfl))))
  ·exact q 4 rfl (K _ _ ((a.k10).facts (allC F3 (allC F2 (allC F1 (allC F0 (allT (allT (allT (allT allI))))))))) (hasC (congrArg Value.bool (andF z)) rfl))
 intro g w a
 refine q 2 rfl ?_
 refine jC Int [11,12,13,14,15] (fun u=>[(18,iV u)]) (fun u w=>St w0 (imm I1 i.v c.2.2.1::imm I1 j.v c.2.2.2.1::imm (rI .u64) k.v c.2.2.2.2::imm (rP rB (rS (rI .u32))) p.v f.1::imm (rS (rP rB (rS (rI .u32)))) r.v l.1::ros) (box x 26 [iV c.1,iV c.2.1,i.v,j.v,k.v]::rs) w∧sparselaw42_ProveKernel_j2 f c l u=some out) rfl ?_ ?_
 ·rintro u g w ⟨a,b⟩
  refine q 7 rfl ?_
  refine jW 7 [11,12,13,15] [(60,.bool ((!(decide (f.2.2=0))) || (!(f.2.1 == (decide (u < c.2.1))))))] (St w0 (imm I1 i.v c.2.2.1::imm I1 j.v c.2.2.2.1::imm (rI .u64) k.v c.2.2.2.2::imm (rP rB (rS (rI .u32))) p.v f.1::imm (rS (rP rB (rS (rI .u32)))) r.v l.1::ros) (box x 26 [iV c.1,iV c.2.1,i.v,j.v,k.v]::rs)) rfl (fun L=>?_) ?_
  ·refine gB 53 rfl (fun A=>?_) fun A=>?_
   ·exact q 7 rfl (L _ _ a (hasC (congrArg Value.bool (orT A)) rfl))
   ·exact q 3 rfl (y (lb_ (iV c.2.1) O_3 e0 a R0) (q 1 rfl (y (yneb (by kernel_rfl) e0 e0) (q 1 rfl (L _ _ a (hasC (congrArg Value.bool (orF A)) rfl))))))
  intro g w a
  refine q 2 rfl ?_
  refine cJ b (fun a0 b=>?_) fun a0 b=>?_
  ·refine q 7 rfl ?_
   cases b
   exact za t results3 ⟨rfl,((a.k14).fc)⟩
  ·refine q 9 rfl ?_
   refine cJn b (fun a1 b=>?_) fun a1 b=>?_
   ·refine q 11 rfl (y (yLen SL_28 e0 a (rdI F3)) (q 1 rfl (y (lb_ (iV c.2.1) O_3 e0 a R0) (q 3 rfl ?_))))
    refine cIn b (fun a2 b=>?_) fun a2 b=>?_
    ·refine q 9 rfl (bE b fun N a3 b=>?_)
     refine lp a3 [12,15] (fun (B,C)=>[(19,.bool B),(20,iV C)]) (fun (B,C)=>St w0 (imm (rP rB (rS (rI .u32))) p.v f.1::imm (rS (rP rB (rS (rI .u32)))) r.v l.1::ros) rs) (fun | N=>(.exit 0,[(19,.bool N)],St w0 (imm (rP rB (rS (rI .u32))) p.v f.1::imm (rS (rP rB (rS (rI .u32)))) r.v l.1::ros) rs)) rfl ((a.k14).facts (allC F3 (allC F4 (allT (allT (allT (allT (allT allI)))))))) rfl ?_ ?_
     ·clear a
      intro g w a
      refine bE b fun a4 a5 b=>q 6 rfl (cO (sparseref08_Times_ok a5 F1 F0 a) fun a6 w a=>bE b fun a7 a8 b=>q 10 rfl ?_)
      refine lp a8 [19,21] (fun D=>[(22,iV D)]) (fun D=>St w0 ros (row 40 (rP rB (rS (rI .u32))) a6.v a4::rs)) (fun | .inl ()=>(.exit 2,[],St w0 ros rs) | .inr ()=>(.ret,[(10,.bool false)],St w0 ros rs)) rfl (a.fc) rfl ?_ ?_
      ·clear a
       intro g w a
       rcases a7 with ⟨⟩ | ⟨⟩
       ·refine q 6 rfl (bE b fun a9 m b=>?_)
        refine jW 2 [] [(107,.bool a9)] (St w0 ros rs) rfl (fun O=>?_) ?_
        ·refine gJ 105 m rfl (fun b0 m=>?_) fun b0 m=>?_
         ·refine bE m fun c9 b1 m=>cZ (sparselaw42_awake_ok b1 s a) fun w a=>q 1 rfl ?_
          cases m
          exact O _ _ a rfl
         ·refine q 2 rfl ?_
          cases m
          exact O _ _ a rfl
        intro g w a
        refine q 4 rfl ?_
        cases b
        exact za t results3 ⟨rfl,a⟩
       ·refine q 2 rfl ?_
        cases b
        exact za t results3 ⟨rfl,a⟩
      rintro D g w d0 a d
      refine q 5 rfl (y (yLen SL_28 e0 a rO0) (q 3 rfl (cI d (fun b2 d=>?_) fun b2 d=>?_)))
      ·refine q 8 rfl (bE d fun b3 R d=>y (yIa SL_28 e0 e0 a rO0 R) ?_)
       obtain ⟨d1,d2,cc81,a⟩:=a.ld rO0 R
       replace a:=a.eltP
       obtain ⟨d3,d4,rfl,a⟩:=a
       replace a:=a.eltB
       obtain ⟨rfl,a⟩:=a
       replace a:=a.eltS
       obtain ⟨b4,rfl,a⟩:=a
       refine y (yCn (cs:=[.bool b3.1,b4.v]) ST_40 rfl e0 cc81) (bE d fun d5 b5 d=>cZ (sparseref01_Sign_ok b5 F0 a) fun w a=>q 3 rfl ?_)
       refine cIn d (fun b6 d=>?_) fun b6 d=>?_
       ·refine q 8 rfl ?_
        cases d
        exact lo (a.fc)
       ·refine q 8 rfl ?_
        cases d
        exact xo ((a.k14).fc)
      ·refine q 2 rfl ?_
       cases d
       exact xo (a.k14)
     rintro ⟨B,C⟩ g w d6 a n
     refine q 5 rfl (y (yLen SL_28 e0 a (rdI F0)) (q 3 rfl (cI n (fun b7 n=>?_) fun b7 n=>?_)))
     ·refine q 7 rfl (bE n fun b8 h n=>?_)
      refine jW 7 [12,15,20] [(88,.bool b8)] (St w0 (imm (rP rB (rS (rI .u32))) p.v f.1::imm (rS (rP rB (rS (rI .u32)))) r.v l.1::ros) rs) rfl (fun S=>?_) ?_
      ·refine gJ 81 h rfl (fun b9 h=>?_) fun b9 h=>?_
       ·refine q 7 rfl ?_
        cases h
        exact S _ _ a rfl
       ·refine q 2 rfl (bE h fun c0 T h=>y (yIa SL_28 e0 e0 a (rdI F0) T) ?_)
        obtain ⟨d7,d8,a⟩:=iLd a F0 T
        obtain ⟨d9,e1,rfl,a⟩:=a.eltP
        obtain ⟨rfl,a⟩:=a.eltB
        obtain ⟨c1,rfl,a⟩:=a.eltS
        refine y (yCtn (cs:=[.bool c0.1,c1.v]) ST_40 rfl e0 a F1) (bE h fun e2 c2 h=>cZ (sparseref01_Sign_ok c2 F0 a) fun w a=>q 2 rfl ?_)
        cases h
        exact S _ _ (a.facts (allC F2 (allC F3 (allT (allT (allT (allT allI))))))) rfl
      intro g w a
      refine q 9 rfl ?_
      cases n
      exact lo a
     ·refine q 2 rfl ?_
      cases n
      exact xo a
    ·refine q 7 rfl ?_
     cases b
     exact za t results3 ⟨rfl,((a.k14).fc)⟩
   ·refine q 3 rfl (y (yLen SL_28 e0 a (rdI F3)) (bE b fun c3 o b=>q 2 rfl ?_))
    refine jW 2 [] [(68,.bool c3)] (St w0 ros rs) rfl (fun U=>?_) ?_
    ·refine gI 66 o rfl (fun c4 o=>?_) fun c4 o=>?_
     ·refine bE o fun e3 c5 o=>cZ (sparselaw42_awake_ok c5 (F_5 s) a) fun w a=>q 1 rfl ?_
      cases o
      exact U _ _ ((a.k14).fc) rfl
     ·refine q 2 rfl ?_
      cases o
      exact U _ _ ((a.k14).fc) rfl
    intro g w a
    refine q 5 rfl ?_
    cases b
    exact za t results3 ⟨rfl,a⟩
 refine cJ b (fun c6 b=>?_) fun c6 b=>?_
 ·refine q 2 rfl (bE b fun e4 c7 b=>?_)
  replace a:=(a.k10).fz
  exact cZ (sparseref08_Rank_ok c7 F0 a) fun w a=>q 2 rfl (jx _ ⟨(a.facts (allC F1 (allC F2 (allC F3 (allC F4 (allC F0 (allT (allT (allT (allT (allT allI))))))))))),b⟩)
 ·refine q 1 rfl ?_
  replace a:=(a.k10).fz
  exact jx _ ⟨(a.facts (allC F1 (allC F2 (allC F3 (allC F4 (allC F0 (allT (allT (allT (allT (allT allI))))))))))),b⟩
end Go.Proofs.YtcoaljcfifecgagGreatDoor
