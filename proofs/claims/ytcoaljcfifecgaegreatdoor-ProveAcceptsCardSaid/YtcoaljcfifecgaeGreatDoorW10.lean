/- Walks: each function computes its model, printed. -/
import Derived.Test.YtcoaljcfifecgaeGreatDoorW9
namespace Go.Proofs.YtcoaljcfifecgaeGreatDoor
open Go Sx M Go.Proofs.Tryz
set_option maxRecDepth 100000
set_option maxHeartbeats 40000000
set_option linter.unusedVariables false
attribute [local irreducible] wpList Code.wp Calls DR QR QS LA LS St row box fam imm rowS loop
variable {w0:World} {ros:List Fact} {rs:List Res} {w:World}
theorem w_d6 {t:L2} {x:Int} {A:Hdr} {out:L2} (c:m_hk t x=some out) (J:imm S1 A.v t∈ros) (a:St w0 ros rs w):
  Calls prog 20 #[A.v,iV x] w (fun e w=>∃ (B:Hdr) (C:List Hdr),e=.returned (B.v)∧St w0 ros (row 23 rH B.v C::fam 3 I1 C out::rs) w):=by
 refine en func20 rfl ntmps20 fun Q K=>bE c fun X L c=>q 8 rfl ?_
 obtain ⟨N,em5,O⟩:=mkL_rep L hnil
 refine yh (rMk a SLH_49 e0 O) fun d w a=>?_
 replace a:=(a.fReps 3 I1 N).k10
 rw [← em5] at a
 refine q 7 rfl (y (yLenF SLH_49 e0 a rO0 R1) (bE c fun D R c=>q 4 rfl ?_))
 refine lpN (List Hdr) (List Hdr) R [0,5,12] (fun (i,j) f=>[(13,iV j)]) (fun (i,j) f=>St w0 ros (row 23 rH d.v f::fam 3 I1 f i::rs)) (fun | D,k=>(.exit 0,[],St w0 ros (row 23 rH d.v k::fam 3 I1 k D::rs))) rfl _ a rfl ?_ ?_
 ·clear a
  rintro k g w a
  refine q 9 rfl ?_
  cases c
  exact K _ _ _ (fin1r results20 ⟨rfl,rfl⟩ ⟨_,_,rfl,a⟩)
 rintro ⟨i,j⟩ f g w Z a c
 refine q 6 rfl (cI c (fun S c=>?_) fun S c=>?_)
 ·refine z 1 4 ?_
  refine bE c fun E T c=>?_
  refine lpN (List Hdr) (List Hdr) T [0,5,6,12,13,16,17] (fun (m,o) h=>[(18,iV o)]) (fun (m,o) h=>St w0 ros (row 23 rH d.v h::fam 3 I1 h m::rs)) (fun | E,p=>(.exit 2,[],St w0 ros (row 23 rH d.v p::fam 3 I1 p E::rs))) rfl _ a rfl ?_ ?_
  ·clear a
   rintro p g w a
   refine q 7 rfl ?_
   cases c
   exact ln _ a
  rintro ⟨m,o⟩ h g w a0 a c
  refine q 6 rfl (cI c (fun U c=>?_) fun U c=>?_)
  ·refine z 1 0 ?_;intro a1 V c
   obtain ⟨a2,a⟩:=iLs a J V
   refine y (yCt O_23 e0 a F1 rfl) (bE c fun a3 F c=>bE c fun r G c=>bE c fun a4 W c=>bE c fun a5 H c=>q 3 rfl (dS [10,11,13] 3 folM ?_))
   replace a:=a.drew
   refine D1 1023 0 10 rfl (qR 4 rfl ?_)
   obtain ⟨a6,b⟩:=a.famI R1 F
   refine rQ rfl (yIa SLH_49 e0 e0 a rO0 b) (rQ rfl (yF1 O_23 e0 a rO0 b rfl) (qR 2 rfl (rQ rfl (yIa SL_23 e0 e0 a (rdI F0) G) (rQ rfl (yI O_3 e0 a (rdI F0) G) (Rn QSn (LH wn (rLt (n:=1) (l:=[r]) a SL_23 [iV r] (bp1 e0) rfl rfl (mks1 (cs:=[iV r]) rfl mkI mks0)) fun a7 w a=>dU (D1 0 63 11 rfl (Rn (qS rfl (qS rfl (qS rfl (qS rfl (sY rfl (yIa SLH_49 e0 e0 a rO1 b) (sY rfl (yF1 O_23 e0 a rO1 b rfl) QSn)))))) ?_))))))))
   replace a:=(a.k16).foc b F
   refine LH wn (rAp a SL_23 e0 e0 rO2 W) fun I w a=>dU (D0 4096 3 13 rfl ?_)
   obtain ⟨a8,s⟩:=setI_len (u:=I) H (a.famLx (mtR mhR))
   refine rQ rfl (yIs SLH_49 e0 e0 a rO3 s) (Rn (qS rfl (qS rfl QSn)) ?_)
   replace a:=a.k1c
   refine LT wn (r_sti (cs:=[I.v]) a O_23 rfl e0 e0 rfl (mkF rfl) s) fun w a=>?_
   replace a:=(a.k1d).unfS b s H
   refine z 1 6 ?_
   cases c
   exact ln _ ((a.k1e).fc)
  ·refine q 2 rfl ?_
   cases c
   exact lx _ a
 ·refine q 2 rfl ?_
  cases c
  exact lx _ a
instance:CL prog 20 (type_of% @w_d6):=⟨@w_d6⟩
theorem w_d7 {i b:Int} {s t u:LI} {j k l:Hdr} {out:Int×Int×LI×LI×(List (List (Bool×LI)))×Int} (c:m_hm i b s t u=some out) (U:imm I1 j.v s∈ros) (V:imm I1 k.v t∈ros) (W:imm (rI .u64) l.v u∈ros) (X:globF∈ros) (a:St w0 ros rs w):
  Calls prog 5 #[.agg #[iV i,iV b,j.v,k.v,l.v]] w (fun e w=>∃ (x A B:Hdr) (C:List Hdr),e=.returned (.tuple #[.agg #[iV out.1,iV out.2.1,x.v,A.v,B.v],iV out.2.2.2.2.2])∧St w0 ros (row 3 I1 x.v out.2.2.1::row 3 I1 A.v out.2.2.2.1::row 54 rH B.v C::fam 60 (rP rB (rS (rI .u32))) C out.2.2.2.2.1::rs) w):=by
 refine en func5 rfl ntmps5 fun Q m=>?_
 refine z 4 16 ?_;intro G w a n w a H Z c I a0 w a
 refine cIn c (fun J c=>?_) fun J c=>?_
 ·refine z 1 0 ?_
  refine bE c fun d a1 c=>?_
  replace a:=a.ffz
  refine z 6 0 ?_;intro f h w a K w a w a
  refine y (yLenF SLH_28 e0 a rO1 R2) ?_
  refine z 3 4 ?_;intro w a L a2 c N w a
  refine bE c fun O R c=>?_
  refine lpN Unit (Hdr×Hdr) R [1,2,4,7,34,35] (fun o _=>[(36,iV o)]) (fun o _=>St w0 (imm (rS (rP rB (rS (rI .u32)))) I.v H.1::ros) (box G 26 [iV i,iV b,j.v,k.v,l.v]::box n 30 [iV 0,iV 0,hnil.v,hnil.v,hnil.v]::row 54 rH f.v h::fam 60 (rP rB (rS (rI .u32))) h d::box K 30 [iV (ws .i64 b (d.length:Int)),iV 0,hnil.v,hnil.v,f.v]::row 3 I1 N.v L::rs)) (fun | .inl (),(_,_)=>(.exit 0,[],St w0 ros (box n 30 [iV 0,iV 0,hnil.v,hnil.v,hnil.v]::rs)) | .inr (D,E,F),(p,r)=>(.ret,[(3,iV 0)],St w0 ros (row 3 I1 p.v E::row 3 I1 r.v F::row 54 rH f.v h::fam 60 (rP rB (rS (rI .u32))) h d::box n 30 [iV (ws .i64 b (d.length:Int)),iV D,p.v,r.v,f.v]::rs))) rfl () (a.k1f) rfl ?_ ?_
  ·clear a
   rintro ⟨p,r⟩ g w a
   rcases O with ⟨⟩ | ⟨D,E,F⟩
   ·refine z 2 4 ?_;intro w a
    cases c
    replace a:=((((a.rowNh 3 I1).rowNh 3 I1).rowNh 54 rH).fNew 60 (rP rB (rS (rI .u32)))).k10
    exact m _ _ _ (fin2r results5 (rcs2 rfl rfl a R4 ST_30 rfl) ⟨rfl,rfl⟩ ⟨_,_,_,_,rfl,(a.k1g)⟩)
   ·refine q 2 rfl ?_
    cases c
    exact m _ _ _ (fin2r results5 (rcs2 rfl rfl a R4 ST_30 rfl) ⟨rfl,rfl⟩ ⟨_,_,_,_,rfl,(a.k1h)⟩)
  rintro o _ g w a3 a c
  refine q 6 rfl (cI c (fun S c=>?_) fun S c=>?_)
  ·refine z 3 7 ?_;intro a4 a5 c a6 a7 c a8 a9 w a
   refine bE c fun b0 b1 c=>?_
   replace a:=a.ffz
   refine z 3 3 ?_;intro b2 w a
   refine cI c (fun T c=>?_) fun T c=>?_
   ·refine z 2 1 ?_;intro b3 b4 c b5 b6 w a
    refine bE c fun b7 b8 c=>?_
    replace a:=a.ffz
    refine z 6 6 ?_;intro c0 w a w a w a w a w a
    cases c
    exact lx (_,_) ((a.k1k).fc)
   ·refine q 7 rfl ?_
    cases c
    exact ln () ((a.k1l).facts (allC F1 (allT (allT allI))))
  ·refine q 2 rfl ?_
   cases c
   exact lx (hnil,hnil) ((a.k1m).fc)
 ·refine z 2 5 ?_;intro w a
  cases c
  replace a:=((((a.rowNh 3 I1).rowNh 3 I1).rowNh 54 rH).fNew 60 (rP rB (rS (rI .u32)))).k10
  exact m _ _ _ (fin2r results5 (rcs2 rfl rfl a R4 ST_30 rfl) ⟨rfl,rfl⟩ ⟨_,_,_,_,rfl,(a.k1n)⟩)
instance:CL prog 5 (type_of% @w_d7):=⟨@w_d7⟩
theorem w_d8 {b d:Bool} {e:LI} {f:Int} {g:Hdr} {out:Int} (c:m_hn b d e f=some out) (h:imm (rI .u32) g.v e∈ros) (i:globF∈ros) (a:St w0 ros rs w):
  Calls prog 27 #[.agg #[.bool b,.bool d,g.v,iV f]] w (rv w0 ros rs (iV out)):=by
 exact en func27 rfl ntmps27 fun Q j=>vx
instance:CL prog 27 (type_of% @w_d8):=⟨@w_d8⟩
theorem w_d9 {f h:Int} {y A B:LI} {i d e:Hdr} {out:(List (Int×Int×Int))} (c:m_hq f h y A B=some out) (R:imm I1 i.v y∈ros) (C:imm I1 d.v A∈ros) (D:imm (rI .u64) e.v B∈ros) (a:St w0 ros rs w):
  Calls prog 65 #[.agg #[iV f,iV h,i.v,d.v,e.v]] w (ro w0 ros rs 92 rTi64i64u64 out):=by
 refine en func65 rfl ntmps65 fun Q E=>?_
 refine z 3 3 ?_;intro p w a S T c w a
 refine cIn c (fun J c=>?_) fun J c=>?_
 ·refine q 14 rfl (bE c fun F K c=>?_)
  replace a:=a.rowNh 92 rTi64i64u64
  refine lpN Hdr Hdr K [1] (fun (r,b) m=>[(3,m.v),(4,iV b)]) (fun (r,b) m=>St w0 ros (box p 26 [iV f,iV h,i.v,d.v,e.v]::row 92 rTi64i64u64 m.v r::rs)) (fun | F,s=>(.exit 0,[(3,s.v)],St w0 ros (row 92 rTi64i64u64 s.v F::rs))) rfl _ (a.k10) rfl ?_ ?_
  ·clear a
   rintro s g w a
   refine q 9 rfl ?_
   cases c
   exact E _ _ _ (fin1r results65 ⟨rfl,rfl⟩ ⟨_,rfl,a⟩)
  rintro ⟨r,b⟩ m g w U a c
  refine z 1 3 ?_
  refine cI c (fun L c=>?_) fun L c=>?_
  ·refine z 3 4 ?_;intro V W c
   refine bE c fun G N c=>?_
   refine lpN Hdr Hdr N [1,4] (fun (t,u) o=>[(3,o.v),(5,iV u)]) (fun (t,u) o=>St w0 ros (box p 26 [iV f,iV h,i.v,d.v,e.v]::row 92 rTi64i64u64 o.v t::rs)) (fun | G,x=>(.exit 2,[(3,x.v)],St w0 ros (box p 26 [iV f,iV h,i.v,d.v,e.v]::row 92 rTi64i64u64 x.v G::rs))) rfl _ a rfl ?_ ?_
   ·clear a
    rintro x g w a
    refine q 8 rfl ?_
    cases c
    exact ln _ a
   rintro ⟨t,u⟩ o g w X a c
   refine z 3 3 ?_;intro Z a0 c
   refine cI c (fun O c=>?_) fun O c=>?_
   ·refine q 4 rfl (bE c fun j H c=>bE c fun k I c=>bE c fun a1 a2 c=>dS [13,14,15] 3 folM ?_)
    replace a:=a.drew
    refine D1 8191 0 13 rfl (qR 2 rfl (rQ rfl (lb_ d.v O_23 e0 a R0) (qR 1 rfl (rQ rfl (yIa SL_23 e0 e0 a (rdI C) H) (rQ rfl (yI O_3 e0 a (rdI C) H) (qR 2 rfl (rQ rfl (lb_ e.v O_24 e0 a R0) (qR 1 rfl (rQ rfl (yIa SL_24 e0 e0 a (rdI D) I) (rQ rfl (yI O_44 e0 a (rdI D) I) (rQ rfl (ybuild (us:=[iV j,iV b,.int .u64 k]) [(0,iV j),(1,iV b),(2,.int .u64 k)] SO_92 (bp3 e0 e0 e0) rfl) (Rn QSn (LH wn (rLt (n:=1) (l:=[(j,b,k)]) a SL_89 [.agg #[iV j,iV b,.int .u64 k]] (bp1 e0) rfl rfl (mks1 (cs:=[iV j,iV b,.int .u64 k]) rfl (mkF rfl) mks0)) ?_)))))))))))))
    refine fun a3 w a=>dU ?_
    refine z 3 7 ?_;intro a4 w a
    cases c
    exact ln _ (a.k1o)
   ·refine q 2 rfl ?_
    cases c
    exact lx _ a
  ·refine q 2 rfl ?_
   cases c
   exact lx _ (a.k12)
 ·refine q 7 rfl ?_
  cases c
  replace a:=a.rowNh 92 rTi64i64u64
  exact E _ _ _ (fin1r results65 ⟨rfl,rfl⟩ ⟨_,rfl,(a.k11)⟩)
instance:CL prog 65 (type_of% @w_d9):=⟨@w_d9⟩
theorem w_ea {h i:Int} {B C D:LI} {j k m:Hdr} {out:L2×Int} (c:m_ht h i B C D=some out) (a7:imm I1 j.v B∈ros) (a8:imm I1 k.v C∈ros) (a9:imm (rI .u64) m.v D∈ros) (a:St w0 ros rs w):
  Calls prog 28 #[.agg #[iV h,iV i,j.v,k.v,m.v]] w (fun e w=>∃ (E:Hdr) (F:List Hdr),e=.returned (.tuple #[E.v,iV out.2])∧St w0 ros (row 24 rH E.v F::fam 44 (rI .u64) F out.1::rs) w):=by
 refine en func28 rfl ntmps28 fun Q G=>?_
 refine z 3 9 ?_;intro H w a b0 b1 c w a
 refine cIn c (fun T c=>?_) fun T c=>?_
 ·refine q 14 rfl (bE c fun I U c=>?_)
  replace a:=((a.rowNh 24 rH).fNew 44 (rI .u64)).k10
  refine lpN (Hdr×(List Hdr)) (Hdr×(List Hdr)) U [1] (fun (r,s) (o,p)=>[(5,o.v),(6,iV s)]) (fun (r,s) (o,p)=>St w0 ros (box H 26 [iV h,iV i,j.v,k.v,m.v]::row 24 rH o.v p::fam 44 (rI .u64) p r::rs)) (fun | I,(d,b)=>(.exit 0,[(5,d.v)],St w0 ros (box H 26 [iV h,iV i,j.v,k.v,m.v]::row 24 rH d.v b::fam 44 (rI .u64) b I::rs))) rfl (_,_) (a.k16) rfl ?_ ?_
  ·clear a
   rintro ⟨d,b⟩ g w a
   refine z 2 10 ?_;intro V b2 c W w a
   refine bE c fun J X c=>?_
   refine lp X [5,7] (fun (t,x)=>[(8,iV x)]) (fun (t,x)=>St w0 ros (row 24 rH d.v b::fam 44 (rI .u64) b t::row 92 rTi64i64u64 W.v V::rs)) (fun | J=>(.exit 2,[],St w0 ros (row 24 rH d.v b::fam 44 (rI .u64) b J::rs))) rfl (a.k1p) rfl ?_ ?_
   ·clear a
    intro g w a
    refine q 10 rfl ?_
    cases c
    exact G _ _ _ (fin2r results28 ⟨rfl,rfl⟩ ⟨rfl,rfl⟩ ⟨_,_,rfl,a⟩)
   rintro ⟨t,x⟩ g w b3 a c
   refine z 1 3 ?_
   refine cI c (fun Z c=>?_) fun Z c=>?_
   ·refine q 4 rfl (bE c fun a0 K c=>bE c fun b4 y c=>bE c fun a1 L c=>bE c fun N O c=>bE c fun b5 R c=>bE c fun b6 a2 c=>dS [19] 1 folM ?_)
    replace a:=a.drew
    refine D0 524287 0 19 rfl (qR 3 rfl (rQ rfl (yIa SL_89 e0 e0 a rO2 K) (rQ rfl (yFe FL_92_0 e0) (rQ rfl (yFf (u:=iV a0.1) O_3 e0 a rO2 K rfl) ?_))))
    obtain ⟨b7,f⟩:=a.famI R1 y
    refine rQ rfl (yIa SLH_67 e0 e0 a rO0 f) (rQ rfl (yF1 O_24 e0 a rO0 f rfl) (qR 2 rfl (rQ rfl (yIa SL_89 e0 e0 a rO2 L) (rQ rfl (yFe FL_92_1 e0) (rQ rfl (yFf (u:=iV a1.2.1) O_3 e0 a rO2 L rfl) (qR 2 rfl (rQ rfl (yIa SL_89 e0 e0 a rO2 O) (rQ rfl (yFe FL_92_2 e0) (rQ rfl (yFf (u:=.int .u64 N.2.2) O_44 e0 a rO2 O rfl) (rQ rfl (yIs SL_24 e0 e0 a (rdF R1 f y) R) (Rn QSn ?_)))))))))))
    replace a:=a.k10
    refine LT wn (r_sti (cs:=[.int .u64 N.2.2]) (a.foc f y) O_44 rfl e0 e0 rfl mkI R) fun w a=>?_
    replace a:=a.unfoc' f a2
    refine z 1 7 ?_
    cases c
    exact lo (a.k1q)
   ·refine q 2 rfl ?_
    cases c
    exact xo (a.k1r)
  rintro ⟨r,s⟩ ⟨o,p⟩ g w b8 a c
  refine z 1 3 ?_
  refine cI c (fun a3 c=>?_) fun a3 c=>?_
  ·refine z 1 0 ?_
   refine bE c fun a4 a5 c=>yh (rMk a SL_24 e0 a5) fun A w a=>yh (rLt (n:=1) (l:=[A]) a SLH_67 [A.v] (bp1 e0) rfl rfl (mks1 rfl (mkF rfl) mks0)) fun c0 w a=>bE c fun c1 S c=>?_
   replace a:=a.k1c
   obtain ⟨c2,ey80,a6⟩:=app_rep S (a.famL R4) (show [A].length=[a4].length from rfl)
   refine yh (rAp a SLH_67 e0 e0 rO1 a6) fun c3 w a=>?_
   replace a:=(a.k1s).fPush
   rw [← ey80,← (app_some S).1] at a
   refine q 9 rfl ?_
   cases c
   exact ln (_,_) (a.k17)
  ·refine q 2 rfl ?_
   cases c
   exact lx (_,_) a
 ·refine q 9 rfl ?_
  cases c
  replace a:=((a.rowNh 24 rH).fNew 44 (rI .u64)).k10
  exact G _ _ _ (fin2r results28 ⟨rfl,rfl⟩ ⟨rfl,rfl⟩ ⟨_,_,rfl,(a.k1r)⟩)
instance:CL prog 28 (type_of% @w_ea):=⟨@w_ea⟩
theorem w_eb {b d:Int} {W X Z:LI} {f h i:Hdr} {out:(List (List (Bool×LI)))×Int×Int} (c:m_hz b d W X Z=some out) (c3:imm I1 f.v W∈ros) (c4:imm I1 h.v X∈ros) (c5:imm (rI .u64) i.v Z∈ros) (c6:globF∈ros) (a:St w0 ros rs w):
  Calls prog 7 #[.agg #[iV b,iV d,f.v,h.v,i.v]] w (fun e w=>∃ (a0:Hdr),e=.returned (.tuple #[a0.v,iV out.2.1,iV out.2.2])∧St w0 ros (row 54 (rS (rP rB (rS (rI .u32)))) a0.v out.1::rs) w):=by
 refine en func7 rfl ntmps7 fun Q K=>?_
 refine z 3 9 ?_;intro j w a c7 c8 c w a
 refine cIn c (fun a9 c=>?_) fun a9 c=>?_
 ·refine z 1 2 ?_
  refine jW 4 [1] [(29,.bool ((decide ((16:Int) < b)) || (decide ((16:Int) < d))))] (St w0 ros (box j 26 [iV b,iV d,f.v,h.v,i.v]::rs)) rfl (fun a1=>?_) ?_
  ·refine gB 25 rfl (fun L=>?_) fun L=>?_
   ·exact q 4 rfl (a1 _ _ a (hasC (congrArg Value.bool (orT L)) rfl))
   ·refine z 1 2 ?_
    exact a1 _ _ a (hasC (congrArg Value.bool (orF L)) rfl)
  intro g w a
  refine q 2 rfl ?_
  refine cJ c (fun b0 c=>?_) fun b0 c=>?_
  ·refine q 9 rfl ?_
   cases c
   replace a:=a.rowNh 54 (rS (rP rB (rS (rI .u32))))
   exact K _ _ _ (fin3r results7 ⟨rfl,rfl⟩ ⟨rfl,rfl⟩ ⟨rfl,rfl⟩ ⟨_,rfl,(a.k11)⟩)
  ·refine q 15 rfl (bE c fun a2 b1 c=>?_)
   refine lp b1 [1] (fun (r,s,u)=>[(6,iV r),(7,.bool s),(8,iV u)]) (fun (r,s,u)=>St w0 ros (box j 26 [iV b,iV d,f.v,h.v,i.v]::rs)) (fun | a2=>(.exit 0,[(6,iV a2)],St w0 ros (box j 26 [iV b,iV d,f.v,h.v,i.v]::rs))) rfl a rfl ?_ ?_
   ·clear a
    intro g w a
    refine z 2 19 ?_;intro x c9 c A m w a
    refine bE c fun a3 b2 c=>?_
    replace a:=a.rowNh 54 (rS (rP rB (rS (rI .u32))))
    refine lpN Hdr Hdr b2 [1,6,10] (fun (p,N) o=>[(12,o.v),(13,iV N)]) (fun (p,N) o=>St w0 ros (box j 26 [iV b,iV d,f.v,h.v,i.v]::row 24 rH A.v m::fam 44 (rI .u64) m x.1::row 54 (rS (rP rB (rS (rI .u32)))) o.v p::rs)) (fun | a3,O=>(.exit 2,[(12,O.v)],St w0 ros (row 54 (rS (rP rB (rS (rI .u32)))) O.v a3::rs))) rfl _ (a.k1t) rfl ?_ ?_
    ·clear a
     rintro O g w a
     refine q 12 rfl ?_
     cases c
     exact K _ _ _ (fin3r results7 ⟨rfl,rfl⟩ ⟨rfl,rfl⟩ ⟨rfl,rfl⟩ ⟨_,rfl,a⟩)
    rintro ⟨p,N⟩ o g w d0 a c
    refine z 1 3 ?_
    refine cI c (fun b3 c=>?_) fun b3 c=>?_
    ·refine q 16 rfl (bE c fun R b4 c=>?_)
     replace a:=a.rowNh 60 (rP rB (rS (rI .u32)))
     refine lpN Hdr Hdr b4 [1,6,10,12,13] (fun (S,B) C=>[(14,C.v),(15,iV B)]) (fun (S,B) C=>St w0 ros (box j 26 [iV b,iV d,f.v,h.v,i.v]::row 24 rH A.v m::fam 44 (rI .u64) m x.1::row 54 (rS (rP rB (rS (rI .u32)))) o.v p::row 60 (rP rB (rS (rI .u32))) C.v S::rs)) (fun | R,t=>(.exit 4,[(14,t.v)],St w0 ros (box j 26 [iV b,iV d,f.v,h.v,i.v]::row 24 rH A.v m::fam 44 (rI .u64) m x.1::row 54 (rS (rP rB (rS (rI .u32)))) o.v p::row 60 (rP rB (rS (rI .u32))) t.v R::rs))) rfl _ (a.k1u) rfl ?_ ?_
     ·clear a
      rintro t g w a
      refine q 5 rfl ?_
      replace a:=(a.k1j).fz
      refine yh (rLt (n:=1) (l:=[R]) a SL_28 [t.v] (bp1 e0) rfl rfl (mks1 (cs:=[t.v]) rfl (mkS F0) mks0)) fun d1 w a=>?_
      refine z 1 9 ?_;intro d2 d3 c d4 w a
      cases c
      exact ln _ ((a.k1v).fc)
     rintro ⟨S,B⟩ C g w b5 a c
     refine z 1 3 ?_
     refine cI c (fun b6 c=>?_) fun b6 c=>?_
     ·refine q 8 rfl (bE c fun d5 T c=>?_)
      obtain ⟨d6,D⟩:=a.famI R2 T
      refine y (yIa SLH_67 e0 e0 a rO1 D) (y (yF1 O_24 e0 a rO1 D rfl) (bE c fun d7 a4 c=>q 1 rfl (y (yIa SL_24 e0 e0 a (rdF R2 D T) a4) (y (yI O_44 e0 a (rdF R2 D T) a4) ?_))))
      refine z 5 3 ?_;intro d8 d9 c e1 w a e2 w a w a e3 e4 c w a
      refine jC ((List (Bool×LI))×Hdr) [1,6,10,12,13,15] (fun (E,F)=>[(14,F.v)]) (fun (E,F) w=>St w0 ros (box j 26 [iV b,iV d,f.v,h.v,i.v]::row 24 rH A.v m::fam 44 (rI .u64) m x.1::row 54 (rS (rP rB (rS (rI .u32)))) o.v p::row 60 (rP rB (rS (rI .u32))) F.v E::rs) w∧m_hu B E=some b5) rfl ?_ ?_
      ·rintro ⟨E,F⟩ g w ⟨a,c⟩
       refine q 7 rfl ?_
       cases c
       exact ln _ a
      refine cI c (fun b7 c=>?_) fun b7 c=>?_
      ·refine z 1 0 ?_
       refine yh (rLt (n:=1) (l:=[(false,[])]) a SL_54 [.agg #[.bool false,hnil.v]] (bp1 e0) rfl rfl (mks1 (cs:=[.bool false,hnil.v]) rfl (mkP mkB mkSn) mks0)) fun e5 w a=>?_
       refine z 1 2 ?_;intro e6 e7 c e8 w a
       exact jx (_,_) ⟨((a.k1w).fc),c⟩
      ·refine z 3 0 ?_;intro G e9 c a5 w a
       replace a:=a.fz
       refine yh (rLt (n:=1) (l:=[(G.1,G.2)]) a SL_54 [.agg #[.bool G.1,a5.v]] (bp1 e0) rfl rfl (mks1 (cs:=[.bool G.1,a5.v]) rfl (mkP mkB (mkS F0)) mks0)) fun f0 w a=>?_
       refine z 1 2 ?_;intro f1 f2 c f3 w a
       exact jx (_,_) ⟨((a.k1w).fc),c⟩
     ·refine q 2 rfl ?_
      cases c
      exact lx _ a
    ·refine q 2 rfl ?_
     cases c
     exact lx _ (a.k1x)
   rintro ⟨r,s,u⟩ g w b8 a c
   refine z 2 3 ?_
   refine cI c (fun c0 c=>?_) fun c0 c=>?_
   ·refine z 8 2 ?_;intro f4 f5 c k f6 c H w a a6 w a w a c1 f7 c w a
    refine jW 9 [1,6,7,8,9] [(55,.bool ((!(decide (c1=0))) && ((!s) || (decide (k.2.2.2 < r)))))] (St w0 (imm (rI .u32) H.v k.2.2.1::ros) (box j 26 [iV b,iV d,f.v,h.v,i.v]::box a6 64 [.bool k.1,.bool k.2.1,H.v,iV k.2.2.2]::rs)) rfl (fun a7=>?_) ?_
    ·refine gB 46 rfl (fun U=>?_) fun U=>?_
     ·refine q 3 rfl ?_
      refine jW 5 [1,6,7,8,9,46] [(54,.bool ((!s) || (decide (k.2.2.2 < r))))] (St w0 (imm (rI .u32) H.v k.2.2.1::ros) (box j 26 [iV b,iV d,f.v,h.v,i.v]::box a6 64 [.bool k.1,.bool k.2.1,H.v,iV k.2.2.2]::rs)) rfl (fun a8=>?_) ?_
      ·refine gB 49 rfl (fun V=>?_) fun V=>?_
       ·exact q 5 rfl (a8 _ _ (a.k10) (hasC (congrArg Value.bool (orT V)) rfl))
       ·refine z 1 3 ?_
        exact a8 _ _ (a.k10) (hasC (congrArg Value.bool (orF V)) rfl)
      intro g w a
      exact q 1 rfl (a7 _ _ a (hasC (congrArg Value.bool (andT U)) rfl))
     ·exact q 9 rfl (a7 _ _ (a.k10) (hasC (congrArg Value.bool (andF U)) rfl))
    intro g w a
    refine q 2 rfl ?_
    refine jC (Int×Bool) [1,8] (fun (I,J)=>[(6,iV I),(7,.bool J)]) (fun (I,J) w=>St w0 ros (box j 26 [iV b,iV d,f.v,h.v,i.v]::rs) w∧m_hx u I J=some b8) rfl ?_ ?_
    ·rintro ⟨I,J⟩ g w ⟨a,c⟩
     refine q 7 rfl ?_
     cases c
     exact lo a
    refine cJ c (fun c2 c=>?_) fun c2 c=>?_
    ·refine z 1 3 ?_
     exact jx (_,_) ⟨((a.k11).fc),c⟩
    ·exact q 1 rfl (jx (_,_) ⟨((a.k11).fc),c⟩)
   ·refine q 2 rfl ?_
    cases c
    exact xo a
 ·refine q 10 rfl ?_
  cases c
  replace a:=a.rowNh 54 (rS (rP rB (rS (rI .u32))))
  exact K _ _ _ (fin3r results7 ⟨rfl,rfl⟩ ⟨rfl,rfl⟩ ⟨rfl,rfl⟩ ⟨_,rfl,(a.k11)⟩)
instance:CL prog 7 (type_of% @w_eb):=⟨@w_eb⟩
theorem w_ec {u:List (List (Bool×LI))} {x:Hdr} {out:(List (List (Bool×LI×Bool×LI)))} (c:m_h2 u=some out) (A:imm (rS (rP rB (rS (rI .u32)))) x.v u∈ros) (a:St w0 ros rs w):
  Calls prog 31 #[x.v] w (fun e w=>∃ (B:Hdr) (C:List Hdr),e=.returned (B.v)∧St w0 ros (row 118 rH B.v C::fam 72 (rP rB (rP (rS (rI .u32)) (rP rB (rS (rI .u32))))) C out::rs) w):=by
 refine en func31 rfl ntmps31 fun Q H=>bE c fun D I c=>q 17 rfl ?_
 replace a:=((a.rowNh 118 rH).fNew 72 (rP rB (rP (rS (rI .u32)) (rP rB (rS (rI .u32)))))).k10
 refine lpN (Hdr×(List Hdr)) (Hdr×(List Hdr)) I [0] (fun (h,m) (d,b)=>[(3,d.v),(4,iV m)]) (fun (h,m) (d,b)=>St w0 ros (row 118 rH d.v b::fam 72 (rP rB (rP (rS (rI .u32)) (rP rB (rS (rI .u32))))) b h::rs)) (fun | D,(o,p)=>(.exit 0,[(3,o.v)],St w0 ros (row 118 rH o.v p::fam 72 (rP rB (rP (rS (rI .u32)) (rP rB (rS (rI .u32))))) p D::rs))) rfl (_,_) a rfl ?_ ?_
 ·clear a
  rintro ⟨o,p⟩ g w a
  refine q 9 rfl ?_
  cases c
  exact H _ _ _ (fin1r results31 ⟨rfl,rfl⟩ ⟨_,_,rfl,a⟩)
 rintro ⟨h,m⟩ ⟨d,b⟩ g w V a c
 refine z 1 3 ?_
 refine cI c (fun J c=>?_) fun J c=>?_
 ·refine q 16 rfl (bE c fun r K c=>?_)
  replace a:=a.rowNh 72 (rP rB (rP (rS (rI .u32)) (rP rB (rS (rI .u32)))))
  refine lpN Hdr Hdr K [0,3,4] (fun (s,t) i=>[(5,i.v),(6,iV t)]) (fun (s,t) i=>St w0 ros (row 118 rH d.v b::fam 72 (rP rB (rP (rS (rI .u32)) (rP rB (rS (rI .u32))))) b h::row 72 (rP rB (rP (rS (rI .u32)) (rP rB (rS (rI .u32))))) i.v s::rs)) (fun | r,f=>(.exit 2,[(5,f.v)],St w0 ros (row 118 rH d.v b::fam 72 (rP rB (rP (rS (rI .u32)) (rP rB (rS (rI .u32))))) b h::row 72 (rP rB (rP (rS (rI .u32)) (rP rB (rS (rI .u32))))) f.v r::rs))) rfl _ (a.k1d) rfl ?_ ?_
  ·clear a
   rintro f g w a
   refine q 5 rfl (yh (rLt (n:=1) (l:=[f]) a SLH_75 [f.v] (bp1 e0) rfl rfl (mks1 rfl (mkF rfl) mks0)) fun W w a=>bE c fun X E c=>?_)
   replace a:=a.k10
   obtain ⟨Z,ey191,L⟩:=app_rep E (a.famL R2) (show [f].length=[r].length from rfl)
   refine yh (rAp a SLH_75 e0 e0 rO1 L) fun a0 w a=>?_
   replace a:=(a.k1y).fPush
   rw [← ey191,← (app_some E).1] at a
   refine q 9 rfl ?_
   cases c
   exact ln (_,_) (a.k1e)
  rintro ⟨s,t⟩ i g w a1 a c
  refine z 1 0 ?_;intro a2 N c
  obtain ⟨a3,a⟩:=iLs a A N
  refine y (yCt O_54 e0 a F1 rfl) ?_
  refine z 1 3 ?_
  refine cI c (fun O c=>?_) fun O c=>?_
  ·refine z 1 0 ?_;intro a4 R c
   obtain ⟨a5,a⟩:=iLs a (F_2 A) R
   refine y (yCt O_54 e0 a F1 rfl) ?_
   refine z 1 0 ?_;intro S T c
   obtain ⟨a6,a7,a⟩:=iLd a F0 T
   obtain ⟨a8,a9,rfl,a⟩:=a.eltP
   obtain ⟨rfl,a⟩:=a.eltB
   obtain ⟨U,rfl,a⟩:=a.eltS
   refine y (yCtn (cs:=[.bool S.1,U.v]) ST_60 rfl e0 a F1) ?_
   refine z 3 0 ?_;intro j b0 c F w a k b1 c G w a
   replace a:=((a.k10).fz).fz
   refine yh (rLt (n:=1) (l:=[(j.1,j.2,k.1,k.2)]) a SL_118 [.agg #[.bool j.1,F.v,.bool k.1,G.v]] (bp1 e0) rfl rfl (mks1 (cs:=[.bool j.1,F.v,.bool k.1,G.v]) rfl (mkP mkB (mkP (mkS F1) (mkP mkB (mkS F0)))) mks0)) fun b2 w a=>?_
   refine z 1 9 ?_;intro b3 b4 c b5 w a
   cases c
   exact ln _ ((a.k1p).fc)
  ·refine q 2 rfl ?_
   cases c
   exact lx _ (a.fc)
 ·refine q 2 rfl ?_
  cases c
  exact lx (_,_) a
instance:CL prog 31 (type_of% @w_ec):=⟨@w_ec⟩
theorem w_ed {b:List (List (Bool×LI))} {d:Hdr} {out:Int} (c:m_h3 b=some out) (e:imm (rS (rP rB (rS (rI .u32)))) d.v b∈ros) (a:St w0 ros rs w):
  Calls prog 32 #[d.v] w (rv w0 ros rs (iV out)):=by
 refine en func32 rfl ntmps32 fun Q g=>?_
 refine v 0 ?_
 refine ⟨vt,fun _ _ _ f c=>?_⟩
 obtain ⟨h,a⟩:=iLs a e f
 exact vx
instance:CL prog 32 (type_of% @w_ed):=⟨@w_ed⟩
theorem w_ee {b:Bool} {d:LI} {e:Bool} {f:LI} {g h:Hdr} {out:Bool} (c:m_h4 b d e f=some out) (i:imm (rI .u32) g.v d∈ros) (j:imm (rI .u32) h.v f∈ros) (a:St w0 ros rs w):
  Calls prog 70 #[.agg #[.bool b,g.v,.bool e,h.v]] w (rv w0 ros rs (.bool out)):=by
 exact en func70 rfl ntmps70 fun Q k=>vx
instance:CL prog 70 (type_of% @w_ee):=⟨@w_ee⟩
theorem w_ef {k l:LI} {m n:Hdr} {out:LI} (c:m_h7 k l=some out) (G:imm (rI .u32) m.v k∈ros) (H:imm (rI .u32) n.v l∈ros) (a:St w0 ros rs w):
  Calls prog 117 #[m.v,n.v] w (ro w0 ros rs 106 (rI .u32) out):=by
 refine en func117 rfl ntmps117 fun Q t=>?_
 refine z 2 1 ?_
 refine bE c fun I u c=>yh (rMk a SL_58 e0 u) fun b w a=>bE c fun o x c=>q 10 rfl ?_
 refine lp x [0,1,5] (fun (e,f)=>[(6,iV f)]) (fun (e,f)=>St w0 ros (row 106 (rI .u32) b.v e::rs)) (fun | o=>(.exit 0,[],St w0 ros (row 106 (rI .u32) b.v o::rs))) rfl a rfl ?_ ?_
 ·clear a
  intro g w a
  refine q 9 rfl ?_
  cases c
  exact t _ _ _ (fin1r results117 ⟨rfl,rfl⟩ ⟨_,rfl,a⟩)
 rintro ⟨e,f⟩ g w J a c
 refine z 1 3 ?_
 refine cI c (fun A c=>?_) fun A c=>?_
 ·refine q 16 rfl ?_
  obtain ⟨⟨p,h⟩,B,c⟩:=bs c
  refine lp B [0,1,5,6] (fun (i,d,j)=>[(7,.int .u64 d),(8,iV j)]) (fun (i,d,j)=>St w0 ros (row 106 (rI .u32) b.v i::rs)) (fun | (p,h)=>(.exit 2,[(7,.int .u64 h)],St w0 ros (row 106 (rI .u32) b.v p::rs))) rfl a rfl ?_ ?_
  ·clear a
   intro g w a
   refine z 1 3 ?_
   refine bE c fun K r c=>y (yIs SL_58 e0 e0 a rO0 r) (yt (r_sti (cs:=[.int .u32 (wc .u32 h)]) a O_106 rfl e0 e0 rfl mkI r) fun w a=>q 8 rfl ?_)
   cases c
   exact lo a
  rintro ⟨i,d,j⟩ g w L a c
  refine z 1 3 ?_
  refine cI c (fun C c=>?_) fun C c=>?_
  ·refine q 5 rfl (bE c fun D N c=>bE c fun E O c=>bE c fun F R c=>dS [21] 1 folM ?_)
   replace a:=a.drew
   refine z 8 9 ?_
   refine bE c fun S s c=>y (yIs SL_58 e0 e0 a rO0 s) (yt (r_sti (cs:=[.int .u32 (wc .u32 (wa .u64 (wa .u64 d (wm .u64 (wc .u64 D) (wc .u64 E))) (wc .u64 F)))]) a O_106 rfl e0 e0 rfl mkI s) fun w a=>q 14 rfl ?_)
   cases c
   exact lo a
  ·refine q 2 rfl ?_
   cases c
   exact xo a
 ·refine q 2 rfl ?_
  cases c
  exact xo a
instance:CL prog 117 (type_of% @w_ef):=⟨@w_ef⟩
theorem w_eg {b:Bool} {d:LI} {e:Bool} {f:LI} {g h:Hdr} {out:Bool×LI} (c:m_h8 b d e f=some out) (i:imm (rI .u32) g.v d∈ros) (j:imm (rI .u32) h.v f∈ros) (a:St w0 ros rs w):
  Calls prog 73 #[.agg #[.bool b,g.v],.agg #[.bool e,h.v]] w (rc w0 ros rs 106 out):=by
 exact en func73 rfl ntmps73 fun Q k=>vx
instance:CL prog 73 (type_of% @w_eg):=⟨@w_eg⟩
theorem w_eh {d r:LI} {l s:Int} {b t:Hdr} {out:LI×Bool} (c:m_ic d r l s=some out) (O:imm (rI .u32) t.v r∈ros) (a:St w0 ros (row 106 (rI .u32) b.v d::rs) w):
  Calls prog 173 #[b.v,t.v,iV l,.int .u64 s] w (fun e w=>e=.returned (.bool out.2)∧St w0 ros (row 106 (rI .u32) b.v out.1::rs) w):=by
 refine en func173 rfl ntmps173 fun Q u=>?_
 refine z 1 7 ?_
 refine bE c fun R D c=>yh (rMk a SL_58 e0 D) fun j w a=>q 16 rfl ?_
 obtain ⟨⟨m,x⟩,E,c⟩:=bs c
 refine lp E [0,1,2,3,9,10] (fun (f,h,n,k)=>[(11,.int .u64 h),(12,.int .u64 n),(13,iV k)]) (fun (f,h,n,k)=>St w0 ros (row 106 (rI .u32) b.v d::row 106 (rI .u32) j.v f::rs)) (fun | (m,x)=>(.exit 0,[(11,.int .u64 x)],St w0 ros (row 106 (rI .u32) b.v d::row 106 (rI .u32) j.v m::rs))) rfl (a.k10) rfl ?_ ?_
 ·clear a
  intro g w a
  refine q 9 rfl ?_
  refine cIn c (fun F c=>?_) fun F c=>?_
  ·refine q 9 rfl (bE c fun A G c=>?_)
   refine lp G [0,2,9,10] (fun (o,p)=>[(15,iV p)]) (fun (o,p)=>St w0 ros (row 106 (rI .u32) b.v o::row 106 (rI .u32) j.v m::rs)) (fun | A=>(.exit 2,[],St w0 ros (row 106 (rI .u32) b.v A::rs))) rfl a rfl ?_ ?_
   ·clear a
    intro g w a
    refine q 8 rfl ?_
    cases c
    exact za u results173 ⟨rfl,a⟩
   rintro ⟨o,p⟩ g w S a c
   refine q 8 rfl (cI c (fun H c=>?_) fun H c=>?_)
   ·refine z 2 0 ?_;intro I T c
    refine bE c fun U B c=>y (yIs SL_58 e0 e0 a rO0 B) (yt (r_sti (cs:=[.int .u32 I]) a O_106 rfl e0 e0 rfl mkI B) fun w a=>q 8 rfl ?_)
    cases c
    exact lo a
   ·refine q 2 rfl ?_
    cases c
    exact xo (a.k11)
  ·refine q 7 rfl ?_
   cases c
   exact za u results173 ⟨rfl,(a.k11)⟩
 rintro ⟨f,h,n,k⟩ g w J a c
 refine q 8 rfl (cI c (fun K c=>?_) fun K c=>?_)
 ·refine q 12 rfl ?_
  refine jC Int [0,1,2,3,9,10,11,13] (fun i=>[(12,.int .u64 i)]) (fun i w=>St w0 ros (row 106 (rI .u32) b.v d::row 106 (rI .u32) j.v f::rs) w∧m_ia d k l f h i=some J) rfl ?_ ?_
  ·rintro i g w ⟨a,c⟩
   refine z 2 22 ?_;intro L V c
   refine bE c fun W C c=>y (yIs SL_58 e0 e0 a rO1 C) ?_
   replace a:=a.k10
   refine yt (r_sti (cs:=[.int .u32 (wc .u32 (ws .u64 (ws .u64 (wc .u64 L) h) (wand .u64 i 4294967295)))]) a O_106 rfl e0 e0 rfl mkI C) fun w a=>q 14 rfl ?_
   cases c
   exact lo (a.k10)
  refine cI c (fun N c=>?_) fun N c=>?_
  ·refine z 2 5 ?_;intro X Z c
   exact jx _ ⟨a,c⟩
  ·exact q 1 rfl (jx _ ⟨a,c⟩)
 ·refine q 2 rfl ?_
  cases c
  exact xo a
instance:CL prog 173 (type_of% @w_eh):=⟨@w_eh⟩
theorem w_ei {p b:LI} {A B:Hdr} {out:LI×LI} (c:m_ig p b=some out) (f:imm (rI .u32) A.v p∈ros) (h:imm (rI .u32) B.v b∈ros) (a:St w0 ros rs w):
  Calls prog 169 #[A.v,B.v] w (fun e w=>∃ (C D:Hdr),e=.returned (.tuple #[C.v,D.v])∧St w0 (imm (rI .u32) D.v out.2::ros) (row 106 (rI .u32) C.v out.1::rs) w):=by
 refine en func169 rfl ntmps169 fun Q E=>bE c fun b3 O c=>q 11 rfl (cZ (w_o O f h a) fun w a=>q 3 rfl (cI c (fun R c=>?_) fun R c=>?_))
 ·refine q 9 rfl ?_
  cases c
  replace a:=a.rowNh 106 (rI .u32)
  exact E _ _ _ (fin2r results169 ⟨rfl,rfl⟩ ⟨rfl,rfl⟩ ⟨_,_,rfl,(a.facts (allC f allI))⟩)
 ·refine q 5 rfl (y (yLen SL_58 e0 a (rdI h)) (bE c fun b4 F c=>q 8 rfl (y (yIa SL_58 e0 e0 a (rdI h) F) (y (yI O_106 e0 a (rdI h) F) (bE c fun S T c=>cZ (w_c4 T a) fun w a=>bE c fun b5 U c=>bE c fun b6 V c=>bE c fun i r c=>q 4 rfl (dS [2,5,8,9] 4 folM ?_))))))
  replace a:=a.drew
  refine D1 91 0 2 rfl (qR 5 rfl (Rn QSn (kO (w_k U f a) fun W w a=>dU (D1 0 88 5 rfl (Rn (qS rfl (qS rfl (qS rfl QSn))) (kO (w_k V h a) fun j w a=>dU (D1 128 64 8 rfl ?_)))))))
  replace a:=a.fz
  refine rQ rfl (ySl (k1:=.i64) SL_58 e0 a (rdI F0) (.inr ⟨rfl,rfl⟩) (.inl (congrArg some e0)) r) ?_
  replace a:=a.sub F0 r
  refine Rn (qS rfl QSn) (Ly wn (a_ W.v e0) (dU (D1 0 192 9 rfl (Rn (qS rfl (sY rfl (ySl (k1:=.i64) SL_58 e0 a (rdI F1) (.inr ⟨rfl,rfl⟩) (.inl (congrArg some e0)) r) QSn)) (Ly wn (a_ ((subH j 1 0 (b.length:Int)).v) e0) (dU (Dw 0 0 (Rn QSn (qx 5 rfl (y (yLen SL_58 e0 a rO0) (q 1 rfl (y (yLen SL_58 e0 a (rdI (F_2 f))) (q 3 rfl ?_)))))))))))))
  refine jC (LI×Hdr) [0,6,7,9] (fun (m,d)=>[(8,d.v)]) (fun (m,d) w=>St w0 (imm (rI .u32) (subH j 1 0 (b.length:Int)).v i::ros) (row 106 (rI .u32) d.v m::rs) w∧m_if p b i S m=some out) rfl ?_ ?_
  ·rintro ⟨m,d⟩ g w ⟨a,c⟩
   refine q 4 rfl (y (yLen SL_58 e0 a (rdI (mtF f))) (bE c fun b7 X c=>q 3 rfl (yh (rMk a SL_58 e0 X) fun o w a=>q 7 rfl (y (yLen SL_58 e0 a (rdI (mtF f))) (q 6 rfl ?_)))))
   obtain ⟨⟨G,H⟩,Z,c⟩:=bs c
   refine lp Z [6,7,8,9,10] (fun (s,k,t)=>[(11,iV t)]) (fun (s,k,t)=>St w0 (imm (rI .u32) (subH j 1 0 (b.length:Int)).v i::ros) (row 106 (rI .u32) d.v s::row 106 (rI .u32) o.v k::rs)) (fun | (G,H)=>(.exit 0,[],St w0 ros (row 106 (rI .u32) d.v G::row 106 (rI .u32) o.v H::rs))) rfl (a.k10) rfl ?_ ?_
   ·clear a
    intro g w a
    refine bE c fun b8 a0 c=>q 5 rfl ?_
    replace a:=a.fz
    refine cO (w_d a0 F0 a) fun b9 w a=>bE c fun c0 a1 c=>q 1 rfl ?_
    replace a:=a.fz
    refine cO (w_l a1 F0 a) fun c1 w a=>bE c fun c2 a2 c=>q 10 rfl ?_
    replace a:=(a.k10).fz
    refine cO (w_d a2 F0 a) fun c3 w a=>bE c fun c4 a3 c=>q 1 rfl ?_
    replace a:=(a.k10).fz
    refine cO (w_d a3 F0 a) fun c5 w a=>q 5 rfl ?_
    cases c
    replace a:=a.fz
    exact E _ _ _ (fin2r results169 ⟨rfl,rfl⟩ ⟨rfl,rfl⟩ ⟨_,_,rfl,(a.facts (allC F0 (allT (allT (allT (allT (allT allI)))))))⟩)
   rintro ⟨s,k,t⟩ g w c7 a c
   refine q 7 rfl (cI c (fun a4 c=>?_) fun a4 c=>?_)
   ·refine q 5 rfl (bE c fun a5 I c=>bE c fun a6 J c=>dS [17] 1 folM ?_)
    replace a:=a.drew
    refine D1 131071 0 17 rfl (qR 4 rfl (rQ rfl (yIa SL_58 e0 e0 a rO0 I) (rQ rfl (yI O_106 e0 a rO0 I) (qR 7 rfl (rQ rfl (yIa SL_58 e0 e0 a rO0 J) (rQ rfl (yI O_106 e0 a rO0 J) (qR 2 rfl (Rn QSn (Ly wn (a_ (.int .u64 (wor .u64 (wslc .u64 (wc .u64 a5) 32) (wc .u64 a6))) e0) (dU (Dw 0 0 (Rn QSn (bE c fun c8 K c=>?_)))))))))))))
    refine qx 7 rfl (y (yIa SL_58 e0 e0 a (rdI F0) K) (y (yI O_106 e0 a (rdI F0) K) (bE c fun c9 a7 c=>q 1 rfl (y (yquo e0 e0 a7) (q 6 rfl ?_)))))
    obtain ⟨⟨L,u⟩,a8,c⟩:=bs c
    refine lp a8 [6,7,8,9,10,11] (fun (x,z)=>[(13,.int .u64 z)]) (fun (x,z)=>St w0 (imm (rI .u32) (subH j 1 0 (b.length:Int)).v i::ros) (row 106 (rI .u32) d.v x::row 106 (rI .u32) o.v k::rs)) (fun | (L,u)=>(.exit 2,[(13,.int .u64 u)],St w0 (imm (rI .u32) (subH j 1 0 (b.length:Int)).v i::ros) (row 106 (rI .u32) d.v L::row 106 (rI .u32) o.v k::rs))) rfl a rfl ?_ ?_
    ·clear a
     intro g w a
     refine bE c fun d0 N c=>q 7 rfl (y (yIs SL_58 e0 e0 a rO1 N) ?_)
     replace a:=a.k10
     refine yt (r_sti (cs:=[.int .u32 (wc .u32 u)]) a O_106 rfl e0 e0 rfl mkI N) fun w a=>q 8 rfl ?_
     cases c
     exact lo (a.k10)
    rintro ⟨x,z⟩ g w d1 a c
    refine bE c fun d2 a9 c=>q 7 rfl (cZ (w_eh a9 F0 a) fun w a=>q 3 rfl ?_)
    refine cJn c (fun b0 c=>?_) fun b0 c=>?_
    ·refine q 2 rfl ?_
     cases c
     exact xo a
    ·refine q 9 rfl ?_
     cases c
     exact lo a
   ·refine q 2 rfl ?_
    cases c
    exact xo (a.fc)
  refine cI c (fun b1 c=>?_) fun b1 c=>?_
  ·refine q 2 rfl (yh (rLt (n:=1) (l:=[0]) a SL_58 [.int .u32 0] (bp1 rfl) rfl rfl (mks1 (cs:=[.int .u32 0]) rfl mkI mks0)) fun d3 w a=>bE c fun d4 b2 c=>?_)
   replace a:=a.k10
   exact yh (rAp a SL_58 e0 e0 rO1 b2) fun d5 w a=>q 2 rfl (jx (_,_) ⟨((a.k11).facts (allC F0 (allT (allT allI)))),c⟩)
  ·exact q 1 rfl (jx (_,_) ⟨(a.facts (allC F0 (allT (allT allI)))),c⟩)
instance:CL prog 169 (type_of% @w_ei):=⟨@w_ei⟩
theorem w_ej {K:Bool} {R:LI} {C:Bool} {S:LI} {L D:Hdr} {out:Bool×LI×Bool×LI} (c:m_ij K R C S=some out) (a1:imm (rI .u32) L.v R∈ros) (a2:imm (rI .u32) D.v S∈ros) (a:St w0 ros rs w):
  Calls prog 155 #[.agg #[.bool K,L.v],.agg #[.bool C,D.v]] w (fun e w=>∃ (T U:Hdr),e=.returned (.tuple #[.agg #[.bool out.1,T.v],.agg #[.bool out.2.2.1,U.v]])∧St w0 (imm (rI .u32) U.v out.2.2.2::ros) (row 106 (rI .u32) T.v out.2.1::rs) w):=by
 refine en func155 rfl ntmps155 fun Q a3=>?_
 refine z 4 3 ?_;intro b5 w a a4 w a N w a O w a
 refine bE c fun i a5 c=>bE c fun k a6 c=>dS [1,3,4,5] 4 folM ?_
 replace a:=a.drew
 refine D1 5 0 1 rfl (rQ rfl (lbs_ [.bool K,L.v] ST_60 e0 a R3) (rQ rfl (lbs_ [.bool C,D.v] ST_60 e0 a R2) (Rn QSn (kO (w_g a5 a1 a) fun V w a=>dU (D1 0 4 3 rfl (Rn (sY rfl (lbs_ [.bool C,D.v] ST_60 e0 a R3) QSn) (kO (w_g a6 a2 a) fun y w a=>dU (D0 0 0 4 rfl (Rn QSn ?_)))))))))
 replace a:=a.k1z
 refine LT wn (r_stbn (vals':=[.bool i.1,V.v]) (us:=[.bool i.1,V.v]) a ST_60 e0 e0 rfl rfl (one_of rfl) rfl) fun w a=>D0 0 0 5 rfl (Rn QSn ?_)
 replace a:=a.k1z
 refine LT wn (r_stbn (vals':=[.bool k.1,y.v]) (us:=[.bool k.1,y.v]) a ST_60 e0 e0 rfl rfl (one_of rfl) rfl) fun w a=>Dw 0 0 (Rn QSn (qx 0 rfl ?_))
 refine z 3 8 ?_;intro b6 c0 c c1 c2 w a
 refine bE c fun d A c=>bE c fun f j c=>?_
 refine jN (Nat×Hdr×Nat×Hdr) [3,4,5] (fun (t,l,u,x)=>[(8,(pB t)),(9,(pB u))]) (fun (t,l,u,x)=>St w0 (imm (rI .u32) y.v k.2::ros) (box a4 60 [.bool k.1,y.v]::box N 60 [.bool false,hnil.v]::box O 60 [.bool false,hnil.v]::row 106 (rI .u32) l.v d.2::box t 60 [.bool d.1,l.v]::row 106 (rI .u32) x.v f.2::box u 60 [.bool f.1,x.v]::rs)) rfl ?_ ?_
 ·refine dS [6,10,11,12,13,14] 6 folM ?_
  replace a:=a.drew
  refine Dm 959 0 [6,11,12] (qR 1 rfl (rQ rfl (lb_ (.bool i.1) O_4 e0 a R2) (qR 1 rfl (rQ rfl (lb_ (.bool k.1) O_4 e0 a R1) (rQ rfl (yneb (by kernel_rfl) e0 e0) (qR 2 rfl (rQ rfl (lb_ (.bool i.1) O_4 e0 a R2) (qR 1 rfl (Rn QSn ?_)))))))))
  refine La1 rfl ?_ (La1 rfl ?_ (La1 rfl ?_ LAn))
  ·replace a:=a.fz
   refine kO (w_e A F0 a) fun h w a=>dU (Dm 0 896 [10,11,12] (Rn (qS rfl (sY rfl (lb_ (.bool i.1) O_4 e0 a R2) (qS rfl QSn))) ?_))
   refine La1 rfl ?_ (La1 rfl ?_ (La1 rfl ?_ LAn))
   ·refine kO (w_e j F1 a) fun b w a=>dU (Dm 0 0 [11,12] (Rn QSn ?_))
    refine La1 rfl ?_ (La1 rfl ?_ LAn)
    ·refine LB wn (rAl a ZT_60) fun m w a=>dU (D1 0 0 12 rfl (Rn QSn (LB wn (rAl a ZT_60) fun n w a=>dU (D0 0 0 13 rfl (Rn QSn ?_)))))
     replace a:=a.k10
     refine LT wn (r_stbn (vals':=[.bool d.1,h.v]) (us:=[.bool d.1,h.v]) a ST_60 e0 e0 rfl rfl (one_of rfl) rfl) fun w a=>D0 0 0 14 rfl (Rn QSn ?_)
     replace a:=a.k10
     exact LT wn (r_stbn (vals':=[.bool f.1,b.v]) (us:=[.bool f.1,b.v]) a ST_60 e0 e0 rfl rfl (one_of rfl) rfl) fun w a=>Dw 0 0 (Rn QSn (jr (_,_,_,_) ((a.k20).facts (allC F2 (allT (allT (allT (allT allI))))))))
    ·refine LB wn (rAl a ZT_60) fun n w a=>dU (D1 0 0 11 rfl (Rn QSn (LB wn (rAl a ZT_60) fun m w a=>dU (D0 0 0 13 rfl (Rn QSn (LT wn (r_stbn (vals':=[.bool d.1,h.v]) (us:=[.bool d.1,h.v]) a ST_60 e0 e0 rfl rfl (one_of rfl) rfl) fun w a=>D0 0 0 14 rfl (Rn QSn ?_)))))))
     replace a:=a.k10
     exact LT wn (r_stbn (vals':=[.bool f.1,b.v]) (us:=[.bool f.1,b.v]) a ST_60 e0 e0 rfl rfl (one_of rfl) rfl) fun w a=>Dw 0 0 (Rn QSn (jr (_,_,_,_) ((a.k20).facts (allC F2 (allT (allT (allT (allT allI))))))))
   ·refine LB wn (rAl a ZT_60) fun m w a=>dU (Dm 0 896 [10,12] (Rn (qS rfl (sY rfl (lb_ (.bool i.1) O_4 e0 a R3) (qS rfl QSn))) ?_))
    refine La1 rfl ?_ (La1 rfl ?_ LAn)
    ·refine kO (w_e j F1 a) fun b w a=>dU (D1 0 0 12 rfl (Rn QSn (LB wn (rAl a ZT_60) fun n w a=>dU (D0 0 0 13 rfl (Rn QSn ?_)))))
     replace a:=a.k16
     refine LT wn (r_stbn (vals':=[.bool d.1,h.v]) (us:=[.bool d.1,h.v]) a ST_60 e0 e0 rfl rfl (one_of rfl) rfl) fun w a=>D0 0 0 14 rfl (Rn QSn ?_)
     replace a:=a.k10
     exact LT wn (r_stbn (vals':=[.bool f.1,b.v]) (us:=[.bool f.1,b.v]) a ST_60 e0 e0 rfl rfl (one_of rfl) rfl) fun w a=>Dw 0 0 (Rn QSn (jr (_,_,_,_) ((a.k20).facts (allC F2 (allT (allT (allT (allT allI))))))))
    ·refine LB wn (rAl a ZT_60) fun n w a=>dU (D1 0 896 10 rfl (Rn (qS rfl (sY rfl (lb_ (.bool i.1) O_4 e0 a R4) (qS rfl QSn))) (kO (w_e j F1 a) fun b w a=>dU (D0 0 0 13 rfl (Rn QSn ?_)))))
     replace a:=a.k16
     refine LT wn (r_stbn (vals':=[.bool d.1,h.v]) (us:=[.bool d.1,h.v]) a ST_60 e0 e0 rfl rfl (one_of rfl) rfl) fun w a=>D0 0 0 14 rfl (Rn QSn ?_)
     replace a:=a.k16
     exact LT wn (r_stbn (vals':=[.bool f.1,b.v]) (us:=[.bool f.1,b.v]) a ST_60 e0 e0 rfl rfl (one_of rfl) rfl) fun w a=>Dw 0 0 (Rn QSn (jr (_,_,_,_) ((a.k20).facts (allC F2 (allT (allT (allT (allT allI))))))))
   ·refine LB wn (rAl a ZT_60) fun n w a=>dU (Dm 0 896 [10,11] (Rn (qS rfl (sY rfl (lb_ (.bool i.1) O_4 e0 a R3) (qS rfl QSn))) ?_))
    refine La1 rfl ?_ (La1 rfl ?_ LAn)
    ·refine kO (w_e j F1 a) fun b w a=>dU (D1 0 0 11 rfl (Rn QSn (LB wn (rAl a ZT_60) fun m w a=>dU (D0 0 0 13 rfl (Rn QSn (LT wn (r_stbn (vals':=[.bool d.1,h.v]) (us:=[.bool d.1,h.v]) a ST_60 e0 e0 rfl rfl (one_of rfl) rfl) fun w a=>D0 0 0 14 rfl (Rn QSn ?_)))))))
     replace a:=a.k16
     exact LT wn (r_stbn (vals':=[.bool f.1,b.v]) (us:=[.bool f.1,b.v]) a ST_60 e0 e0 rfl rfl (one_of rfl) rfl) fun w a=>Dw 0 0 (Rn QSn (jr (_,_,_,_) ((a.k20).facts (allC F2 (allT (allT (allT (allT allI))))))))
    ·refine LB wn (rAl a ZT_60) fun m w a=>dU (D1 0 896 10 rfl (Rn (qS rfl (sY rfl (lb_ (.bool i.1) O_4 e0 a R4) (qS rfl QSn))) (kO (w_e j F1 a) fun b w a=>dU (D0 0 0 13 rfl (Rn QSn ?_)))))
     replace a:=a.k10
     refine LT wn (r_stbn (vals':=[.bool d.1,h.v]) (us:=[.bool d.1,h.v]) a ST_60 e0 e0 rfl rfl (one_of rfl) rfl) fun w a=>D0 0 0 14 rfl (Rn QSn ?_)
     replace a:=a.k16
     exact LT wn (r_stbn (vals':=[.bool f.1,b.v]) (us:=[.bool f.1,b.v]) a ST_60 e0 e0 rfl rfl (one_of rfl) rfl) fun w a=>Dw 0 0 (Rn QSn (jr (_,_,_,_) ((a.k20).facts (allC F2 (allT (allT (allT (allT allI))))))))
  ·refine LB wn (rAl a ZT_60) fun m w a=>dU (Dm 0 959 [6,12] (Rn (qS rfl (sY rfl (lb_ (.bool i.1) O_4 e0 a R3) (qS rfl (sY rfl (lb_ (.bool k.1) O_4 e0 a R2) (sY rfl (yneb (by kernel_rfl) e0 e0) (qS rfl (qS rfl (sY rfl (lb_ (.bool i.1) O_4 e0 a R3) (qS rfl QSn))))))))) ?_))
   refine La1 rfl ?_ (La1 rfl ?_ LAn)
   ·replace a:=a.k10
    replace a:=a.fz
    refine kO (w_e A F0 a) fun h w a=>dU (Dm 0 896 [10,12] (Rn (qS rfl (sY rfl (lb_ (.bool i.1) O_4 e0 a R3) (qS rfl QSn))) ?_))
    refine La1 rfl ?_ (La1 rfl ?_ LAn)
    ·refine kO (w_e j F1 a) fun b w a=>dU (D1 0 0 12 rfl (Rn QSn (LB wn (rAl a ZT_60) fun n w a=>dU (D0 0 0 13 rfl (Rn QSn ?_)))))
     replace a:=a.k1c
     refine LT wn (r_stbn (vals':=[.bool d.1,h.v]) (us:=[.bool d.1,h.v]) a ST_60 e0 e0 rfl rfl (one_of rfl) rfl) fun w a=>D0 0 0 14 rfl (Rn QSn ?_)
     replace a:=a.k10
     exact LT wn (r_stbn (vals':=[.bool f.1,b.v]) (us:=[.bool f.1,b.v]) a ST_60 e0 e0 rfl rfl (one_of rfl) rfl) fun w a=>Dw 0 0 (Rn QSn (jr (_,_,_,_) ((a.k20).facts (allC F2 (allT (allT (allT (allT allI))))))))
    ·refine LB wn (rAl a ZT_60) fun n w a=>dU (D1 0 896 10 rfl (Rn (qS rfl (sY rfl (lb_ (.bool i.1) O_4 e0 a R4) (qS rfl QSn))) (kO (w_e j F1 a) fun b w a=>dU (D0 0 0 13 rfl (Rn QSn ?_)))))
     replace a:=a.k1c
     refine LT wn (r_stbn (vals':=[.bool d.1,h.v]) (us:=[.bool d.1,h.v]) a ST_60 e0 e0 rfl rfl (one_of rfl) rfl) fun w a=>D0 0 0 14 rfl (Rn QSn ?_)
     replace a:=a.k16
     exact LT wn (r_stbn (vals':=[.bool f.1,b.v]) (us:=[.bool f.1,b.v]) a ST_60 e0 e0 rfl rfl (one_of rfl) rfl) fun w a=>Dw 0 0 (Rn QSn (jr (_,_,_,_) ((a.k20).facts (allC F2 (allT (allT (allT (allT allI))))))))
   ·refine LB wn (rAl a ZT_60) fun n w a=>dU (D1 0 959 6 rfl (Rn (qS rfl (sY rfl (lb_ (.bool i.1) O_4 e0 a R4) (qS rfl (sY rfl (lb_ (.bool k.1) O_4 e0 a R3) (sY rfl (yneb (by kernel_rfl) e0 e0) (qS rfl (qS rfl (sY rfl (lb_ (.bool i.1) O_4 e0 a R4) (qS rfl QSn))))))))) ?_))
    replace a:=(a.k16).fz
    refine kO (w_e A F0 a) fun h w a=>dU (D1 0 896 10 rfl (Rn (qS rfl (sY rfl (lb_ (.bool i.1) O_4 e0 a R4) (qS rfl QSn))) (kO (w_e j F1 a) fun b w a=>dU (D0 0 0 13 rfl (Rn QSn ?_)))))
    replace a:=a.k1c
    refine LT wn (r_stbn (vals':=[.bool d.1,h.v]) (us:=[.bool d.1,h.v]) a ST_60 e0 e0 rfl rfl (one_of rfl) rfl) fun w a=>D0 0 0 14 rfl (Rn QSn ?_)
    replace a:=a.k1c
    exact LT wn (r_stbn (vals':=[.bool f.1,b.v]) (us:=[.bool f.1,b.v]) a ST_60 e0 e0 rfl rfl (one_of rfl) rfl) fun w a=>Dw 0 0 (Rn QSn (jr (_,_,_,_) ((a.k20).facts (allC F2 (allT (allT (allT (allT allI))))))))
  ·refine LB wn (rAl a ZT_60) fun n w a=>dU (Dm 0 959 [6,11] (Rn (qS rfl (sY rfl (lb_ (.bool i.1) O_4 e0 a R3) (qS rfl (sY rfl (lb_ (.bool k.1) O_4 e0 a R2) (sY rfl (yneb (by kernel_rfl) e0 e0) (qS rfl (qS rfl (sY rfl (lb_ (.bool i.1) O_4 e0 a R3) (qS rfl QSn))))))))) ?_))
   refine La1 rfl ?_ (La1 rfl ?_ LAn)
   ·replace a:=a.k10
    replace a:=a.fz
    refine kO (w_e A F0 a) fun h w a=>dU (Dm 0 896 [10,11] (Rn (qS rfl (sY rfl (lb_ (.bool i.1) O_4 e0 a R3) (qS rfl QSn))) ?_))
    refine La1 rfl ?_ (La1 rfl ?_ LAn)
    ·refine kO (w_e j F1 a) fun b w a=>dU (D1 0 0 11 rfl (Rn QSn (LB wn (rAl a ZT_60) fun m w a=>dU (D0 0 0 13 rfl (Rn QSn (LT wn (r_stbn (vals':=[.bool d.1,h.v]) (us:=[.bool d.1,h.v]) a ST_60 e0 e0 rfl rfl (one_of rfl) rfl) fun w a=>D0 0 0 14 rfl (Rn QSn ?_)))))))
     replace a:=a.k1c
     exact LT wn (r_stbn (vals':=[.bool f.1,b.v]) (us:=[.bool f.1,b.v]) a ST_60 e0 e0 rfl rfl (one_of rfl) rfl) fun w a=>Dw 0 0 (Rn QSn (jr (_,_,_,_) ((a.k20).facts (allC F2 (allT (allT (allT (allT allI))))))))
    ·refine LB wn (rAl a ZT_60) fun m w a=>dU (D1 0 896 10 rfl (Rn (qS rfl (sY rfl (lb_ (.bool i.1) O_4 e0 a R4) (qS rfl QSn))) (kO (w_e j F1 a) fun b w a=>dU (D0 0 0 13 rfl (Rn QSn ?_)))))
     replace a:=a.k10
     refine LT wn (r_stbn (vals':=[.bool d.1,h.v]) (us:=[.bool d.1,h.v]) a ST_60 e0 e0 rfl rfl (one_of rfl) rfl) fun w a=>D0 0 0 14 rfl (Rn QSn ?_)
     replace a:=a.k1c
     exact LT wn (r_stbn (vals':=[.bool f.1,b.v]) (us:=[.bool f.1,b.v]) a ST_60 e0 e0 rfl rfl (one_of rfl) rfl) fun w a=>Dw 0 0 (Rn QSn (jr (_,_,_,_) ((a.k20).facts (allC F2 (allT (allT (allT (allT allI))))))))
   ·refine LB wn (rAl a ZT_60) fun m w a=>dU (D1 0 959 6 rfl (Rn (qS rfl (sY rfl (lb_ (.bool i.1) O_4 e0 a R4) (qS rfl (sY rfl (lb_ (.bool k.1) O_4 e0 a R3) (sY rfl (yneb (by kernel_rfl) e0 e0) (qS rfl (qS rfl (sY rfl (lb_ (.bool i.1) O_4 e0 a R4) (qS rfl QSn))))))))) ?_))
    replace a:=(a.k16).fz
    refine kO (w_e A F0 a) fun h w a=>dU (D1 0 896 10 rfl (Rn (qS rfl (sY rfl (lb_ (.bool i.1) O_4 e0 a R4) (qS rfl QSn))) (kO (w_e j F1 a) fun b w a=>dU (D0 0 0 13 rfl (Rn QSn ?_)))))
    replace a:=a.k16
    refine LT wn (r_stbn (vals':=[.bool d.1,h.v]) (us:=[.bool d.1,h.v]) a ST_60 e0 e0 rfl rfl (one_of rfl) rfl) fun w a=>D0 0 0 14 rfl (Rn QSn ?_)
    replace a:=a.k1c
    exact LT wn (r_stbn (vals':=[.bool f.1,b.v]) (us:=[.bool f.1,b.v]) a ST_60 e0 e0 rfl rfl (one_of rfl) rfl) fun w a=>Dw 0 0 (Rn QSn (jr (_,_,_,_) ((a.k20).facts (allC F2 (allT (allT (allT (allT allI))))))))
 rintro ⟨t,l,u,x⟩ g w a
 refine z 2 3 ?_;intro c3 c4 c w a
 refine jC (Bool×LI×Bool×LI×Hdr×Hdr) [4,5,8,9] (fun (r,E,o,F,s,p)=>[]) (fun (r,E,o,F,s,p) w=>St w0 (imm (rI .u32) p.v F::ros) (box N 60 [.bool false,hnil.v]::box O 60 [.bool false,hnil.v]::row 106 (rI .u32) s.v E::box t 60 [.bool r,s.v]::box u 60 [.bool o,p.v]::rs) w∧m_ih r E o F=some out) rfl ?_ ?_
 ·rintro ⟨r,E,o,F,s,p⟩ g w ⟨a,c⟩
  refine q 2 rfl (dS [2,3] 2 folM ?_)
  replace a:=a.drew
  refine D0 3 0 2 rfl (rQ rfl (lbs_ [.bool r,s.v] ST_60 e0 a R3) (rQ rfl (lbs_ [.bool o,p.v] ST_60 e0 a R4) (Rn QSn (LT wn (r_stbn (vals':=[.bool r,s.v]) (us:=[.bool r,s.v]) a ST_60 e0 e0 rfl rfl (one_of rfl) rfl) fun w a=>D0 0 2 3 rfl (Rn (sY rfl (lbs_ [.bool o,p.v] ST_60 e0 a R4) QSn) ?_)))))
  replace a:=a.k10
  refine LT wn (r_stbn (vals':=[.bool o,p.v]) (us:=[.bool o,p.v]) a ST_60 e0 e0 rfl rfl (one_of rfl) rfl) fun w a=>Dw 0 0 (Rn QSn (qx 2 rfl ?_))
  cases c
  exact a3 _ _ _ (fin2r results155 (rcs2 rfl rfl a R1 ST_60 rfl) (rcs2 rfl rfl a R0 ST_60 rfl) ⟨_,_,rfl,(a.k21)⟩)
 refine cI c (fun a7 c=>?_) fun a7 c=>?_
 ·refine q 1 rfl (bE c fun c5 a8 c=>bE c fun B a9 c=>dS [2,3,4] 3 folM ?_)
  replace a:=a.drew
  refine D1 3 0 2 rfl (rQ rfl (lbs_ [.bool f.1,x.v] ST_60 e0 a R5) (rQ rfl (lbs_ [.bool k.1,y.v] ST_60 e0 a R0) (Rn QSn (kO (w_j a8 F1 a) fun c6 w a=>dU (D1 0 1 3 rfl (Rn (sY rfl (lbs_ [.bool f.1,x.v] ST_60 e0 a R6) QSn) ?_))))))
  replace a:=a.fz
  refine kO (w_q a9 F1 F0 a) fun G w a=>dU (D0 0 0 4 rfl (Rn QSn ?_))
  replace a:=a.k1i
  refine LT wn (r_stbn (vals':=[.bool B.1,G.v]) (us:=[.bool B.1,G.v]) a ST_60 e0 e0 rfl rfl (one_of rfl) rfl) fun w a=>Dw 0 0 (Rn QSn (qx 0 rfl ?_))
  refine z 1 2 ?_
  refine jC (Bool×LI×Hdr) [4,5,8,9] (fun (H,I,J)=>[]) (fun (H,I,J) w=>St w0 ros (box N 60 [.bool false,hnil.v]::box O 60 [.bool false,hnil.v]::row 106 (rI .u32) J.v I::box t 60 [.bool H,J.v]::row 106 (rI .u32) G.v B.2::box u 60 [.bool B.1,G.v]::rs) w∧m_ii B H I=some out) rfl ?_ ?_
  ·rintro ⟨H,I,J⟩ g w ⟨a,c⟩
   replace a:=(a.k1j).fz
   exact jx (_,_,_,_,_,_) ⟨a,c⟩
  refine cJ c (fun b0 c=>?_) fun b0 c=>?_
  ·refine bE c fun c7 b1 c=>bE c fun W b2 c=>dS [1,2,3] 3 folM ?_
   replace a:=a.drew
   refine D1 1 0 1 rfl (rQ rfl (lbs_ [.bool d.1,l.v] ST_60 e0 a R6) (Rn QSn (kO (w_f b1 a) fun c8 w a=>dU (D1 0 1 2 rfl (Rn (sY rfl (lbs_ [.bool d.1,l.v] ST_60 e0 a R7) QSn) ?_)))))
   replace a:=((a.k1i).fz).fz
   refine kO (w_q b2 F1 F0 a) fun X w a=>dU (D0 0 0 3 rfl (Rn QSn ?_))
   replace a:=a.k1i
   exact LT wn (r_stbn (vals':=[.bool W.1,X.v]) (us:=[.bool W.1,X.v]) a ST_60 e0 e0 rfl rfl (one_of rfl) rfl) fun w a=>Dw 0 0 (Rn QSn (qx 0 rfl (jx (_,_,_) ⟨((a.k22).fc),c⟩)))
  ·refine bE c fun c9 b3 c=>bE c fun Z b4 c=>dS [1,2,3] 3 folM ?_
   replace a:=a.drew
   refine D1 1 0 1 rfl (rQ rfl (lbs_ [.bool d.1,l.v] ST_60 e0 a R6) (Rn QSn (kO (w_f b3 a) fun d0 w a=>dU (D1 0 1 2 rfl (Rn (sY rfl (lbs_ [.bool d.1,l.v] ST_60 e0 a R7) QSn) ?_)))))
   replace a:=((a.k1i).fz).fz
   refine kO (w_r b4 F1 F0 a) fun a0 w a=>dU (D0 0 0 3 rfl (Rn QSn ?_))
   replace a:=a.k1i
   exact LT wn (r_stbn (vals':=[.bool Z.1,a0.v]) (us:=[.bool Z.1,a0.v]) a ST_60 e0 e0 rfl rfl (one_of rfl) rfl) fun w a=>Dw 0 0 (Rn QSn (qx 0 rfl (jx (_,_,_) ⟨((a.k22).fc),c⟩)))
 ·exact q 1 rfl (jx (_,_,_,_,_,_) ⟨((a.k23).facts (allC F0 (allT (allT allI)))),c⟩)
instance:CL prog 155 (type_of% @w_ej):=⟨@w_ej⟩
end Go.Proofs.YtcoaljcfifecgaeGreatDoor
