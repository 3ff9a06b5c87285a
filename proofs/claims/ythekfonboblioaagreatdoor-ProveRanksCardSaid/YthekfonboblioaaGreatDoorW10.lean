/- Walks: each function computes its model, printed. -/
import Derived.Test.YthekfonboblioaaGreatDoorW9
namespace Go.Proofs.YthekfonboblioaaGreatDoor
open Go Sx M Go.Proofs.Tryz
set_option maxRecDepth 100000
set_option maxHeartbeats 40000000
set_option linter.unusedVariables false
attribute [local irreducible] wpList Code.wp Calls DR QR QS LA LS St row box fam imm rowS loop
variable {w0:World} {ros:List Fact} {rs:List Res} {w:World}
theorem rm {t:L2} {x:Int} {A:Hdr} {out:L2} (c:m_hk t x=some out) (J:imm S1 A.v t∈ros) (a:St w0 ros rs w):
  Calls prog 19 #[A.v,iV x] w (fun e w=>∃ (B:Hdr) (C:List Hdr),e=.returned (B.v)∧St w0 ros (row 23 rH B.v C::fam 3 I1 C out::rs) w):=by
 refine en func19 rfl ntmps19 fun Q K=>bE c fun X L c=>q 8 rfl ?_
 obtain ⟨N,em5,O⟩:=Ti L hnil
 refine yh (rMk a C3 e0 O) fun d w a=>?_
 replace a:=(a.fReps 3 I1 N).k10
 rw [← em5] at a
 refine q 7 rfl (y (C6 C3 e0 a rO0 R1) (bE c fun D R c=>q 4 rfl ?_))
 refine lpN (List Hdr) (List Hdr) R [0,5,12] (fun (i,j) f=>[(13,iV j)]) (fun (i,j) f=>St w0 ros (row 23 rH d.v f::fam 3 I1 f i::rs)) (fun | D,k=>(.exit 0,[],St w0 ros (row 23 rH d.v k::fam 3 I1 k D::rs))) rfl _ a rfl ?_ ?_
 ·clear a
  rintro k g w a
  refine q 9 rfl ?_
  cases c
  exact K _ _ _ (V2 results19 ⟨rfl,rfl⟩ ⟨_,_,rfl,a⟩)
 rintro ⟨i,j⟩ f g w Z a c
 refine q 6 rfl (cI c (fun S c=>?_) fun S c=>?_)
 ·refine z 1 4 ?_
  refine bE c fun E T c=>?_
  refine lpN (List Hdr) (List Hdr) T [0,5,6,12,13,16,17] (fun (m,o) h=>[(18,iV o)]) (fun (m,o) h=>St w0 ros (row 23 rH d.v h::fam 3 I1 h m::rs)) (fun | E,p=>(.exit 2,[],St w0 ros (row 23 rH d.v p::fam 3 I1 p E::rs))) rfl _ a rfl ?_ ?_
  ·clear a
   rintro p g w a
   refine q 7 rfl ?_
   cases c
   exact ln _ a
  rintro ⟨m,o⟩ h g w a0 a c
  refine q 6 rfl (cI c (fun U c=>?_) fun U c=>?_)
  ·refine z 1 0 ?_;intro a1 V c
   obtain ⟨a2,a⟩:=iLs a J V
   refine y (yCt L1 e0 a F1 rfl) (bE c fun a3 F c=>bE c fun r G c=>bE c fun a4 W c=>bE c fun a5 H c=>q 3 rfl (dS [10,11,13] 3 E1 ?_))
   replace a:=a.drew
   refine D1 1023 0 10 rfl (qR 4 rfl ?_)
   obtain ⟨a6,b⟩:=a.famI R1 F
   refine rQ rfl (yIa C3 e0 e0 a rO0 b) (rQ rfl (yF1 L1 e0 a rO0 b rfl) (qR 2 rfl (rQ rfl (yIa V0 e0 e0 a (rdI F0) G) (rQ rfl (yI O_3 e0 a (rdI F0) G) (Rn QSn (LH wn (rLt (n:=1) (l:=[r]) a V0 [iV r] (bp1 e0) rfl rfl (N1 (cs:=[iV r]) rfl mkI X1)) fun a7 w a=>dU (D1 0 63 11 rfl (Rn (qS rfl (qS rfl (qS rfl (qS rfl (sY rfl (yIa C3 e0 e0 a rO1 b) (sY rfl (yF1 L1 e0 a rO1 b rfl) QSn)))))) ?_))))))))
   replace a:=(a.k16).foc b F
   refine LH wn (rAp a V0 e0 e0 rO2 W) fun I w a=>dU (D0 4096 3 13 rfl ?_)
   obtain ⟨a8,s⟩:=Y8 (u:=I) H (a.famLx (mtR mhR))
   refine rQ rfl (yIs C3 e0 e0 a rO3 s) (Rn (qS rfl (qS rfl QSn)) ?_)
   replace a:=a.k1c
   refine LT wn (Q3 (cs:=[I.v]) a L1 rfl e0 e0 rfl (mkF rfl) s) fun w a=>?_
   replace a:=(a.k1d).unfS b s H
   refine z 1 6 ?_
   cases c
   exact ln _ ((a.k1e).fc)
  ·refine q 2 rfl ?_
   cases c
   exact lx _ a
 ·refine q 2 rfl ?_
  cases c
  exact lx _ a
instance:CL prog 19 (type_of% @rm):=⟨@rm⟩
theorem Ze {i b:Int} {s t u:LI} {j k l:Hdr} {out:Int×Int×LI×LI×(List (List (Bool×LI)))×Int} (c:m_hm i b s t u=some out) (U:imm I1 j.v s∈ros) (V:imm I1 k.v t∈ros) (W:imm (rI .u64) l.v u∈ros) (X:globF∈ros) (a:St w0 ros rs w):
  Calls prog 5 #[.agg #[iV i,iV b,j.v,k.v,l.v]] w (fun e w=>∃ (x A B:Hdr) (C:List Hdr),e=.returned (.tuple #[.agg #[iV out.1,iV out.2.1,x.v,A.v,B.v],iV out.2.2.2.2.2])∧St w0 ros (row 3 I1 x.v out.2.2.1::row 3 I1 A.v out.2.2.2.1::row 56 rH B.v C::fam 62 (rP rB (rS (rI .u32))) C out.2.2.2.2.1::rs) w):=by
 refine en func5 rfl ntmps5 fun Q m=>?_
 refine z 4 16 ?_;intro G w a n w a H Z c I a0 w a
 refine cIn c (fun J c=>?_) fun J c=>?_
 ·refine z 1 0 ?_
  refine bE c fun d a1 c=>?_
  replace a:=a.ffz
  refine z 6 0 ?_;intro f h w a K w a w a
  refine y (C6 P4 e0 a rO1 R2) ?_
  refine z 3 4 ?_;intro w a L a2 c N w a
  refine bE c fun O R c=>?_
  refine lpN Unit (Hdr×Hdr) R [1,2,4,7,34,35] (fun o _=>[(36,iV o)]) (fun o _=>St w0 (imm (rS (rP rB (rS (rI .u32)))) I.v H.1::ros) (box G 26 [iV i,iV b,j.v,k.v,l.v]::box n 30 [iV 0,iV 0,hnil.v,hnil.v,hnil.v]::row 56 rH f.v h::fam 62 (rP rB (rS (rI .u32))) h d::box K 30 [iV (ws .i64 b (d.length:Int)),iV 0,hnil.v,hnil.v,f.v]::row 3 I1 N.v L::rs)) (fun | .inl (),(_,_)=>(.exit 0,[],St w0 ros (box n 30 [iV 0,iV 0,hnil.v,hnil.v,hnil.v]::rs)) | .inr (D,E,F),(p,r)=>(.ret,[(3,iV 0)],St w0 ros (row 3 I1 p.v E::row 3 I1 r.v F::row 56 rH f.v h::fam 62 (rP rB (rS (rI .u32))) h d::box n 30 [iV (ws .i64 b (d.length:Int)),iV D,p.v,r.v,f.v]::rs))) rfl () (a.k1f) rfl ?_ ?_
  ·clear a
   rintro ⟨p,r⟩ g w a
   rcases O with ⟨⟩ | ⟨D,E,F⟩
   ·refine z 2 4 ?_;intro w a
    cases c
    replace a:=((((a.rowNh 3 I1).rowNh 3 I1).rowNh 56 rH).fNew 62 (rP rB (rS (rI .u32)))).k10
    exact m _ _ _ (X3 results5 (I3 rfl rfl a R4 b00 rfl) ⟨rfl,rfl⟩ ⟨_,_,_,_,rfl,(a.k1g)⟩)
   ·refine q 2 rfl ?_
    cases c
    exact m _ _ _ (X3 results5 (I3 rfl rfl a R4 b00 rfl) ⟨rfl,rfl⟩ ⟨_,_,_,_,rfl,(a.k1h)⟩)
  rintro o _ g w a3 a c
  refine q 6 rfl (cI c (fun S c=>?_) fun S c=>?_)
  ·refine z 3 7 ?_;intro a4 a5 c a6 a7 c a8 a9 w a
   refine bE c fun b0 b1 c=>?_
   replace a:=a.ffz
   refine z 3 3 ?_;intro b2 w a
   refine cI c (fun T c=>?_) fun T c=>?_
   ·refine z 2 1 ?_;intro b3 b4 c b5 b6 w a
    refine bE c fun b7 b8 c=>?_
    replace a:=a.ffz
    refine z 6 6 ?_;intro c0 w a w a w a w a w a
    cases c
    exact lx (_,_) ((a.k1k).fc)
   ·refine q 7 rfl ?_
    cases c
    exact ln () ((a.k1l).facts (Q0 F1 (N0 (N0 A1))))
  ·refine q 2 rfl ?_
   cases c
   exact lx (hnil,hnil) ((a.k1m).fc)
 ·refine z 2 5 ?_;intro w a
  cases c
  replace a:=((((a.rowNh 3 I1).rowNh 3 I1).rowNh 56 rH).fNew 62 (rP rB (rS (rI .u32)))).k10
  exact m _ _ _ (X3 results5 (I3 rfl rfl a R4 b00 rfl) ⟨rfl,rfl⟩ ⟨_,_,_,_,rfl,(a.k1n)⟩)
instance:CL prog 5 (type_of% @Ze):=⟨@Ze⟩
theorem qm {b d:Bool} {e:LI} {f:Int} {g:Hdr} {out:Int} (c:m_hn b d e f=some out) (h:imm (rI .u32) g.v e∈ros) (i:globF∈ros) (a:St w0 ros rs w):
  Calls prog 53 #[.agg #[.bool b,.bool d,g.v,iV f]] w (rv w0 ros rs (iV out)):=by
 exact en func53 rfl ntmps53 fun Q j=>vx
instance:CL prog 53 (type_of% @qm):=⟨@qm⟩
theorem om {f h:Int} {y A B:LI} {i d e:Hdr} {out:(List (Int×Int×Int))} (c:m_hq f h y A B=some out) (R:imm I1 i.v y∈ros) (C:imm I1 d.v A∈ros) (D:imm (rI .u64) e.v B∈ros) (a:St w0 ros rs w):
  Calls prog 111 #[.agg #[iV f,iV h,i.v,d.v,e.v]] w (ro w0 ros rs 79 rTi64i64u64 out):=by
 refine en func111 rfl ntmps111 fun Q E=>?_
 refine z 3 3 ?_;intro p w a S T c w a
 refine cIn c (fun J c=>?_) fun J c=>?_
 ·refine q 14 rfl (bE c fun F K c=>?_)
  replace a:=a.rowNh 79 rTi64i64u64
  refine lpN Hdr Hdr K [1] (fun (r,b) m=>[(3,m.v),(4,iV b)]) (fun (r,b) m=>St w0 ros (box p 26 [iV f,iV h,i.v,d.v,e.v]::row 79 rTi64i64u64 m.v r::rs)) (fun | F,s=>(.exit 0,[(3,s.v)],St w0 ros (row 79 rTi64i64u64 s.v F::rs))) rfl _ (a.k10) rfl ?_ ?_
  ·clear a
   rintro s g w a
   refine q 9 rfl ?_
   cases c
   exact E _ _ _ (V2 results111 ⟨rfl,rfl⟩ ⟨_,rfl,a⟩)
  rintro ⟨r,b⟩ m g w U a c
  refine z 1 3 ?_
  refine cI c (fun L c=>?_) fun L c=>?_
  ·refine z 3 4 ?_;intro V W c
   refine bE c fun G N c=>?_
   refine lpN Hdr Hdr N [1,4] (fun (t,u) o=>[(3,o.v),(5,iV u)]) (fun (t,u) o=>St w0 ros (box p 26 [iV f,iV h,i.v,d.v,e.v]::row 79 rTi64i64u64 o.v t::rs)) (fun | G,x=>(.exit 2,[(3,x.v)],St w0 ros (box p 26 [iV f,iV h,i.v,d.v,e.v]::row 79 rTi64i64u64 x.v G::rs))) rfl _ a rfl ?_ ?_
   ·clear a
    rintro x g w a
    refine q 8 rfl ?_
    cases c
    exact ln _ a
   rintro ⟨t,u⟩ o g w X a c
   refine z 3 3 ?_;intro Z a0 c
   refine cI c (fun O c=>?_) fun O c=>?_
   ·refine q 4 rfl (bE c fun j H c=>bE c fun k I c=>bE c fun a1 a2 c=>dS [13,14,15] 3 E1 ?_)
    replace a:=a.drew
    refine D1 8191 0 13 rfl (qR 2 rfl (rQ rfl (lb_ d.v L1 e0 a R0) (qR 1 rfl (rQ rfl (yIa V0 e0 e0 a (rdI C) H) (rQ rfl (yI O_3 e0 a (rdI C) H) (qR 2 rfl (rQ rfl (lb_ e.v Ha e0 a R0) (qR 1 rfl (rQ rfl (yIa U9 e0 e0 a (rdI D) I) (rQ rfl (yI Xc e0 a (rdI D) I) (rQ rfl (J9 (us:=[iV j,iV b,.int .u64 k]) [(0,iV j),(1,iV b),(2,.int .u64 k)] Kj (bp3 e0 e0 e0) rfl) (Rn QSn (LH wn (rLt (n:=1) (l:=[(j,b,k)]) a Tc [.agg #[iV j,iV b,.int .u64 k]] (bp1 e0) rfl rfl (N1 (cs:=[iV j,iV b,.int .u64 k]) rfl (mkF rfl) X1)) ?_)))))))))))))
    refine fun a3 w a=>dU ?_
    refine z 3 7 ?_;intro a4 w a
    cases c
    exact ln _ (a.k1o)
   ·refine q 2 rfl ?_
    cases c
    exact lx _ a
  ·refine q 2 rfl ?_
   cases c
   exact lx _ (a.k12)
 ·refine q 7 rfl ?_
  cases c
  replace a:=a.rowNh 79 rTi64i64u64
  exact E _ _ _ (V2 results111 ⟨rfl,rfl⟩ ⟨_,rfl,(a.k11)⟩)
instance:CL prog 111 (type_of% @om):=⟨@om⟩
theorem Rl {h i:Int} {B C D:LI} {j k m:Hdr} {out:L2×Int} (c:m_ht h i B C D=some out) (a7:imm I1 j.v B∈ros) (a8:imm I1 k.v C∈ros) (a9:imm (rI .u64) m.v D∈ros) (a:St w0 ros rs w):
  Calls prog 54 #[.agg #[iV h,iV i,j.v,k.v,m.v]] w (fun e w=>∃ (E:Hdr) (F:List Hdr),e=.returned (.tuple #[E.v,iV out.2])∧St w0 ros (row 24 rH E.v F::fam 41 (rI .u64) F out.1::rs) w):=by
 refine en func54 rfl ntmps54 fun Q G=>?_
 refine z 3 9 ?_;intro H w a b0 b1 c w a
 refine cIn c (fun T c=>?_) fun T c=>?_
 ·refine q 14 rfl (bE c fun I U c=>?_)
  replace a:=((a.rowNh 24 rH).fNew 41 (rI .u64)).k10
  refine lpN (Hdr×(List Hdr)) (Hdr×(List Hdr)) U [1] (fun (r,s) (o,p)=>[(5,o.v),(6,iV s)]) (fun (r,s) (o,p)=>St w0 ros (box H 26 [iV h,iV i,j.v,k.v,m.v]::row 24 rH o.v p::fam 41 (rI .u64) p r::rs)) (fun | I,(d,b)=>(.exit 0,[(5,d.v)],St w0 ros (box H 26 [iV h,iV i,j.v,k.v,m.v]::row 24 rH d.v b::fam 41 (rI .u64) b I::rs))) rfl (_,_) (a.k16) rfl ?_ ?_
  ·clear a
   rintro ⟨d,b⟩ g w a
   refine z 2 10 ?_;intro V b2 c W w a
   refine bE c fun J X c=>?_
   refine lp X [5,7] (fun (t,x)=>[(8,iV x)]) (fun (t,x)=>St w0 ros (row 24 rH d.v b::fam 41 (rI .u64) b t::row 79 rTi64i64u64 W.v V::rs)) (fun | J=>(.exit 2,[],St w0 ros (row 24 rH d.v b::fam 41 (rI .u64) b J::rs))) rfl (a.k1p) rfl ?_ ?_
   ·clear a
    intro g w a
    refine q 10 rfl ?_
    cases c
    exact G _ _ _ (X3 results54 ⟨rfl,rfl⟩ ⟨rfl,rfl⟩ ⟨_,_,rfl,a⟩)
   rintro ⟨t,x⟩ g w b3 a c
   refine z 1 3 ?_
   refine cI c (fun Z c=>?_) fun Z c=>?_
   ·refine q 4 rfl (bE c fun a0 K c=>bE c fun b4 y c=>bE c fun a1 L c=>bE c fun N O c=>bE c fun b5 R c=>bE c fun b6 a2 c=>dS [19] 1 E1 ?_)
    replace a:=a.drew
    refine D0 524287 0 19 rfl (qR 3 rfl (rQ rfl (yIa Tc e0 e0 a rO2 K) (rQ rfl (yFe yD e0) (rQ rfl (yFf (u:=iV a0.1) O_3 e0 a rO2 K rfl) ?_))))
    obtain ⟨b7,f⟩:=a.famI R1 y
    refine rQ rfl (yIa Eg e0 e0 a rO0 f) (rQ rfl (yF1 Ha e0 a rO0 f rfl) (qR 2 rfl (rQ rfl (yIa Tc e0 e0 a rO2 L) (rQ rfl (yFe xD e0) (rQ rfl (yFf (u:=iV a1.2.1) O_3 e0 a rO2 L rfl) (qR 2 rfl (rQ rfl (yIa Tc e0 e0 a rO2 O) (rQ rfl (yFe wD e0) (rQ rfl (yFf (u:=.int .u64 N.2.2) Xc e0 a rO2 O rfl) (rQ rfl (yIs U9 e0 e0 a (rdF R1 f y) R) (Rn QSn ?_)))))))))))
    replace a:=a.k10
    refine LT wn (Q3 (cs:=[.int .u64 N.2.2]) (a.foc f y) Xc rfl e0 e0 rfl mkI R) fun w a=>?_
    replace a:=a.unfoc' f a2
    refine z 1 7 ?_
    cases c
    exact lo (a.k1q)
   ·refine q 2 rfl ?_
    cases c
    exact xo (a.k1r)
  rintro ⟨r,s⟩ ⟨o,p⟩ g w b8 a c
  refine z 1 3 ?_
  refine cI c (fun a3 c=>?_) fun a3 c=>?_
  ·refine z 1 0 ?_
   refine bE c fun a4 a5 c=>yh (rMk a U9 e0 a5) fun A w a=>yh (rLt (n:=1) (l:=[A]) a Eg [A.v] (bp1 e0) rfl rfl (N1 rfl (mkF rfl) X1)) fun c0 w a=>bE c fun c1 S c=>?_
   replace a:=a.k1c
   obtain ⟨c2,ey80,a6⟩:=Wb S (a.famL R4) (show [A].length=[a4].length from rfl)
   refine yh (rAp a Eg e0 e0 rO1 a6) fun c3 w a=>?_
   replace a:=(a.k1s).fPush
   rw [← ey80,← (Ca S).1] at a
   refine q 9 rfl ?_
   cases c
   exact ln (_,_) (a.k17)
  ·refine q 2 rfl ?_
   cases c
   exact lx (_,_) a
 ·refine q 9 rfl ?_
  cases c
  replace a:=((a.rowNh 24 rH).fNew 41 (rI .u64)).k10
  exact G _ _ _ (X3 results54 ⟨rfl,rfl⟩ ⟨rfl,rfl⟩ ⟨_,_,rfl,(a.k1r)⟩)
instance:CL prog 54 (type_of% @Rl):=⟨@Rl⟩
theorem Ah {b d:Int} {W X Z:LI} {f h i:Hdr} {out:(List (List (Bool×LI)))×Int×Int} (c:m_hz b d W X Z=some out) (c3:imm I1 f.v W∈ros) (c4:imm I1 h.v X∈ros) (c5:imm (rI .u64) i.v Z∈ros) (c6:globF∈ros) (a:St w0 ros rs w):
  Calls prog 20 #[.agg #[iV b,iV d,f.v,h.v,i.v]] w (fun e w=>∃ (a0:Hdr),e=.returned (.tuple #[a0.v,iV out.2.1,iV out.2.2])∧St w0 ros (row 56 (rS (rP rB (rS (rI .u32)))) a0.v out.1::rs) w):=by
 refine en func20 rfl ntmps20 fun Q K=>?_
 refine z 3 9 ?_;intro j w a c7 c8 c w a
 refine cIn c (fun a9 c=>?_) fun a9 c=>?_
 ·refine z 1 2 ?_
  refine jW 4 [1] [(29,.bool ((decide ((16:Int) < b)) || (decide ((16:Int) < d))))] (St w0 ros (box j 26 [iV b,iV d,f.v,h.v,i.v]::rs)) rfl (fun a1=>?_) ?_
  ·refine gB 25 rfl (fun L=>?_) fun L=>?_
   ·exact q 4 rfl (a1 _ _ a (J1 (Z0 Value.bool (orT L)) rfl))
   ·refine z 1 2 ?_
    exact a1 _ _ a (J1 (Z0 Value.bool (orF L)) rfl)
  intro g w a
  refine q 2 rfl ?_
  refine cJ c (fun b0 c=>?_) fun b0 c=>?_
  ·refine q 9 rfl ?_
   cases c
   replace a:=a.rowNh 56 (rS (rP rB (rS (rI .u32))))
   exact K _ _ _ (J8 results20 ⟨rfl,rfl⟩ ⟨rfl,rfl⟩ ⟨rfl,rfl⟩ ⟨_,rfl,(a.k11)⟩)
  ·refine q 15 rfl (bE c fun a2 b1 c=>?_)
   refine lp b1 [1] (fun (r,s,u)=>[(6,iV r),(7,.bool s),(8,iV u)]) (fun (r,s,u)=>St w0 ros (box j 26 [iV b,iV d,f.v,h.v,i.v]::rs)) (fun | a2=>(.exit 0,[(6,iV a2)],St w0 ros (box j 26 [iV b,iV d,f.v,h.v,i.v]::rs))) rfl a rfl ?_ ?_
   ·clear a
    intro g w a
    refine z 2 19 ?_;intro x c9 c A m w a
    refine bE c fun a3 b2 c=>?_
    replace a:=a.rowNh 56 (rS (rP rB (rS (rI .u32))))
    refine lpN Hdr Hdr b2 [1,6,10] (fun (p,N) o=>[(12,o.v),(13,iV N)]) (fun (p,N) o=>St w0 ros (box j 26 [iV b,iV d,f.v,h.v,i.v]::row 24 rH A.v m::fam 41 (rI .u64) m x.1::row 56 (rS (rP rB (rS (rI .u32)))) o.v p::rs)) (fun | a3,O=>(.exit 2,[(12,O.v)],St w0 ros (row 56 (rS (rP rB (rS (rI .u32)))) O.v a3::rs))) rfl _ (a.k1t) rfl ?_ ?_
    ·clear a
     rintro O g w a
     refine q 12 rfl ?_
     cases c
     exact K _ _ _ (J8 results20 ⟨rfl,rfl⟩ ⟨rfl,rfl⟩ ⟨rfl,rfl⟩ ⟨_,rfl,a⟩)
    rintro ⟨p,N⟩ o g w d0 a c
    refine z 1 3 ?_
    refine cI c (fun b3 c=>?_) fun b3 c=>?_
    ·refine q 16 rfl (bE c fun R b4 c=>?_)
     replace a:=a.rowNh 62 (rP rB (rS (rI .u32)))
     refine lpN Hdr Hdr b4 [1,6,10,12,13] (fun (S,B) C=>[(14,C.v),(15,iV B)]) (fun (S,B) C=>St w0 ros (box j 26 [iV b,iV d,f.v,h.v,i.v]::row 24 rH A.v m::fam 41 (rI .u64) m x.1::row 56 (rS (rP rB (rS (rI .u32)))) o.v p::row 62 (rP rB (rS (rI .u32))) C.v S::rs)) (fun | R,t=>(.exit 4,[(14,t.v)],St w0 ros (box j 26 [iV b,iV d,f.v,h.v,i.v]::row 24 rH A.v m::fam 41 (rI .u64) m x.1::row 56 (rS (rP rB (rS (rI .u32)))) o.v p::row 62 (rP rB (rS (rI .u32))) t.v R::rs))) rfl _ (a.k1u) rfl ?_ ?_
     ·clear a
      rintro t g w a
      refine q 5 rfl ?_
      replace a:=(a.k1j).fz
      refine yh (rLt (n:=1) (l:=[R]) a P5 [t.v] (bp1 e0) rfl rfl (N1 (cs:=[t.v]) rfl (mkS F0) X1)) fun d1 w a=>?_
      refine z 1 9 ?_;intro d2 d3 c d4 w a
      cases c
      exact ln _ ((a.k1v).fc)
     rintro ⟨S,B⟩ C g w b5 a c
     refine z 1 3 ?_
     refine cI c (fun b6 c=>?_) fun b6 c=>?_
     ·refine q 8 rfl (bE c fun d5 T c=>?_)
      obtain ⟨d6,D⟩:=a.famI R2 T
      refine y (yIa Eg e0 e0 a rO1 D) (y (yF1 Ha e0 a rO1 D rfl) (bE c fun d7 a4 c=>q 1 rfl (y (yIa U9 e0 e0 a (rdF R2 D T) a4) (y (yI Xc e0 a (rdF R2 D T) a4) ?_))))
      refine z 5 3 ?_;intro d8 d9 c e1 w a e2 w a w a e3 e4 c w a
      refine jC ((List (Bool×LI))×Hdr) [1,6,10,12,13,15] (fun (E,F)=>[(14,F.v)]) (fun (E,F) w=>St w0 ros (box j 26 [iV b,iV d,f.v,h.v,i.v]::row 24 rH A.v m::fam 41 (rI .u64) m x.1::row 56 (rS (rP rB (rS (rI .u32)))) o.v p::row 62 (rP rB (rS (rI .u32))) F.v E::rs) w∧m_hu B E=some b5) rfl ?_ ?_
      ·rintro ⟨E,F⟩ g w ⟨a,c⟩
       refine q 7 rfl ?_
       cases c
       exact ln _ a
      refine cI c (fun b7 c=>?_) fun b7 c=>?_
      ·refine z 1 0 ?_
       refine yh (rLt (n:=1) (l:=[(false,[])]) a Q2 [.agg #[.bool false,hnil.v]] (bp1 e0) rfl rfl (N1 (cs:=[.bool false,hnil.v]) rfl (mkP mkB Nq) X1)) fun e5 w a=>?_
       refine z 1 2 ?_;intro e6 e7 c e8 w a
       exact jx (_,_) ⟨((a.k1w).fc),c⟩
      ·refine z 3 0 ?_;intro G e9 c a5 w a
       replace a:=a.fz
       refine yh (rLt (n:=1) (l:=[(G.1,G.2)]) a Q2 [.agg #[.bool G.1,a5.v]] (bp1 e0) rfl rfl (N1 (cs:=[.bool G.1,a5.v]) rfl (mkP mkB (mkS F0)) X1)) fun f0 w a=>?_
       refine z 1 2 ?_;intro f1 f2 c f3 w a
       exact jx (_,_) ⟨((a.k1w).fc),c⟩
     ·refine q 2 rfl ?_
      cases c
      exact lx _ a
    ·refine q 2 rfl ?_
     cases c
     exact lx _ (a.k1x)
   rintro ⟨r,s,u⟩ g w b8 a c
   refine z 2 3 ?_
   refine cI c (fun c0 c=>?_) fun c0 c=>?_
   ·refine z 8 2 ?_;intro f4 f5 c k f6 c H w a a6 w a w a c1 f7 c w a
    refine jW 9 [1,6,7,8,9] [(55,.bool ((!(decide (c1=0))) && ((!s) || (decide (k.2.2.2 < r)))))] (St w0 (imm (rI .u32) H.v k.2.2.1::ros) (box j 26 [iV b,iV d,f.v,h.v,i.v]::box a6 71 [.bool k.1,.bool k.2.1,H.v,iV k.2.2.2]::rs)) rfl (fun a7=>?_) ?_
    ·refine gB 46 rfl (fun U=>?_) fun U=>?_
     ·refine q 3 rfl ?_
      refine jW 5 [1,6,7,8,9,46] [(54,.bool ((!s) || (decide (k.2.2.2 < r))))] (St w0 (imm (rI .u32) H.v k.2.2.1::ros) (box j 26 [iV b,iV d,f.v,h.v,i.v]::box a6 71 [.bool k.1,.bool k.2.1,H.v,iV k.2.2.2]::rs)) rfl (fun a8=>?_) ?_
      ·refine gB 49 rfl (fun V=>?_) fun V=>?_
       ·exact q 5 rfl (a8 _ _ (a.k10) (J1 (Z0 Value.bool (orT V)) rfl))
       ·refine z 1 3 ?_
        exact a8 _ _ (a.k10) (J1 (Z0 Value.bool (orF V)) rfl)
      intro g w a
      exact q 1 rfl (a7 _ _ a (J1 (Z0 Value.bool (W5 U)) rfl))
     ·exact q 9 rfl (a7 _ _ (a.k10) (J1 (Z0 Value.bool (X5 U)) rfl))
    intro g w a
    refine q 2 rfl ?_
    refine jC (Int×Bool) [1,8] (fun (I,J)=>[(6,iV I),(7,.bool J)]) (fun (I,J) w=>St w0 ros (box j 26 [iV b,iV d,f.v,h.v,i.v]::rs) w∧m_hx u I J=some b8) rfl ?_ ?_
    ·rintro ⟨I,J⟩ g w ⟨a,c⟩
     refine q 7 rfl ?_
     cases c
     exact lo a
    refine cJ c (fun c2 c=>?_) fun c2 c=>?_
    ·refine z 1 3 ?_
     exact jx (_,_) ⟨((a.k11).fc),c⟩
    ·exact q 1 rfl (jx (_,_) ⟨((a.k11).fc),c⟩)
   ·refine q 2 rfl ?_
    cases c
    exact xo a
 ·refine q 10 rfl ?_
  cases c
  replace a:=a.rowNh 56 (rS (rP rB (rS (rI .u32))))
  exact K _ _ _ (J8 results20 ⟨rfl,rfl⟩ ⟨rfl,rfl⟩ ⟨rfl,rfl⟩ ⟨_,rfl,(a.k11)⟩)
instance:CL prog 20 (type_of% @Ah):=⟨@Ah⟩
theorem Ql {u:List (List (Bool×LI))} {x:LI} {z A:Hdr} {out:(List (List (Bool×LI)))} (c:m_h2 u x=some out) (j:imm (rS (rP rB (rS (rI .u32)))) z.v u∈ros) (k:imm I1 A.v x∈ros) (a:St w0 ros rs w):
  Calls prog 57 #[z.v,A.v] w (fun e w=>∃ (B:Hdr),e=.returned (B.v)∧St w0 ros (row 56 (rS (rP rB (rS (rI .u32)))) B.v out::rs) w):=by
 refine en func57 rfl ntmps57 fun Q G=>bE c fun C H c=>q 17 rfl ?_
 replace a:=a.rowNh 56 (rS (rP rB (rS (rI .u32))))
 refine lpN Hdr Hdr H [0,1] (fun (d,m) b=>[(5,b.v),(6,iV m)]) (fun (d,m) b=>St w0 ros (row 56 (rS (rP rB (rS (rI .u32)))) b.v d::rs)) (fun | C,o=>(.exit 0,[(5,o.v)],St w0 ros (row 56 (rS (rP rB (rS (rI .u32)))) o.v C::rs))) rfl _ a rfl ?_ ?_
 ·clear a
  rintro o g w a
  refine q 9 rfl ?_
  cases c
  exact G _ _ _ (V2 results57 ⟨rfl,rfl⟩ ⟨_,rfl,a⟩)
 rintro ⟨d,m⟩ b g w R a c
 refine q 5 rfl (y (Y2 P5 e0 a (rdI j)) (q 3 rfl (cI c (fun I c=>?_) fun I c=>?_)))
 ·refine q 16 rfl (bE c fun p J c=>?_)
  replace a:=a.rowNh 62 (rP rB (rS (rI .u32)))
  refine lpN Hdr Hdr J [0,1,5,6] (fun (r,s) i=>[(7,i.v),(8,iV s)]) (fun (r,s) i=>St w0 ros (row 56 (rS (rP rB (rS (rI .u32)))) b.v d::row 62 (rP rB (rS (rI .u32))) i.v r::rs)) (fun | p,f=>(.exit 2,[(7,f.v)],St w0 ros (row 56 (rS (rP rB (rS (rI .u32)))) b.v d::row 62 (rP rB (rS (rI .u32))) f.v p::rs))) rfl _ (a.k10) rfl ?_ ?_
  ·clear a
   rintro f g w a
   refine q 5 rfl ?_
   replace a:=(a.k10).fz
   refine yh (rLt (n:=1) (l:=[p]) a P5 [f.v] (bp1 e0) rfl rfl (N1 (cs:=[f.v]) rfl (mkS F0) X1)) fun S w a=>bE c fun T K c=>?_
   replace a:=a.k10
   refine yh (rAp a P5 e0 e0 rO1 K) fun U w a=>q 9 rfl ?_
   cases c
   exact ln _ ((a.k11).fc)
  rintro ⟨r,s⟩ i g w V a c
  refine q 5 rfl (y (Y2 V0 e0 a (rdI k)) (q 3 rfl (cI c (fun L c=>?_) fun L c=>?_)))
  ·refine q 4 rfl (bE c fun W D c=>bE c fun X E c=>bE c fun h F c=>bE c fun Z N c=>dS [11,12,13] 3 E1 ?_)
   replace a:=a.drew
   refine D1 2047 0 11 rfl (qR 3 rfl (rQ rfl (yIa P5 e0 e0 a (rdI j) D) ?_))
   obtain ⟨a0,a⟩:=iLs a j D
   refine rQ rfl (yCt Q4 e0 a F1 rfl) (qR 2 rfl (rQ rfl (yIa V0 e0 e0 a (rdI (F_2 k)) E) (rQ rfl (yI O_3 e0 a (rdI (F_2 k)) E) (rQ rfl (yIa Q2 e0 e0 a (rdI F0) F) ?_))))
   obtain ⟨a1,a2,a⟩:=iLd a F0 F
   obtain ⟨a3,a4,rfl,a⟩:=a.eltP
   obtain ⟨rfl,a⟩:=a.eltB
   obtain ⟨t,rfl,a⟩:=a.eltS
   refine rQ rfl (D6 (cs:=[.bool h.1,t.v]) P0 rfl e0 a F1) (Rn QSn (LH wn (rLt (n:=1) (l:=[(h.1,h.2)]) a Q2 [.agg #[.bool h.1,t.v]] (bp1 e0) rfl rfl (N1 (cs:=[.bool h.1,t.v]) rfl (mkP mkB (mkS F0)) X1)) fun a5 w a=>dU (D1 0 1 12 rfl (Rn (qS rfl QSn) ?_))))
   replace a:=a.k16
   refine LH wn (rAp a Q2 e0 e0 rO1 N) fun O w a=>dU (D1 0 0 13 rfl (Rn QSn (Ly wn (a_ O.v e0) (dU (Dw 0 0 (Rn QSn (qx 7 rfl ?_)))))))
   cases c
   exact ln _ ((a.k1o).fc)
  ·refine q 2 rfl ?_
   cases c
   exact lx _ a
 ·refine q 2 rfl ?_
  cases c
  exact lx _ a
instance:CL prog 57 (type_of% @Ql):=⟨@Ql⟩
theorem Ve {u:List (List (Bool×LI))} {x:Hdr} {out:(List (List (Bool×LI×Bool×LI)))} (c:m_h5 u=some out) (A:imm (rS (rP rB (rS (rI .u32)))) x.v u∈ros) (a:St w0 ros rs w):
  Calls prog 118 #[x.v] w (fun e w=>∃ (B:Hdr) (C:List Hdr),e=.returned (B.v)∧St w0 ros (row 149 rH B.v C::fam 146 (rP rB (rP (rS (rI .u32)) (rP rB (rS (rI .u32))))) C out::rs) w):=by
 refine en func118 rfl ntmps118 fun Q H=>bE c fun D I c=>q 17 rfl ?_
 replace a:=((a.rowNh 149 rH).fNew 146 (rP rB (rP (rS (rI .u32)) (rP rB (rS (rI .u32)))))).k10
 refine lpN (Hdr×(List Hdr)) (Hdr×(List Hdr)) I [0] (fun (h,m) (d,b)=>[(3,d.v),(4,iV m)]) (fun (h,m) (d,b)=>St w0 ros (row 149 rH d.v b::fam 146 (rP rB (rP (rS (rI .u32)) (rP rB (rS (rI .u32))))) b h::rs)) (fun | D,(o,p)=>(.exit 0,[(3,o.v)],St w0 ros (row 149 rH o.v p::fam 146 (rP rB (rP (rS (rI .u32)) (rP rB (rS (rI .u32))))) p D::rs))) rfl (_,_) a rfl ?_ ?_
 ·clear a
  rintro ⟨o,p⟩ g w a
  refine q 9 rfl ?_
  cases c
  exact H _ _ _ (V2 results118 ⟨rfl,rfl⟩ ⟨_,_,rfl,a⟩)
 rintro ⟨h,m⟩ ⟨d,b⟩ g w V a c
 refine z 1 3 ?_
 refine cI c (fun J c=>?_) fun J c=>?_
 ·refine q 16 rfl (bE c fun r K c=>?_)
  replace a:=a.rowNh 146 (rP rB (rP (rS (rI .u32)) (rP rB (rS (rI .u32)))))
  refine lpN Hdr Hdr K [0,3,4] (fun (s,t) i=>[(5,i.v),(6,iV t)]) (fun (s,t) i=>St w0 ros (row 149 rH d.v b::fam 146 (rP rB (rP (rS (rI .u32)) (rP rB (rS (rI .u32))))) b h::row 146 (rP rB (rP (rS (rI .u32)) (rP rB (rS (rI .u32))))) i.v s::rs)) (fun | r,f=>(.exit 2,[(5,f.v)],St w0 ros (row 149 rH d.v b::fam 146 (rP rB (rP (rS (rI .u32)) (rP rB (rS (rI .u32))))) b h::row 146 (rP rB (rP (rS (rI .u32)) (rP rB (rS (rI .u32))))) f.v r::rs))) rfl _ (a.k1d) rfl ?_ ?_
  ·clear a
   rintro f g w a
   refine q 5 rfl (yh (rLt (n:=1) (l:=[f]) a w5 [f.v] (bp1 e0) rfl rfl (N1 rfl (mkF rfl) X1)) fun W w a=>bE c fun X E c=>?_)
   replace a:=a.k10
   obtain ⟨Z,ey191,L⟩:=Wb E (a.famL R2) (show [f].length=[r].length from rfl)
   refine yh (rAp a w5 e0 e0 rO1 L) fun a0 w a=>?_
   replace a:=(a.k1y).fPush
   rw [← ey191,← (Ca E).1] at a
   refine q 9 rfl ?_
   cases c
   exact ln (_,_) (a.k1e)
  rintro ⟨s,t⟩ i g w a1 a c
  refine z 1 0 ?_;intro a2 N c
  obtain ⟨a3,a⟩:=iLs a A N
  refine y (yCt Q4 e0 a F1 rfl) ?_
  refine z 1 3 ?_
  refine cI c (fun O c=>?_) fun O c=>?_
  ·refine z 1 0 ?_;intro a4 R c
   obtain ⟨a5,a⟩:=iLs a (F_2 A) R
   refine y (yCt Q4 e0 a F1 rfl) ?_
   refine z 1 0 ?_;intro S T c
   obtain ⟨a6,a7,a⟩:=iLd a F0 T
   obtain ⟨a8,a9,rfl,a⟩:=a.eltP
   obtain ⟨rfl,a⟩:=a.eltB
   obtain ⟨U,rfl,a⟩:=a.eltS
   refine y (D6 (cs:=[.bool S.1,U.v]) P0 rfl e0 a F1) ?_
   refine z 3 0 ?_;intro j b0 c F w a k b1 c G w a
   replace a:=((a.k10).fz).fz
   refine yh (rLt (n:=1) (l:=[(j.1,j.2,k.1,k.2)]) a S3 [.agg #[.bool j.1,F.v,.bool k.1,G.v]] (bp1 e0) rfl rfl (N1 (cs:=[.bool j.1,F.v,.bool k.1,G.v]) rfl (mkP mkB (mkP (mkS F1) (mkP mkB (mkS F0)))) X1)) fun b2 w a=>?_
   refine z 1 9 ?_;intro b3 b4 c b5 w a
   cases c
   exact ln _ ((a.k1p).fc)
  ·refine q 2 rfl ?_
   cases c
   exact lx _ (a.fc)
 ·refine q 2 rfl ?_
  cases c
  exact lx (_,_) a
instance:CL prog 118 (type_of% @Ve):=⟨@Ve⟩
theorem Ue {b:List (List (Bool×LI))} {d:Hdr} {out:Int} (c:m_h6 b=some out) (e:imm (rS (rP rB (rS (rI .u32)))) d.v b∈ros) (a:St w0 ros rs w):
  Calls prog 117 #[d.v] w (rv w0 ros rs (iV out)):=by
 refine en func117 rfl ntmps117 fun Q g=>?_
 refine v 0 ?_
 refine ⟨vt,fun _ _ _ f c=>?_⟩
 obtain ⟨h,a⟩:=iLs a e f
 exact vx
instance:CL prog 117 (type_of% @Ue):=⟨@Ue⟩
theorem zh {b:Bool} {d:LI} {e:Bool} {f:LI} {g h:Hdr} {out:Bool} (c:m_h7 b d e f=some out) (i:imm (rI .u32) g.v d∈ros) (j:imm (rI .u32) h.v f∈ros) (a:St w0 ros rs w):
  Calls prog 164 #[.agg #[.bool b,g.v,.bool e,h.v]] w (rv w0 ros rs (.bool out)):=by
 exact en func164 rfl ntmps164 fun Q k=>vx
instance:CL prog 164 (type_of% @zh):=⟨@zh⟩
theorem Ol {k l:LI} {m n:Hdr} {out:LI} (c:m_ia k l=some out) (G:imm (rI .u32) m.v k∈ros) (H:imm (rI .u32) n.v l∈ros) (a:St w0 ros rs w):
  Calls prog 165 #[m.v,n.v] w (ro w0 ros rs 107 (rI .u32) out):=by
 refine en func165 rfl ntmps165 fun Q t=>?_
 refine z 2 1 ?_
 refine bE c fun I u c=>yh (rMk a Q1 e0 u) fun b w a=>bE c fun o x c=>q 10 rfl ?_
 refine lp x [0,1,5] (fun (e,f)=>[(6,iV f)]) (fun (e,f)=>St w0 ros (row 107 (rI .u32) b.v e::rs)) (fun | o=>(.exit 0,[],St w0 ros (row 107 (rI .u32) b.v o::rs))) rfl a rfl ?_ ?_
 ·clear a
  intro g w a
  refine q 9 rfl ?_
  cases c
  exact t _ _ _ (V2 results165 ⟨rfl,rfl⟩ ⟨_,rfl,a⟩)
 rintro ⟨e,f⟩ g w J a c
 refine z 1 3 ?_
 refine cI c (fun A c=>?_) fun A c=>?_
 ·refine q 16 rfl ?_
  obtain ⟨⟨p,h⟩,B,c⟩:=bs c
  refine lp B [0,1,5,6] (fun (i,d,j)=>[(7,.int .u64 d),(8,iV j)]) (fun (i,d,j)=>St w0 ros (row 107 (rI .u32) b.v i::rs)) (fun | (p,h)=>(.exit 2,[(7,.int .u64 h)],St w0 ros (row 107 (rI .u32) b.v p::rs))) rfl a rfl ?_ ?_
  ·clear a
   intro g w a
   refine z 1 3 ?_
   refine bE c fun K r c=>y (yIs Q1 e0 e0 a rO0 r) (yt (Q3 (cs:=[.int .u32 (wc .u32 h)]) a V3 rfl e0 e0 rfl mkI r) fun w a=>q 8 rfl ?_)
   cases c
   exact lo a
  rintro ⟨i,d,j⟩ g w L a c
  refine z 1 3 ?_
  refine cI c (fun C c=>?_) fun C c=>?_
  ·refine q 5 rfl (bE c fun D N c=>bE c fun E O c=>bE c fun F R c=>dS [21] 1 E1 ?_)
   replace a:=a.drew
   refine z 8 9 ?_
   refine bE c fun S s c=>y (yIs Q1 e0 e0 a rO0 s) (yt (Q3 (cs:=[.int .u32 (wc .u32 (wa .u64 (wa .u64 d (wm .u64 (wc .u64 D) (wc .u64 E))) (wc .u64 F)))]) a V3 rfl e0 e0 rfl mkI s) fun w a=>q 14 rfl ?_)
   cases c
   exact lo a
  ·refine q 2 rfl ?_
   cases c
   exact xo a
 ·refine q 2 rfl ?_
  cases c
  exact xo a
instance:CL prog 165 (type_of% @Ol):=⟨@Ol⟩
theorem ga {b:Bool} {d:LI} {e:Bool} {f:LI} {g h:Hdr} {out:Bool×LI} (c:m_ib b d e f=some out) (i:imm (rI .u32) g.v d∈ros) (j:imm (rI .u32) h.v f∈ros) (a:St w0 ros rs w):
  Calls prog 122 #[.agg #[.bool b,g.v],.agg #[.bool e,h.v]] w (rc w0 ros rs 107 out):=by
 exact en func122 rfl ntmps122 fun Q k=>vx
instance:CL prog 122 (type_of% @ga):=⟨@ga⟩
theorem xh {d r:LI} {l s:Int} {b t:Hdr} {out:LI×Bool} (c:m_if d r l s=some out) (O:imm (rI .u32) t.v r∈ros) (a:St w0 ros (row 107 (rI .u32) b.v d::rs) w):
  Calls prog 190 #[b.v,t.v,iV l,.int .u64 s] w (fun e w=>e=.returned (.bool out.2)∧St w0 ros (row 107 (rI .u32) b.v out.1::rs) w):=by
 refine en func190 rfl ntmps190 fun Q u=>?_
 refine z 1 7 ?_
 refine bE c fun R D c=>yh (rMk a Q1 e0 D) fun j w a=>q 16 rfl ?_
 obtain ⟨⟨m,x⟩,E,c⟩:=bs c
 refine lp E [0,1,2,3,9,10] (fun (f,h,n,k)=>[(11,.int .u64 h),(12,.int .u64 n),(13,iV k)]) (fun (f,h,n,k)=>St w0 ros (row 107 (rI .u32) b.v d::row 107 (rI .u32) j.v f::rs)) (fun | (m,x)=>(.exit 0,[(11,.int .u64 x)],St w0 ros (row 107 (rI .u32) b.v d::row 107 (rI .u32) j.v m::rs))) rfl (a.k10) rfl ?_ ?_
 ·clear a
  intro g w a
  refine q 9 rfl ?_
  refine cIn c (fun F c=>?_) fun F c=>?_
  ·refine q 9 rfl (bE c fun A G c=>?_)
   refine lp G [0,2,9,10] (fun (o,p)=>[(15,iV p)]) (fun (o,p)=>St w0 ros (row 107 (rI .u32) b.v o::row 107 (rI .u32) j.v m::rs)) (fun | A=>(.exit 2,[],St w0 ros (row 107 (rI .u32) b.v A::rs))) rfl a rfl ?_ ?_
   ·clear a
    intro g w a
    refine q 8 rfl ?_
    cases c
    exact za u results190 ⟨rfl,a⟩
   rintro ⟨o,p⟩ g w S a c
   refine q 8 rfl (cI c (fun H c=>?_) fun H c=>?_)
   ·refine z 2 0 ?_;intro I T c
    refine bE c fun U B c=>y (yIs Q1 e0 e0 a rO0 B) (yt (Q3 (cs:=[.int .u32 I]) a V3 rfl e0 e0 rfl mkI B) fun w a=>q 8 rfl ?_)
    cases c
    exact lo a
   ·refine q 2 rfl ?_
    cases c
    exact xo (a.k11)
  ·refine q 7 rfl ?_
   cases c
   exact za u results190 ⟨rfl,(a.k11)⟩
 rintro ⟨f,h,n,k⟩ g w J a c
 refine q 8 rfl (cI c (fun K c=>?_) fun K c=>?_)
 ·refine q 12 rfl ?_
  refine jC Int [0,1,2,3,9,10,11,13] (fun i=>[(12,.int .u64 i)]) (fun i w=>St w0 ros (row 107 (rI .u32) b.v d::row 107 (rI .u32) j.v f::rs) w∧m_id d k l f h i=some J) rfl ?_ ?_
  ·rintro i g w ⟨a,c⟩
   refine z 2 22 ?_;intro L V c
   refine bE c fun W C c=>y (yIs Q1 e0 e0 a rO1 C) ?_
   replace a:=a.k10
   refine yt (Q3 (cs:=[.int .u32 (wc .u32 (ws .u64 (ws .u64 (wc .u64 L) h) (wand .u64 i 4294967295)))]) a V3 rfl e0 e0 rfl mkI C) fun w a=>q 14 rfl ?_
   cases c
   exact lo (a.k10)
  refine cI c (fun N c=>?_) fun N c=>?_
  ·refine z 2 5 ?_;intro X Z c
   exact jx _ ⟨a,c⟩
  ·exact q 1 rfl (jx _ ⟨a,c⟩)
 ·refine q 2 rfl ?_
  cases c
  exact xo a
instance:CL prog 190 (type_of% @xh):=⟨@xh⟩
theorem wh {p b:LI} {A B:Hdr} {out:LI×LI} (c:m_ij p b=some out) (f:imm (rI .u32) A.v p∈ros) (h:imm (rI .u32) B.v b∈ros) (a:St w0 ros rs w):
  Calls prog 166 #[A.v,B.v] w (fun e w=>∃ (C D:Hdr),e=.returned (.tuple #[C.v,D.v])∧St w0 (imm (rI .u32) D.v out.2::ros) (row 107 (rI .u32) C.v out.1::rs) w):=by
 refine en func166 rfl ntmps166 fun Q E=>bE c fun b3 O c=>q 11 rfl (cZ (w_o O f h a) fun w a=>q 3 rfl (cI c (fun R c=>?_) fun R c=>?_))
 ·refine q 9 rfl ?_
  cases c
  replace a:=a.rowNh 107 (rI .u32)
  exact E _ _ _ (X3 results166 ⟨rfl,rfl⟩ ⟨rfl,rfl⟩ ⟨_,_,rfl,(a.facts (Q0 f A1))⟩)
 ·refine q 5 rfl (y (Y2 Q1 e0 a (rdI h)) (bE c fun b4 F c=>q 8 rfl (y (yIa Q1 e0 e0 a (rdI h) F) (y (yI V3 e0 a (rdI h) F) (bE c fun S T c=>cZ (Xh T a) fun w a=>bE c fun b5 U c=>bE c fun b6 V c=>bE c fun i r c=>q 4 rfl (dS [2,5,8,9] 4 E1 ?_))))))
  replace a:=a.drew
  refine D1 91 0 2 rfl (qR 5 rfl (Rn QSn (kO (w_k U f a) fun W w a=>dU (D1 0 88 5 rfl (Rn (qS rfl (qS rfl (qS rfl QSn))) (kO (w_k V h a) fun j w a=>dU (D1 128 64 8 rfl ?_)))))))
  replace a:=a.fz
  refine rQ rfl (ySl (k1:=.i64) Q1 e0 a (rdI F0) (.inr ⟨rfl,rfl⟩) (.inl (Z0 some e0)) r) ?_
  replace a:=a.sub F0 r
  refine Rn (qS rfl QSn) (Ly wn (a_ W.v e0) (dU (D1 0 192 9 rfl (Rn (qS rfl (sY rfl (ySl (k1:=.i64) Q1 e0 a (rdI F1) (.inr ⟨rfl,rfl⟩) (.inl (Z0 some e0)) r) QSn)) (Ly wn (a_ ((subH j 1 0 (b.length:Int)).v) e0) (dU (Dw 0 0 (Rn QSn (qx 5 rfl (y (Y2 Q1 e0 a rO0) (q 1 rfl (y (Y2 Q1 e0 a (rdI (F_2 f))) (q 3 rfl ?_)))))))))))))
  refine jC (LI×Hdr) [0,6,7,9] (fun (m,d)=>[(8,d.v)]) (fun (m,d) w=>St w0 (imm (rI .u32) (subH j 1 0 (b.length:Int)).v i::ros) (row 107 (rI .u32) d.v m::rs) w∧m_ii p b i S m=some out) rfl ?_ ?_
  ·rintro ⟨m,d⟩ g w ⟨a,c⟩
   refine q 4 rfl (y (Y2 Q1 e0 a (rdI (mtF f))) (bE c fun b7 X c=>q 3 rfl (yh (rMk a Q1 e0 X) fun o w a=>q 7 rfl (y (Y2 Q1 e0 a (rdI (mtF f))) (q 6 rfl ?_)))))
   obtain ⟨⟨G,H⟩,Z,c⟩:=bs c
   refine lp Z [6,7,8,9,10] (fun (s,k,t)=>[(11,iV t)]) (fun (s,k,t)=>St w0 (imm (rI .u32) (subH j 1 0 (b.length:Int)).v i::ros) (row 107 (rI .u32) d.v s::row 107 (rI .u32) o.v k::rs)) (fun | (G,H)=>(.exit 0,[],St w0 ros (row 107 (rI .u32) d.v G::row 107 (rI .u32) o.v H::rs))) rfl (a.k10) rfl ?_ ?_
   ·clear a
    intro g w a
    refine bE c fun b8 a0 c=>q 5 rfl ?_
    replace a:=a.fz
    refine cO (w_d a0 F0 a) fun b9 w a=>bE c fun c0 a1 c=>q 1 rfl ?_
    replace a:=a.fz
    refine cO (w_l a1 F0 a) fun c1 w a=>bE c fun c2 a2 c=>q 10 rfl ?_
    replace a:=(a.k10).fz
    refine cO (w_d a2 F0 a) fun c3 w a=>bE c fun c4 a3 c=>q 1 rfl ?_
    replace a:=(a.k10).fz
    refine cO (w_d a3 F0 a) fun c5 w a=>q 5 rfl ?_
    cases c
    replace a:=a.fz
    exact E _ _ _ (X3 results166 ⟨rfl,rfl⟩ ⟨rfl,rfl⟩ ⟨_,_,rfl,(a.facts (Q0 F0 (N0 (N0 (N0 (N0 (N0 A1)))))))⟩)
   rintro ⟨s,k,t⟩ g w c7 a c
   refine q 7 rfl (cI c (fun a4 c=>?_) fun a4 c=>?_)
   ·refine q 5 rfl (bE c fun a5 I c=>bE c fun a6 J c=>dS [17] 1 E1 ?_)
    replace a:=a.drew
    refine D1 131071 0 17 rfl (qR 4 rfl (rQ rfl (yIa Q1 e0 e0 a rO0 I) (rQ rfl (yI V3 e0 a rO0 I) (qR 7 rfl (rQ rfl (yIa Q1 e0 e0 a rO0 J) (rQ rfl (yI V3 e0 a rO0 J) (qR 2 rfl (Rn QSn (Ly wn (a_ (.int .u64 (wor .u64 (wslc .u64 (wc .u64 a5) 32) (wc .u64 a6))) e0) (dU (Dw 0 0 (Rn QSn (bE c fun c8 K c=>?_)))))))))))))
    refine qx 7 rfl (y (yIa Q1 e0 e0 a (rdI F0) K) (y (yI V3 e0 a (rdI F0) K) (bE c fun c9 a7 c=>q 1 rfl (y (Ie e0 e0 a7) (q 6 rfl ?_)))))
    obtain ⟨⟨L,u⟩,a8,c⟩:=bs c
    refine lp a8 [6,7,8,9,10,11] (fun (x,z)=>[(13,.int .u64 z)]) (fun (x,z)=>St w0 (imm (rI .u32) (subH j 1 0 (b.length:Int)).v i::ros) (row 107 (rI .u32) d.v x::row 107 (rI .u32) o.v k::rs)) (fun | (L,u)=>(.exit 2,[(13,.int .u64 u)],St w0 (imm (rI .u32) (subH j 1 0 (b.length:Int)).v i::ros) (row 107 (rI .u32) d.v L::row 107 (rI .u32) o.v k::rs))) rfl a rfl ?_ ?_
    ·clear a
     intro g w a
     refine bE c fun d0 N c=>q 7 rfl (y (yIs Q1 e0 e0 a rO1 N) ?_)
     replace a:=a.k10
     refine yt (Q3 (cs:=[.int .u32 (wc .u32 u)]) a V3 rfl e0 e0 rfl mkI N) fun w a=>q 8 rfl ?_
     cases c
     exact lo (a.k10)
    rintro ⟨x,z⟩ g w d1 a c
    refine bE c fun d2 a9 c=>q 7 rfl (cZ (xh a9 F0 a) fun w a=>q 3 rfl ?_)
    refine cJn c (fun b0 c=>?_) fun b0 c=>?_
    ·refine q 2 rfl ?_
     cases c
     exact xo a
    ·refine q 9 rfl ?_
     cases c
     exact lo a
   ·refine q 2 rfl ?_
    cases c
    exact xo (a.fc)
  refine cI c (fun b1 c=>?_) fun b1 c=>?_
  ·refine q 2 rfl (yh (rLt (n:=1) (l:=[0]) a Q1 [.int .u32 0] (bp1 rfl) rfl rfl (N1 (cs:=[.int .u32 0]) rfl mkI X1)) fun d3 w a=>bE c fun d4 b2 c=>?_)
   replace a:=a.k10
   exact yh (rAp a Q1 e0 e0 rO1 b2) fun d5 w a=>q 2 rfl (jx (_,_) ⟨((a.k11).facts (Q0 F0 (N0 (N0 A1)))),c⟩)
  ·exact q 1 rfl (jx (_,_) ⟨(a.facts (Q0 F0 (N0 (N0 A1)))),c⟩)
instance:CL prog 166 (type_of% @wh):=⟨@wh⟩
end Go.Proofs.YthekfonboblioaaGreatDoor
