/- Walks: each function computes its model, printed. -/
import Derived.Test.YthekfonboblioaaGreatDoorW5
namespace Go.Proofs.YthekfonboblioaaGreatDoor
open Go Sx M Go.Proofs.Tryz
set_option maxRecDepth 100000
set_option maxHeartbeats 40000000
set_option linter.unusedVariables false
attribute [local irreducible] wpList Code.wp Calls DR QR QS LA LS St row box fam imm rowS loop
variable {w0:World} {ros:List Fact} {rs:List Res} {w:World}
theorem Nm {b d:Int} {O R S:LI} {f h i:Hdr} {out:(List (List (Bool×LI)))×Int×Int} (c:m_ee b d O R S=some out) (d3:imm I1 f.v O∈ros) (d4:imm I1 h.v R∈ros) (d5:imm (rI .u64) i.v S∈ros) (d6:globF∈ros) (a:St w0 ros rs w):
  Calls prog 14 #[.agg #[iV b,iV d,f.v,h.v,i.v]] w (fun e w=>∃ (T:Hdr) (U:List Hdr),e=.returned (.tuple #[T.v,iV out.2.1,iV out.2.2])∧St w0 ros (row 56 rH T.v U::fam 62 (rP rB (rS (rI .u32))) U out.1::rs) w):=by
 refine en func14 rfl ntmps14 fun Q E=>?_
 refine z 3 12 ?_;intro l w a d7 d8 c w a
 refine cIn c (fun a9 c=>?_) fun a9 c=>?_
 ·refine z 1 2 ?_
  refine jW 4 [1,3] [(27,.bool ((decide ((16:Int) < b)) || (decide ((16:Int) < d))))] (St w0 ros (box l 26 [iV b,iV d,f.v,h.v,i.v]::rs)) rfl (fun V=>?_) ?_
  ·refine gB 23 rfl (fun F=>?_) fun F=>?_
   ·exact q 4 rfl (V _ _ a (J1 (Z0 Value.bool (orT F)) rfl))
   ·refine z 1 2 ?_
    exact V _ _ a (J1 (Z0 Value.bool (orF F)) rfl)
  intro g w a
  refine q 3 rfl ?_
  refine cJ c (fun b0 c=>?_) fun b0 c=>?_
  ·refine q 10 rfl ?_
   cases c
   replace a:=((a.rowNh 56 rH).fNew 62 (rP rB (rS (rI .u32)))).k10
   exact E _ _ _ (J8 results14 ⟨rfl,rfl⟩ ⟨rfl,rfl⟩ ⟨rfl,rfl⟩ ⟨_,_,rfl,(a.k1r)⟩)
  ·refine z 2 4 ?_
   refine bE c fun W b1 c=>?_
   refine lp b1 [1,29,30] (fun (n,o,r)=>[(3,iV n),(5,.bool o),(31,iV r)]) (fun (n,o,r)=>St w0 ros (box l 26 [iV b,iV d,f.v,h.v,i.v]::rs)) (fun | W=>(.exit 1,[(3,iV W)],St w0 ros (box l 26 [iV b,iV d,f.v,h.v,i.v]::rs))) rfl a rfl ?_ ?_
   ·clear a
    intro g w a
    refine z 1 0 ?_
    refine bE c fun d9 b2 c=>?_
    obtain ⟨b3,em49,b4⟩:=Ti b2 hnil
    refine yh (rMk a P4 e0 b4) fun p w a=>?_
    replace a:=(a.fReps 62 (rP rB (rS (rI .u32))) b3).k10
    rw [← em49] at a
    refine q 7 rfl (y (C6 P4 e0 a rO0 R1) (bE c fun X b5 c=>q 4 rfl ?_))
    refine lpN (List Hdr) (List Hdr) b5 [1,2,3,56] (fun (G,H) s=>[(57,iV H)]) (fun (G,H) s=>St w0 ros (box l 26 [iV b,iV d,f.v,h.v,i.v]::row 56 rH p.v s::fam 62 (rP rB (rS (rI .u32))) s G::rs)) (fun | X,k=>(.exit 3,[],St w0 ros (box l 26 [iV b,iV d,f.v,h.v,i.v]::row 56 rH p.v k::fam 62 (rP rB (rS (rI .u32))) k X::rs))) rfl _ (a.k16) rfl ?_ ?_
    ·clear a
     rintro k g w a
     refine z 3 4 ?_;intro Z e1 c a0 w a
     refine bE c fun a1 b6 c=>?_
     refine lp b6 [2,3,68,69] (fun (I,t)=>[(70,iV t)]) (fun (I,t)=>St w0 ros (row 56 rH p.v k::fam 62 (rP rB (rS (rI .u32))) k I::row 79 rTi64i64u64 a0.v Z::rs)) (fun | a1=>(.exit 5,[],St w0 ros (row 56 rH p.v k::fam 62 (rP rB (rS (rI .u32))) k a1::rs))) rfl (a.k1p) rfl ?_ ?_
     ·clear a
      intro g w a
      refine q 12 rfl ?_
      cases c
      exact E _ _ _ (J8 results14 ⟨rfl,rfl⟩ ⟨rfl,rfl⟩ ⟨rfl,rfl⟩ ⟨_,_,rfl,a⟩)
     rintro ⟨I,t⟩ g w b7 a c
     refine q 6 rfl (cI c (fun b8 c=>?_) fun b8 c=>?_)
     ·refine z 1 0 ?_;intro x c0 c
      refine y (yFn Ps e0 a rO2 c0 rfl) ?_
      refine z 8 3 ?_;intro e2 w a w a a2 e3 c c1 w a e4 w a w a e5 e6 c w a
      refine jC (List (List (Bool×LI))) [2,3,68,69,70] (fun A=>[]) (fun A w=>St w0 ros (row 56 rH p.v k::fam 62 (rP rB (rS (rI .u32))) k A::row 79 rTi64i64u64 a0.v Z::rs) w∧m_d9 t A=some b7) rfl ?_ ?_
      ·rintro A g w ⟨a,c⟩
       refine q 6 rfl ?_
       cases c
       exact lo a
      refine cIn c (fun c2 c=>?_) fun c2 c=>?_
      ·exact q 1 rfl (jx _ ⟨((a.k3e).fc),c⟩)
      ·refine bE c fun e7 J c=>bE c fun c3 c4 c=>bE c fun e8 a3 c=>bE c fun e9 c5 c=>dS [13,18] 2 E1 ?_
       replace a:=a.drew
       refine D1 8191 0 13 rfl (qR 2 rfl (rQ rfl (lb_ (iV x.1) O_3 e0 a R1) ?_))
       obtain ⟨f0,m⟩:=a.famI R3 J
       refine rQ rfl (yIa P4 e0 e0 a rO2 m) (rQ rfl (yF1 Q4 e0 a rO2 m rfl) (qR 1 rfl (rQ rfl (lb_ (iV x.2.1) O_3 e0 a R1) (qR 1 rfl (rQ rfl (I2 [.bool a2.2.1,c1.v] P0 e0 a R0) (qR 1 rfl (rQ rfl (lb_ (iV a2.2.2.2) O_3 e0 a R0) (qR 2 rfl (Rn QSn (kO (Th c4 F0 a) fun c6 w a=>dU (D0 245760 127 18 rfl (qR 3 rfl ?_))))))))))))
       refine rQ rfl (yIs Q2 e0 e0 a (rdF R3 m J) a3) (Rn (qS rfl (qS rfl (sY rfl (lb_ (iV x.1) O_3 e0 a R1) (sY rfl (yIa P4 e0 e0 a rO2 m) (sY rfl (yF1 Q4 e0 a rO2 m rfl) (qS rfl (sY rfl (lb_ (iV x.2.1) O_3 e0 a R1) QSn))))))) ?_)
       replace a:=a.k1c
       refine LT wn (T7 (cs:=[.bool c3.1,c6.v]) (a.foc m J) P0 e0 e0 rfl (mkP mkB (mkS F0)) a3) fun w a=>?_
       replace a:=a.unfoc' m c5
       refine z 1 0 ?_
       exact jx _ ⟨((a.k3f).fc),c⟩
     ·refine q 2 rfl ?_
      cases c
      exact xo (a.k1r)
    rintro ⟨G,H⟩ s g w f1 a c
    refine q 6 rfl (cI c (fun c7 c=>?_) fun c7 c=>?_)
    ·refine z 1 0 ?_
     refine bE c fun f2 c8 c=>yh (rMk a Q2 e0 c8) fun a4 w a=>bE c fun f3 a5 c=>?_
     obtain ⟨f4,K⟩:=Y8 (u:=a4) a5 (a.famL (mtR (mtR (mtR mhR))))
     refine y (yIs P4 e0 e0 a rO2 K) ?_
     replace a:=a.k16
     refine yt (Q3 (cs:=[a4.v]) a Q4 rfl e0 e0 rfl (mkF rfl) K) fun w a=>?_
     replace a:=(a.k3g).fput K a5
     refine q 7 rfl ?_
     cases c
     exact ln _ (a.k18)
    ·refine q 2 rfl ?_
     cases c
     exact lx _ a
   rintro ⟨n,o,r⟩ g w c9 a c
   refine q 6 rfl (cI c (fun d0 c=>?_) fun d0 c=>?_)
   ·refine z 7 2 ?_;intro f5 f6 c j f7 c B w a a6 w a w a d1 f8 c w a
    refine jW 8 [1,3,5,8,29,30,31] [(48,.bool ((!(decide (d1=0))) && (o || (decide (j.2.2.2 < n)))))] (St w0 (imm (rI .u32) B.v j.2.2.1::ros) (box l 26 [iV b,iV d,f.v,h.v,i.v]::box a6 71 [.bool j.1,.bool j.2.1,B.v,iV j.2.2.2]::rs)) rfl (fun a7=>?_) ?_
    ·refine gB 40 rfl (fun L=>?_) fun L=>?_
     ·refine q 2 rfl ?_
      refine jW 5 [1,3,5,8,29,30,31,40] [(47,.bool (o || (decide (j.2.2.2 < n))))] (St w0 (imm (rI .u32) B.v j.2.2.1::ros) (box l 26 [iV b,iV d,f.v,h.v,i.v]::box a6 71 [.bool j.1,.bool j.2.1,B.v,iV j.2.2.2]::rs)) rfl (fun a8=>?_) ?_
      ·refine gB 42 rfl (fun N=>?_) fun N=>?_
       ·exact q 5 rfl (a8 _ _ (a.k10) (J1 (Z0 Value.bool (orT N)) rfl))
       ·refine z 1 3 ?_
        exact a8 _ _ (a.k10) (J1 (Z0 Value.bool (orF N)) rfl)
      intro g w a
      exact q 1 rfl (a7 _ _ a (J1 (Z0 Value.bool (W5 L)) rfl))
     ·exact q 8 rfl (a7 _ _ (a.k10) (J1 (Z0 Value.bool (X5 L)) rfl))
    intro g w a
    refine q 2 rfl ?_
    refine jC (Int×Bool) [1,29,30,31] (fun (C,D)=>[(3,iV C),(5,.bool D)]) (fun (C,D) w=>St w0 ros (box l 26 [iV b,iV d,f.v,h.v,i.v]::rs) w∧m_ec r C D=some c9) rfl ?_ ?_
    ·rintro ⟨C,D⟩ g w ⟨a,c⟩
     refine q 6 rfl ?_
     cases c
     exact lo a
    refine cJ c (fun d2 c=>?_) fun d2 c=>?_
    ·refine dS [2,3] 2 E1 ?_
     replace a:=a.drew
     refine z 4 0 ?_
     exact jx (_,_) ⟨((a.k11).fc),c⟩
    ·exact q 1 rfl (jx (_,_) ⟨((a.k11).fc),c⟩)
   ·refine q 2 rfl ?_
    cases c
    exact xo a
 ·refine q 11 rfl ?_
  cases c
  replace a:=((a.rowNh 56 rH).fNew 62 (rP rB (rS (rI .u32)))).k10
  exact E _ _ _ (J8 results14 ⟨rfl,rfl⟩ ⟨rfl,rfl⟩ ⟨rfl,rfl⟩ ⟨_,_,rfl,(a.k1r)⟩)
instance:CL prog 14 (type_of% @Nm):=⟨@Nm⟩
theorem Mm {j:List (List (Bool×LI))} {b:Int} {k:Hdr} {out:(List (List (Bool×LI)))} (c:m_eg j b=some out) (s:imm (rS (rP rB (rS (rI .u32)))) k.v j∈ros) (a:St w0 ros rs w):
  Calls prog 98 #[k.v,iV b] w (fun e w=>∃ (m:Hdr),e=.returned (m.v)∧St w0 ros (row 56 (rS (rP rB (rS (rI .u32)))) m.v out::rs) w):=by
 refine en func98 rfl ntmps98 fun Q A=>?_
 refine z 1 4 ?_
 refine bE c fun o t c=>?_
 replace a:=a.rowNh 56 (rS (rP rB (rS (rI .u32))))
 refine lpN Hdr Hdr t [1,8,9] (fun (f,h) d=>[(5,d.v),(10,iV h)]) (fun (f,h) d=>St w0 ros (row 56 (rS (rP rB (rS (rI .u32)))) d.v f::rs)) (fun | o,i=>(.exit 0,[(5,i.v)],St w0 ros (row 56 (rS (rP rB (rS (rI .u32)))) i.v o::rs))) rfl _ a rfl ?_ ?_
 ·clear a
  rintro i g w a
  exact vx
 rintro ⟨f,h⟩ d g w B a c
 refine v 0 ?_
 refine ⟨fun _ _ _ u c=>?_,vt⟩
 obtain ⟨p,a⟩:=iLs a s u
 refine y (yCt Q4 e0 a F1 rfl) (bE c fun x r c=>q 7 rfl (y (ySl (k1:=.i64) Q2 e0 a (rdI F0) (.inr ⟨rfl,rfl⟩) (.inl (Z0 some e0)) r) ?_))
 replace a:=a.sub F0 r
 exact yh (rLt (n:=1) (l:=[x]) a P5 [(subH p 2 0 b).v] (bp1 e0) rfl rfl (N1 (cs:=[(subH p 2 0 b).v]) rfl (mkS F0) X1)) fun C w a=>vx
instance:CL prog 98 (type_of% @Mm):=⟨@Mm⟩
theorem Jm {b:List (List (Bool×LI))} {d:Hdr} {out:Int} (c:m_eh b=some out) (e:imm (rS (rP rB (rS (rI .u32)))) d.v b∈ros) (a:St w0 ros rs w):
  Calls prog 100 #[d.v] w (rv w0 ros rs (iV out)):=by
 refine en func100 rfl ntmps100 fun Q g=>?_
 refine v 0 ?_
 refine ⟨vt,fun _ _ _ f c=>?_⟩
 obtain ⟨h,a⟩:=iLs a e f
 exact vx
instance:CL prog 100 (type_of% @Jm):=⟨@Jm⟩
theorem Rh {f:List (Bool×LI)} {b:Int} {g:Hdr} {d:Nat} {out:Bool} (c:m_ei f b=some out) (h:imm (rP rB (rS (rI .u32))) g.v f∈ros) (a:St w0 ros (box d 3 [iV b]::rs) w):
  Calls prog 149 #[g.v,(pB d)] w (fun e w=>e=.returned (.bool out)∧St w0 ros (box d 3 [iV b]::rs) w):=by
 exact en func149 rfl ntmps149 fun Q i=>vx
instance:CL prog 149 (type_of% @Rh):=⟨@Rh⟩
theorem Im {h:List (List (Bool×LI))} {b:Int} {i:Hdr} {d:Nat} {out:Int} (c:m_ek h b=some out) (k:imm (rS (rP rB (rS (rI .u32)))) i.v h∈ros) (a:St w0 ros (box d 3 [iV b]::rs) w):
  Calls prog 181 #[i.v,.func (.func 149) #[] #[(pB d)]] w (fun e w=>e=.returned (iV out)∧St w0 ros (box d 3 [iV b]::rs) w):=by
 refine en func181 rfl ntmps181 fun Q p=>?_
 refine z 1 4 ?_
 refine bE c fun l m c=>?_
 refine lp m [0,1,7] (fun f=>[(8,iV f)]) (fun f=>St w0 ros (box d 3 [iV b]::rs)) (fun | .inl ()=>(.exit 0,[],St w0 ros (box d 3 [iV b]::rs)) | .inr j=>(.ret,[(4,iV j)],St w0 ros (box d 3 [iV b]::rs))) rfl a rfl ?_ ?_
 ·clear a
  intro g w a
  rcases l with ⟨⟩ | j
  ·exact vx
  ·exact vx
 rintro f g w q a c
 refine v 0 ?_
 refine ⟨fun _ _ _ n c=>?_,vt⟩
 obtain ⟨r,a⟩:=iLs a k n
 refine y (yCt Q4 e0 a F1 rfl) (bE c fun s o c=>yC (td tD e0 (a1 e0)) (Rh o F0 a) ?_)
 rintro _ w ⟨rfl,a⟩
 refine ⟨_,rfl,?_⟩
 exact nf vx
instance:CL prog 181 (type_of% @Im):=⟨@Im⟩
theorem Hm {f:List (List (Bool×LI))} {b:Int} {g:Hdr} {d:Nat} {out:Bool} (c:m_el f b=some out) (h:imm (rS (rP rB (rS (rI .u32)))) g.v f∈ros) (a:St w0 ros (box d 3 [iV b]::rs) w):
  Calls prog 148 #[g.v,.func (.func 149) #[] #[(pB d)]] w (fun e w=>e=.returned (.bool out)∧St w0 ros (box d 3 [iV b]::rs) w):=by
 exact en func148 rfl ntmps148 fun Q i=>vx
instance:CL prog 148 (type_of% @Hm):=⟨@Hm⟩
theorem Fm {b:List (List (Bool×LI))} {d:Hdr} {out:Int} (c:m_em b=some out) (f:imm (rS (rP rB (rS (rI .u32)))) d.v b∈ros) (a:St w0 ros rs w):
  Calls prog 99 #[d.v] w (rv w0 ros rs (iV out)):=by
 refine en func99 rfl ntmps99 fun Q g=>?_
 refine z 3 7 ?_;intro h i c w a e w a w a
 exact y (ymf (vf:=#[]) (vc:=#[(pB e)]) a0 (a1 e0)) vx
instance:CL prog 99 (type_of% @Fm):=⟨@Fm⟩
theorem ef {x:List (List (Bool×LI))} {A:List (Bool×LI)} {B C:Hdr} {out:(List (List (Bool×LI)))} (c:m_eq x A=some out) (K:imm (rS (rP rB (rS (rI .u32)))) B.v x∈ros) (L:imm (rP rB (rS (rI .u32))) C.v A∈ros) (a:St w0 ros rs w):
  Calls prog 102 #[B.v,C.v] w (fun e w=>∃ (D:Hdr) (E:List Hdr),e=.returned (D.v)∧St w0 ros (row 56 rH D.v E::fam 62 (rP rB (rS (rI .u32))) E out::rs) w):=by
 refine en func102 rfl ntmps102 fun Q N=>?_
 refine z 1 4 ?_
 refine bE c fun F O c=>?_
 replace a:=((a.rowNh 56 rH).fNew 62 (rP rB (rS (rI .u32)))).k10
 refine lpN (Hdr×(List Hdr)) (Hdr×(List Hdr)) O [1,11,12] (fun (d,j) (f,b)=>[(5,f.v),(13,iV j)]) (fun (d,j) (f,b)=>St w0 ros (row 56 rH f.v b::fam 62 (rP rB (rS (rI .u32))) b d::rs)) (fun | F,(p,r)=>(.exit 0,[(5,p.v)],St w0 ros (row 56 rH p.v r::fam 62 (rP rB (rS (rI .u32))) r F::rs))) rfl (_,_) a rfl ?_ ?_
 ·clear a
  rintro ⟨p,r⟩ g w a
  refine q 9 rfl ?_
  cases c
  exact N _ _ _ (V2 results102 ⟨rfl,rfl⟩ ⟨_,_,rfl,a⟩)
 rintro ⟨d,j⟩ ⟨f,b⟩ g w R a c
 refine q 6 rfl (cI c (fun S c=>?_) fun S c=>?_)
 ·refine z 1 0 ?_;intro T U c
  obtain ⟨V,a⟩:=iLs a K U
  refine y (yCt Q4 e0 a F1 rfl) ?_
  refine z 1 4 ?_
  refine bE c fun G W c=>?_
  replace a:=a.rowNh 62 (rP rB (rS (rI .u32)))
  refine lpN Hdr Hdr W [1,5,6,11,12,13,18,19] (fun (s,t) k=>[(8,k.v),(20,iV t)]) (fun (s,t) k=>St w0 (imm (rP rB (rS (rI .u32))) V.v T::ros) (row 56 rH f.v b::fam 62 (rP rB (rS (rI .u32))) b d::row 62 (rP rB (rS (rI .u32))) k.v s::rs)) (fun | G,u=>(.exit 2,[(8,u.v)],St w0 ros (row 56 rH f.v b::fam 62 (rP rB (rS (rI .u32))) b d::row 62 (rP rB (rS (rI .u32))) u.v G::rs))) rfl _ ((a.k1d).facts (Q0 F0 (N0 (N0 A1)))) rfl ?_ ?_
  ·clear a
   rintro u g w a
   refine z 1 3 ?_
   refine jC ((List (Bool×LI))×Hdr) [1,5,11,12,13] (fun (i,h)=>[(8,h.v)]) (fun (i,h) w=>St w0 ros (row 56 rH f.v b::fam 62 (rP rB (rS (rI .u32))) b d::row 62 (rP rB (rS (rI .u32))) h.v i::rs) w∧m_en d j i=some R) rfl ?_ ?_
   ·rintro ⟨i,h⟩ g w ⟨a,c⟩
    refine q 4 rfl (yh (rLt (n:=1) (l:=[h]) a P4 [h.v] (bp1 e0) rfl rfl (N1 rfl (mkF rfl) X1)) fun a7 w a=>bE c fun a8 H c=>?_)
    replace a:=a.k10
    obtain ⟨a9,ey217,X⟩:=Wb H (a.famL R2) (show [h].length=[i].length from rfl)
    refine yh (rAp a P4 e0 e0 rO1 X) fun b0 w a=>?_
    replace a:=(a.k1y).fPush
    rw [← ey217,← (Ca H).1] at a
    refine q 8 rfl ?_
    cases c
    exact ln (_,_) (a.k1e)
   refine cI c (fun Z c=>?_) fun Z c=>?_
   ·refine z 1 0 ?_;intro a0 a1 c
    obtain ⟨b1,b2,a⟩:=iLd a L a1
    obtain ⟨b3,b4,rfl,a⟩:=a.eltP
    obtain ⟨rfl,a⟩:=a.eltB
    obtain ⟨a2,rfl,a⟩:=a.eltS
    refine y (D6 (cs:=[.bool a0.1,a2.v]) P0 rfl e0 a F1) ?_
    refine z 1 0 ?_;intro m b5 c I w a
    refine yh (rLt (n:=1) (l:=[(m.1,m.2)]) a Q2 [.agg #[.bool m.1,I.v]] (bp1 e0) rfl rfl (N1 (cs:=[.bool m.1,I.v]) rfl (mkP mkB (mkS F0)) X1)) fun b6 w a=>?_
    refine z 1 2 ?_;intro b7 b8 c b9 w a
    exact jx (_,_) ⟨((a.k1p).fc),c⟩
   ·exact q 1 rfl (jx (_,_) ⟨a,c⟩)
  rintro ⟨s,t⟩ k g w c0 a c
  refine q 6 rfl (cI c (fun a3 c=>?_) fun a3 c=>?_)
  ·refine z 1 0 ?_;intro a4 a5 c
   obtain ⟨c1,c2,a⟩:=iLd a F0 a5
   obtain ⟨c3,c4,rfl,a⟩:=a.eltP
   obtain ⟨rfl,a⟩:=a.eltB
   obtain ⟨a6,rfl,a⟩:=a.eltS
   refine y (D6 (cs:=[.bool a4.1,a6.v]) P0 rfl e0 a F1) ?_
   refine z 4 0 ?_;intro c5 w a w a o c6 c J w a
   refine yh (rLt (n:=1) (l:=[(o.1,o.2)]) a Q2 [.agg #[.bool o.1,J.v]] (bp1 e0) rfl rfl (N1 (cs:=[.bool o.1,J.v]) rfl (mkP mkB (mkS F0)) X1)) fun c7 w a=>?_
   refine z 1 8 ?_;intro c8 c9 c d0 w a
   cases c
   exact ln _ ((a.k3h).facts (Q0 F3 (N0 (N0 (N0 (N0 A1))))))
  ·refine q 2 rfl ?_
   cases c
   exact lx _ (a.fc)
 ·refine q 2 rfl ?_
  cases c
  exact lx (_,_) a
instance:CL prog 102 (type_of% @ef):=⟨@ef⟩
theorem Cm {e f:LI} {n o:Hdr} {out:LI} (c:m_et e f=some out) (J:imm (rI .u32) n.v e∈ros) (K:imm (rI .u32) o.v f∈ros) (a:St w0 ros rs w):
  Calls prog 173 #[n.v,o.v] w (ri w0 ros rs (rI .u32) out):=by
 refine en func173 rfl ntmps173 fun Q p=>?_
 refine z 1 2 ?_
 refine jW 4 [0,1] [(19,.bool ((decide ((e.length:Int)=0)) || (decide ((f.length:Int)=0))))] (St w0 ros rs) rfl (fun r=>?_) ?_
 ·refine gB 15 rfl (fun h=>?_) fun h=>?_
  ·exact q 4 rfl (r _ _ a (J1 (Z0 Value.bool (orT h)) rfl))
  ·refine z 1 2 ?_
   exact r _ _ a (J1 (Z0 Value.bool (orF h)) rfl)
 intro g w a
 refine q 2 rfl ?_
 refine cJ c (fun A c=>?_) fun A c=>?_
 ·refine q 7 rfl ?_
  cases c
  replace a:=a.immNh (rI .u32)
  exact p _ _ _ (V2 results173 ⟨rfl,rfl⟩ ⟨_,rfl,a⟩)
 ·refine z 2 1 ?_
  refine bE c fun L B c=>yh (rMk a Q1 e0 B) fun b w a=>?_
  refine z 1 4 ?_
  refine bE c fun s C c=>?_
  refine lp C [1,5,26,27] (fun (i,j)=>[(28,iV j)]) (fun (i,j)=>St w0 ros (row 107 (rI .u32) b.v i::rs)) (fun | s=>(.exit 0,[],St w0 ros (row 107 (rI .u32) b.v s::rs))) rfl a rfl ?_ ?_
  ·clear a
   intro g w a
   refine z 1 4 ?_;intro N O c R w a
   cases c
   exact p _ _ _ (V2 results173 ⟨rfl,rfl⟩ ⟨_,rfl,(a.facts (Q0 F0 (N0 (N0 A1))))⟩)
  rintro ⟨i,j⟩ g w S a c
  refine q 6 rfl (cI c (fun D c=>?_) fun D c=>?_)
  ·refine z 3 4 ?_;intro E T c
   obtain ⟨⟨t,k⟩,F,c⟩:=bs c
   refine lp F [1,5,6,7,26,27,28,33,34] (fun (l,d,m)=>[(8,.int .u64 d),(35,iV m)]) (fun (l,d,m)=>St w0 ros (row 107 (rI .u32) b.v l::rs)) (fun | (t,k)=>(.exit 2,[(8,.int .u64 k)],St w0 ros (row 107 (rI .u32) b.v t::rs))) rfl a rfl ?_ ?_
   ·clear a
    intro g w a
    refine z 1 3 ?_
    refine bE c fun U u c=>y (yIs Q1 e0 e0 a rO0 u) (yt (Q3 (cs:=[.int .u32 (wc .u32 k)]) a V3 rfl e0 e0 rfl mkI u) fun w a=>q 7 rfl ?_)
    cases c
    exact lo a
   rintro ⟨l,d,m⟩ g w V a c
   refine q 6 rfl (cI c (fun G c=>?_) fun G c=>?_)
   ·refine z 4 16 ?_;intro H W c I X c
    refine bE c fun Z x c=>y (yIs Q1 e0 e0 a rO0 x) (yt (Q3 (cs:=[.int .u32 (wc .u32 (wand .u64 (wa .u64 (wa .u64 (wm .u64 (wc .u64 E) (wc .u64 H)) (wc .u64 I)) d) 4294967295))]) a V3 rfl e0 e0 rfl mkI x) fun w a=>q 13 rfl ?_)
    cases c
    exact lo a
   ·refine q 2 rfl ?_
    cases c
    exact xo a
  ·refine q 2 rfl ?_
   cases c
   exact xo a
instance:CL prog 173 (type_of% @Cm):=⟨@Cm⟩
theorem df {b:Bool} {d:LI} {e:Bool} {f:LI} {g h:Hdr} {out:Bool×LI} (c:m_eu b d e f=some out) (i:imm (rI .u32) g.v d∈ros) (j:imm (rI .u32) h.v f∈ros) (a:St w0 ros rs w):
  Calls prog 131 #[.agg #[.bool b,g.v],.agg #[.bool e,h.v]] w (rb w0 ros rs out):=by
 exact en func131 rfl ntmps131 fun Q k=>vx
instance:CL prog 131 (type_of% @df):=⟨@df⟩
theorem Bm {b:Int} {out:Bool} (c:m_ev b=some out) (a:St w0 ros rs w):
  Calls prog 196 #[.int .u32 b] w (rv w0 ros rs (.bool out)):=by
 exact en func196 rfl ntmps196 fun Q d=>vx
instance:CL prog 196 (type_of% @Bm):=⟨@Bm⟩
theorem zm {b d out:Int} (c:m_ew b d=some out) (a:St w0 ros rs w):
  Calls prog 193 #[.int .u32 b,.int .u32 d] w (rv w0 ros rs (iV out)):=by
 exact en func193 rfl ntmps193 fun Q e=>vx
instance:CL prog 193 (type_of% @zm):=⟨@zm⟩
theorem xm {b d out:Int} (c:m_ex b d=some out) (a:St w0 ros rs w):
  Calls prog 192 #[iV b,iV d] w (rv w0 ros rs (iV out)):=by
 exact en func192 rfl ntmps192 fun Q e=>vx
instance:CL prog 192 (type_of% @xm):=⟨@xm⟩
theorem vm {e f:LI} {h i:Hdr} {out:Int} (c:m_ez e f=some out) (p:imm (rI .u32) h.v e∈ros) (r:imm (rI .u32) i.v f∈ros) (a:St w0 ros rs w):
  Calls prog 171 #[h.v,i.v] w (rv w0 ros rs (iV out)):=by
 refine en func171 rfl ntmps171 fun Q b=>?_
 refine z 2 3 ?_
 refine cIn c (fun k c=>?_) fun k c=>?_
 ·refine z 1 5 ?_
  refine bE c fun l m c=>?_
  refine lp m [0,1] (fun d=>[(5,iV d)]) (fun d=>St w0 ros rs) (fun | .inl ()=>(.exit 0,[],St w0 ros rs) | .inr j=>(.ret,[(4,iV j)],St w0 ros rs)) rfl a rfl ?_ ?_
  ·clear a
   intro g w a
   rcases l with ⟨⟩ | j
   ·refine q 8 rfl ?_
    cases c
    exact za b results171 ⟨rfl,a⟩
   ·refine q 2 rfl ?_
    cases c
    exact za b results171 ⟨rfl,a⟩
  rintro d g w s a c
  refine q 7 rfl (cI c (fun n c=>?_) fun n c=>?_)
  ·refine q 5 rfl (bE c fun t u c=>bE c fun x y c=>dS [] 0 E1 ?_)
   replace a:=a.drew
   refine z 5 1 ?_
   refine cIn c (fun o c=>?_) fun o c=>?_
   ·refine q 8 rfl ?_
    cases c
    exact lo a
   ·refine q 1 rfl (bE c fun A B c=>bE c fun C D c=>bE c fun E F c=>dS [8,9] 2 E1 ?_)
    replace a:=a.drew
    refine z 7 4 ?_;intro w a
    cases c
    exact xo a
  ·refine q 2 rfl ?_
   cases c
   exact xo a
 ·refine z 3 5 ?_;intro G H c w a
  cases c
  exact za b results171 ⟨rfl,a⟩
instance:CL prog 171 (type_of% @vm):=⟨@vm⟩
end Go.Proofs.YthekfonboblioaaGreatDoor
