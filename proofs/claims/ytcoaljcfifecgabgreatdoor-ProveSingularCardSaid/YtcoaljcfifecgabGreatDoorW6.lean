/- Walks: each function computes its model, printed. -/
import Derived.Test.YtcoaljcfifecgabGreatDoorW5
namespace Go.Proofs.YtcoaljcfifecgabGreatDoor
open Go Sx M Go.Proofs.Tryz
set_option maxRecDepth 100000
set_option maxHeartbeats 40000000
set_option linter.unusedVariables false
attribute [local irreducible] wpList Code.wp Calls DR QR QS LA LS St row box fam imm rowS loop
variable {w0:World} {ros:List Fact} {rs:List Res} {w:World}
theorem w_cm {b d:Int} {N O R:LI} {f h i:Hdr} {out:(List (List (Bool×LI)))×Int×Int} (c:m_ee b d N O R=some out) (d0:imm I1 f.v N∈ros) (d1:imm I1 h.v O∈ros) (d2:imm (rI .u64) i.v R∈ros) (d3:globF∈ros) (a:St w0 ros rs w):
  Calls prog 14 #[.agg #[iV b,iV d,f.v,h.v,i.v]] w (fun e w=>∃ (S:Hdr) (T:List Hdr),e=.returned (.tuple #[S.v,iV out.2.1,iV out.2.2])∧St w0 ros (row 28 rH S.v T::fam 49 (rP rB (rS (rI .u32))) T out.1::rs) w):=by
 refine en func14 rfl ntmps14 fun Q D=>?_
 refine z 3 12 ?_;intro l w a d4 d5 c w a
 refine cIn c (fun a8 c=>?_) fun a8 c=>?_
 ·refine z 1 2 ?_
  refine jW 4 [1,3] [(27,.bool ((decide ((16:Int) < b)) || (decide ((16:Int) < d))))] (St w0 ros (box l 26 [iV b,iV d,f.v,h.v,i.v]::rs)) rfl (fun U=>?_) ?_
  ·refine gB 23 rfl (fun E=>?_) fun E=>?_
   ·exact q 4 rfl (U _ _ a (hasC (congrArg Value.bool (orT E)) rfl))
   ·refine z 1 2 ?_
    exact U _ _ a (hasC (congrArg Value.bool (orF E)) rfl)
  intro g w a
  refine q 3 rfl ?_
  refine cJ c (fun a9 c=>?_) fun a9 c=>?_
  ·refine q 10 rfl ?_
   cases c
   replace a:=((a.rowNh 28 rH).fNew 49 (rP rB (rS (rI .u32)))).k16
   exact D _ _ _ (fin3r results14 ⟨rfl,rfl⟩ ⟨rfl,rfl⟩ ⟨rfl,rfl⟩ ⟨_,_,rfl,(a.k1d)⟩)
  ·refine z 2 4 ?_
   refine bE c fun V b0 c=>?_
   refine lp b0 [1,29,30] (fun (n,o,r)=>[(3,iV n),(5,.bool o),(31,iV r)]) (fun (n,o,r)=>St w0 ros (box l 26 [iV b,iV d,f.v,h.v,i.v]::rs)) (fun | V=>(.exit 1,[(3,iV V)],St w0 ros (box l 26 [iV b,iV d,f.v,h.v,i.v]::rs))) rfl a rfl ?_ ?_
   ·clear a
    intro g w a
    refine z 1 0 ?_
    refine bE c fun d6 b1 c=>?_
    obtain ⟨b2,em49,b3⟩:=mkL_rep b1 hnil
    refine yh (rMk a SLH_42 e0 b3) fun p w a=>?_
    replace a:=(a.fReps 49 (rP rB (rS (rI .u32))) b2).k16
    rw [← em49] at a
    refine q 7 rfl (y (yLenF SLH_42 e0 a rO0 R1) (bE c fun W b4 c=>q 4 rfl ?_))
    refine lpN (List Hdr) (List Hdr) b4 [1,2,3,56] (fun (F,G) s=>[(57,iV G)]) (fun (F,G) s=>St w0 ros (box l 26 [iV b,iV d,f.v,h.v,i.v]::row 28 rH p.v s::fam 49 (rP rB (rS (rI .u32))) s F::rs)) (fun | W,k=>(.exit 3,[],St w0 ros (box l 26 [iV b,iV d,f.v,h.v,i.v]::row 28 rH p.v k::fam 49 (rP rB (rS (rI .u32))) k W::rs))) rfl _ (a.k15) rfl ?_ ?_
    ·clear a
     rintro k g w a
     refine z 3 4 ?_;intro X d7 c Z w a
     refine bE c fun a0 b5 c=>?_
     refine lp b5 [2,3,68,69] (fun (H,t)=>[(70,iV t)]) (fun (H,t)=>St w0 ros (row 28 rH p.v k::fam 49 (rP rB (rS (rI .u32))) k H::row 71 rTi64i64u64 Z.v X::rs)) (fun | a0=>(.exit 5,[],St w0 ros (row 28 rH p.v k::fam 49 (rP rB (rS (rI .u32))) k a0::rs))) rfl (a.k1k) rfl ?_ ?_
     ·clear a
      intro g w a
      refine q 12 rfl ?_
      cases c
      exact D _ _ _ (fin3r results14 ⟨rfl,rfl⟩ ⟨rfl,rfl⟩ ⟨rfl,rfl⟩ ⟨_,_,rfl,a⟩)
     rintro ⟨H,t⟩ g w b6 a c
     refine q 6 rfl (cI c (fun b7 c=>?_) fun b7 c=>?_)
     ·refine z 1 0 ?_;intro a1 b8 c
      refine y (yFn ST_71 e0 a rO2 b8 rfl) ?_
      refine z 8 3 ?_;intro d8 w a w a d9 e1 c e2 w a e3 w a w a e4 e5 c w a
      refine jC (List (List (Bool×LI))) [2,3,68,69,70] (fun x=>[]) (fun x w=>St w0 ros (row 28 rH p.v k::fam 49 (rP rB (rS (rI .u32))) k x::row 71 rTi64i64u64 Z.v X::rs) w∧m_d9 t x=some b6) rfl ?_ ?_
      ·rintro x g w ⟨a,c⟩
       refine q 6 rfl ?_
       cases c
       exact lo a
      refine cIn c (fun c0 c=>?_) fun c0 c=>?_
      ·exact q 1 rfl (jx _ ⟨((a.k2e).fc),c⟩)
      ·refine bE c fun e6 I c=>bE c fun c1 e7 c=>bE c fun e8 a2 c=>bE c fun e9 c2 c=>dS [13,18] 2 folM ?_
       replace a:=a.drew
       refine z 1 0 ?_
       obtain ⟨f0,m⟩:=a.famI R3 I
       refine rQ rfl (yIa SLH_42 e0 e0 a rO2 m) (rQ rfl (yF1 O_28 e0 a rO2 m rfl) ?_)
       refine z 4 0 ?_;intro c3 w a
       refine dU (D0 245760 127 18 rfl (qR 3 rfl (rQ rfl (yIs SL_28 e0 e0 a (rdF R3 m I) a2) (Rn (qS rfl (qS rfl (sY rfl (lb_ (iV a1.1) O_3 e0 a R1) (sY rfl (yIa SLH_42 e0 e0 a rO2 m) (sY rfl (yF1 O_28 e0 a rO2 m rfl) (qS rfl (sY rfl (lb_ (iV a1.2.1) O_3 e0 a R1) QSn))))))) ?_))))
       replace a:=a.k1e
       refine LT wn (r_stn (cs:=[.bool c1.1,c3.v]) (a.foc m I) ST_49 e0 e0 rfl (mkP mkB (mkS F0)) a2) fun w a=>?_
       replace a:=a.unfoc' m c2
       exact Dw 0 65536 (Rn (qS rfl QSn) (qx 0 rfl (jx _ ⟨((a.k2f).fc),c⟩)))
     ·refine q 2 rfl ?_
      cases c
      exact xo (a.k1d)
    rintro ⟨F,G⟩ s g w f1 a c
    refine q 6 rfl (cI c (fun c4 c=>?_) fun c4 c=>?_)
    ·refine z 1 0 ?_
     refine bE c fun f2 c5 c=>yh (rMk a SL_28 e0 c5) fun a3 w a=>bE c fun f3 a4 c=>?_
     obtain ⟨f4,J⟩:=setI_len (u:=a3) a4 (a.famL (mtR (mtR (mtR mhR))))
     refine y (yIs SLH_42 e0 e0 a rO2 J) ?_
     replace a:=a.k15
     refine yt (r_sti (cs:=[a3.v]) a O_28 rfl e0 e0 rfl (mkF rfl) J) fun w a=>?_
     replace a:=(a.k2g).fput J a4
     refine q 7 rfl ?_
     cases c
     exact ln _ (a.k18)
    ·refine q 2 rfl ?_
     cases c
     exact lx _ a
   rintro ⟨n,o,r⟩ g w c6 a c
   refine q 6 rfl (cI c (fun c7 c=>?_) fun c7 c=>?_)
   ·refine z 7 2 ?_;intro f5 f6 c j f7 c A w a a5 w a w a c8 f8 c w a
    refine jW 8 [1,3,5,8,29,30,31] [(48,.bool ((!(decide (c8=0))) && (o || (decide (j.2.2.2 < n)))))] (St w0 (imm (rI .u32) A.v j.2.2.1::ros) (box l 26 [iV b,iV d,f.v,h.v,i.v]::box a5 63 [.bool j.1,.bool j.2.1,A.v,iV j.2.2.2]::rs)) rfl (fun a6=>?_) ?_
    ·refine gB 40 rfl (fun K=>?_) fun K=>?_
     ·refine q 2 rfl ?_
      refine jW 5 [1,3,5,8,29,30,31,40] [(47,.bool (o || (decide (j.2.2.2 < n))))] (St w0 (imm (rI .u32) A.v j.2.2.1::ros) (box l 26 [iV b,iV d,f.v,h.v,i.v]::box a5 63 [.bool j.1,.bool j.2.1,A.v,iV j.2.2.2]::rs)) rfl (fun a7=>?_) ?_
      ·refine gB 42 rfl (fun L=>?_) fun L=>?_
       ·exact q 5 rfl (a7 _ _ (a.k16) (hasC (congrArg Value.bool (orT L)) rfl))
       ·refine z 1 3 ?_
        exact a7 _ _ (a.k16) (hasC (congrArg Value.bool (orF L)) rfl)
      intro g w a
      exact q 1 rfl (a6 _ _ a (hasC (congrArg Value.bool (andT K)) rfl))
     ·exact q 8 rfl (a6 _ _ (a.k16) (hasC (congrArg Value.bool (andF K)) rfl))
    intro g w a
    refine q 2 rfl ?_
    refine jC (Int×Bool) [1,29,30,31] (fun (B,C)=>[(3,iV B),(5,.bool C)]) (fun (B,C) w=>St w0 ros (box l 26 [iV b,iV d,f.v,h.v,i.v]::rs) w∧m_ec r B C=some c6) rfl ?_ ?_
    ·rintro ⟨B,C⟩ g w ⟨a,c⟩
     refine q 6 rfl ?_
     cases c
     exact lo a
    refine cJ c (fun c9 c=>?_) fun c9 c=>?_
    ·refine dS [2,3] 2 folM ?_
     replace a:=a.drew
     refine z 3 0 ?_
     exact jx (_,_) ⟨((a.k10).fc),c⟩
    ·exact q 1 rfl (jx (_,_) ⟨((a.k10).fc),c⟩)
   ·refine q 2 rfl ?_
    cases c
    exact xo a
 ·refine q 11 rfl ?_
  cases c
  replace a:=((a.rowNh 28 rH).fNew 49 (rP rB (rS (rI .u32)))).k16
  exact D _ _ _ (fin3r results14 ⟨rfl,rfl⟩ ⟨rfl,rfl⟩ ⟨rfl,rfl⟩ ⟨_,_,rfl,(a.k1d)⟩)
instance:CL prog 14 (type_of% @w_cm):=⟨@w_cm⟩
theorem w_cn {j:List (List (Bool×LI))} {b:Int} {k:Hdr} {out:(List (List (Bool×LI)))} (c:m_eg j b=some out) (s:imm (rS (rP rB (rS (rI .u32)))) k.v j∈ros) (a:St w0 ros rs w):
  Calls prog 83 #[k.v,iV b] w (fun e w=>∃ (m:Hdr),e=.returned (m.v)∧St w0 ros (row 28 (rS (rP rB (rS (rI .u32)))) m.v out::rs) w):=by
 refine en func83 rfl ntmps83 fun Q t=>?_
 refine z 1 4 ?_
 refine bE c fun o u c=>?_
 replace a:=a.rowNh 28 (rS (rP rB (rS (rI .u32))))
 refine lpN Hdr Hdr u [1,8,9] (fun (f,h) d=>[(5,d.v),(10,iV h)]) (fun (f,h) d=>St w0 ros (row 28 (rS (rP rB (rS (rI .u32)))) d.v f::rs)) (fun | o,i=>(.exit 0,[(5,i.v)],St w0 ros (row 28 (rS (rP rB (rS (rI .u32)))) i.v o::rs))) rfl _ a rfl ?_ ?_
 ·clear a
  rintro i g w a
  refine q 9 rfl ?_
  cases c
  exact t _ _ _ (fin1r results83 ⟨rfl,rfl⟩ ⟨_,rfl,a⟩)
 rintro ⟨f,h⟩ d g w C a c
 refine q 6 rfl (cI c (fun x c=>?_) fun x c=>?_)
 ·refine z 1 0 ?_;intro D A c
  obtain ⟨p,a⟩:=iLs a s A
  refine y (yCt O_28 e0 a F1 rfl) (bE c fun B r c=>q 7 rfl (y (ySl (k1:=.i64) SL_28 e0 a (rdI F0) (.inr ⟨rfl,rfl⟩) (.inl (congrArg some e0)) r) ?_))
  replace a:=a.sub F0 r
  refine yh (rLt (n:=1) (l:=[B]) a SL_42 [(subH p 2 0 b).v] (bp1 e0) rfl rfl (mks1 (cs:=[(subH p 2 0 b).v]) rfl (mkS F0) mks0)) fun E w a=>?_
  refine z 1 8 ?_;intro F G c H w a
  cases c
  exact ln _ ((a.k10).fc)
 ·refine q 2 rfl ?_
  cases c
  exact lx _ a
instance:CL prog 83 (type_of% @w_cn):=⟨@w_cn⟩
theorem w_co {b:List (List (Bool×LI))} {d:Hdr} {out:Int} (c:m_eh b=some out) (g:imm (rS (rP rB (rS (rI .u32)))) d.v b∈ros) (a:St w0 ros rs w):
  Calls prog 85 #[d.v] w (fun e w=>e=.returned (iV out)∧St w0 ros rs w):=by
 refine en func85 rfl ntmps85 fun Q f=>?_
 refine z 1 3 ?_
 refine cI c (fun h c=>?_) fun h c=>?_
 ·refine q 7 rfl ?_
  cases c
  exact za f results85 ⟨rfl,a⟩
 ·refine z 1 0 ?_;intro j i c
  obtain ⟨k,a⟩:=iLs a g i
  refine y (yCt O_28 e0 a F1 rfl) ?_
  refine z 1 4 ?_
  cases c
  exact za f results85 ⟨rfl,(a.fc)⟩
instance:CL prog 85 (type_of% @w_co):=⟨@w_co⟩
theorem w_cp {f:List (Bool×LI)} {b:Int} {g:Hdr} {d:Nat} {out:Bool} (c:m_ei f b=some out) (i:imm (rP rB (rS (rI .u32))) g.v f∈ros) (a:St w0 ros (box d 3 [iV b]::rs) w):
  Calls prog 131 #[g.v,(pB d)] w (fun e w=>e=.returned (.bool out)∧St w0 ros (box d 3 [iV b]::rs) w):=by
 refine en func131 rfl ntmps131 fun Q h=>?_
 refine z 2 5 ?_
 cases c
 exact za h results131 ⟨rfl,a⟩
instance:CL prog 131 (type_of% @w_cp):=⟨@w_cp⟩
theorem w_cq {h:List (List (Bool×LI))} {b:Int} {i:Hdr} {d:Nat} {out:Int} (c:m_ek h b=some out) (l:imm (rS (rP rB (rS (rI .u32)))) i.v h∈ros) (a:St w0 ros (box d 3 [iV b]::rs) w):
  Calls prog 155 #[i.v,.func (.func 131) #[] #[(pB d)]] w (fun e w=>e=.returned (iV out)∧St w0 ros (box d 3 [iV b]::rs) w):=by
 refine en func155 rfl ntmps155 fun Q j=>?_
 refine z 1 4 ?_
 refine bE c fun m n c=>?_
 refine lp n [0,1,7] (fun f=>[(8,iV f)]) (fun f=>St w0 ros (box d 3 [iV b]::rs)) (fun | .inl ()=>(.exit 0,[],St w0 ros (box d 3 [iV b]::rs)) | .inr k=>(.ret,[(4,iV k)],St w0 ros (box d 3 [iV b]::rs))) rfl a rfl ?_ ?_
 ·clear a
  intro g w a
  rcases m with ⟨⟩ | k
  ·refine q 8 rfl ?_
   cases c
   exact za j results155 ⟨rfl,a⟩
  ·refine q 2 rfl ?_
   cases c
   exact za j results155 ⟨rfl,a⟩
 rintro f g w t a c
 refine q 6 rfl (cI c (fun o c=>?_) fun o c=>?_)
 ·refine z 1 0 ?_;intro u p c
  obtain ⟨x,a⟩:=iLs a l p
  refine y (yCt O_28 e0 a F1 rfl) (bE c fun A r c=>yC (yCallw FN_131 e0 (a1 e0)) (w_cp r F0 a) ?_)
  rintro _ w ⟨rfl,a⟩
  refine ⟨_,rfl,?_⟩
  refine nf (q 2 rfl ?_)
  refine cJ c (fun s c=>?_) fun s c=>?_
  ·refine q 9 rfl ?_
   cases c
   exact xo (a.fc)
  ·refine q 7 rfl ?_
   cases c
   exact lo (a.fc)
 ·refine q 2 rfl ?_
  cases c
  exact xo a
instance:CL prog 155 (type_of% @w_cq):=⟨@w_cq⟩
theorem w_cr {f:List (List (Bool×LI))} {b:Int} {g:Hdr} {d:Nat} {out:Bool} (c:m_el f b=some out) (i:imm (rS (rP rB (rS (rI .u32)))) g.v f∈ros) (a:St w0 ros (box d 3 [iV b]::rs) w):
  Calls prog 130 #[g.v,.func (.func 131) #[] #[(pB d)]] w (fun e w=>e=.returned (.bool out)∧St w0 ros (box d 3 [iV b]::rs) w):=by
 refine en func130 rfl ntmps130 fun Q h=>?_
 refine z 1 5 ?_;intro j k c w a
 cases c
 exact za h results130 ⟨rfl,a⟩
instance:CL prog 130 (type_of% @w_cr):=⟨@w_cr⟩
theorem w_cs {b:List (List (Bool×LI))} {h:Hdr} {out:Int} (c:m_em b=some out) (n:imm (rS (rP rB (rS (rI .u32)))) h.v b∈ros) (a:St w0 ros rs w):
  Calls prog 84 #[h.v] w (fun e w=>e=.returned (iV out)∧St w0 ros rs w):=by
 refine en func84 rfl ntmps84 fun Q d=>?_
 refine z 3 7 ?_;intro j o c w a k w a w a
 refine y (ymf (vf:=#[]) (vc:=#[(pB k)]) a0 (a1 e0)) ?_
 refine z 1 3 ?_;intro p r c w a
 refine cJ c (fun l c=>?_) fun l c=>?_
 ·refine q 8 rfl ?_
  cases c
  exact za d results84 ⟨rfl,(a.k13)⟩
 ·refine z 1 2 ?_
  refine jW 3 [] [(17,.bool ((decide ((16:Int) < (b.length:Int))) || (decide ((16:Int) < j))))] (St w0 ros rs) rfl (fun i=>?_) ?_
  ·refine gB 14 rfl (fun f=>?_) fun f=>?_
   ·exact q 3 rfl (i _ _ (a.k13) (hasC (congrArg Value.bool (orT f)) rfl))
   ·refine z 1 2 ?_
    exact i _ _ (a.k13) (hasC (congrArg Value.bool (orF f)) rfl)
  intro g w a
  refine q 3 rfl ?_
  refine cJ c (fun m c=>?_) fun m c=>?_
  ·refine q 8 rfl ?_
   cases c
   exact za d results84 ⟨rfl,a⟩
  ·refine q 9 rfl ?_
   cases c
   exact za d results84 ⟨rfl,a⟩
instance:CL prog 84 (type_of% @w_cs):=⟨@w_cs⟩
theorem w_ct {x:List (List (Bool×LI))} {A:List (Bool×LI)} {B C:Hdr} {out:(List (List (Bool×LI)))} (c:m_eq x A=some out) (K:imm (rS (rP rB (rS (rI .u32)))) B.v x∈ros) (L:imm (rP rB (rS (rI .u32))) C.v A∈ros) (a:St w0 ros rs w):
  Calls prog 87 #[B.v,C.v] w (fun e w=>∃ (D:Hdr) (E:List Hdr),e=.returned (D.v)∧St w0 ros (row 28 rH D.v E::fam 49 (rP rB (rS (rI .u32))) E out::rs) w):=by
 refine en func87 rfl ntmps87 fun Q N=>?_
 refine z 1 4 ?_
 refine bE c fun F O c=>?_
 replace a:=((a.rowNh 28 rH).fNew 49 (rP rB (rS (rI .u32)))).k16
 refine lpN (Hdr×(List Hdr)) (Hdr×(List Hdr)) O [1,11,12] (fun (d,j) (f,b)=>[(5,f.v),(13,iV j)]) (fun (d,j) (f,b)=>St w0 ros (row 28 rH f.v b::fam 49 (rP rB (rS (rI .u32))) b d::rs)) (fun | F,(p,r)=>(.exit 0,[(5,p.v)],St w0 ros (row 28 rH p.v r::fam 49 (rP rB (rS (rI .u32))) r F::rs))) rfl (_,_) a rfl ?_ ?_
 ·clear a
  rintro ⟨p,r⟩ g w a
  refine q 9 rfl ?_
  cases c
  exact N _ _ _ (fin1r results87 ⟨rfl,rfl⟩ ⟨_,_,rfl,a⟩)
 rintro ⟨d,j⟩ ⟨f,b⟩ g w R a c
 refine q 6 rfl (cI c (fun S c=>?_) fun S c=>?_)
 ·refine z 1 0 ?_;intro T U c
  obtain ⟨V,a⟩:=iLs a K U
  refine y (yCt O_28 e0 a F1 rfl) ?_
  refine z 1 4 ?_
  refine bE c fun G W c=>?_
  replace a:=a.rowNh 49 (rP rB (rS (rI .u32)))
  refine lpN Hdr Hdr W [1,5,6,11,12,13,18,19] (fun (s,t) k=>[(8,k.v),(20,iV t)]) (fun (s,t) k=>St w0 (imm (rP rB (rS (rI .u32))) V.v T::ros) (row 28 rH f.v b::fam 49 (rP rB (rS (rI .u32))) b d::row 49 (rP rB (rS (rI .u32))) k.v s::rs)) (fun | G,u=>(.exit 2,[(8,u.v)],St w0 ros (row 28 rH f.v b::fam 49 (rP rB (rS (rI .u32))) b d::row 49 (rP rB (rS (rI .u32))) u.v G::rs))) rfl _ ((a.k1g).facts (allC F0 (allT (allT allI)))) rfl ?_ ?_
  ·clear a
   rintro u g w a
   refine z 1 3 ?_
   refine jC ((List (Bool×LI))×Hdr) [1,5,11,12,13] (fun (i,h)=>[(8,h.v)]) (fun (i,h) w=>St w0 ros (row 28 rH f.v b::fam 49 (rP rB (rS (rI .u32))) b d::row 49 (rP rB (rS (rI .u32))) h.v i::rs) w∧m_en d j i=some R) rfl ?_ ?_
   ·rintro ⟨i,h⟩ g w ⟨a,c⟩
    refine q 4 rfl (yh (rLt (n:=1) (l:=[h]) a SLH_42 [h.v] (bp1 e0) rfl rfl (mks1 rfl (mkF rfl) mks0)) fun a7 w a=>bE c fun a8 H c=>?_)
    replace a:=a.k16
    obtain ⟨a9,ey217,X⟩:=app_rep H (a.famL R2) (show [h].length=[i].length from rfl)
    refine yh (rAp a SLH_42 e0 e0 rO1 X) fun b0 w a=>?_
    replace a:=(a.k1i).fPush
    rw [← ey217,← (app_some H).1] at a
    refine q 8 rfl ?_
    cases c
    exact ln (_,_) (a.k1j)
   refine cI c (fun Z c=>?_) fun Z c=>?_
   ·refine z 1 0 ?_;intro a0 a1 c
    obtain ⟨b1,b2,a⟩:=iLd a L a1
    obtain ⟨b3,b4,rfl,a⟩:=a.eltP
    obtain ⟨rfl,a⟩:=a.eltB
    obtain ⟨a2,rfl,a⟩:=a.eltS
    refine y (yCtn (cs:=[.bool a0.1,a2.v]) ST_49 rfl e0 a F1) ?_
    refine z 1 0 ?_;intro m b5 c I w a
    refine yh (rLt (n:=1) (l:=[(m.1,m.2)]) a SL_28 [.agg #[.bool m.1,I.v]] (bp1 e0) rfl rfl (mks1 (cs:=[.bool m.1,I.v]) rfl (mkP mkB (mkS F0)) mks0)) fun b6 w a=>?_
    refine z 1 2 ?_;intro b7 b8 c b9 w a
    exact jx (_,_) ⟨((a.k1k).fc),c⟩
   ·exact q 1 rfl (jx (_,_) ⟨a,c⟩)
  rintro ⟨s,t⟩ k g w c0 a c
  refine q 6 rfl (cI c (fun a3 c=>?_) fun a3 c=>?_)
  ·refine z 1 0 ?_;intro a4 a5 c
   obtain ⟨c1,c2,a⟩:=iLd a F0 a5
   obtain ⟨c3,c4,rfl,a⟩:=a.eltP
   obtain ⟨rfl,a⟩:=a.eltB
   obtain ⟨a6,rfl,a⟩:=a.eltS
   refine y (yCtn (cs:=[.bool a4.1,a6.v]) ST_49 rfl e0 a F1) ?_
   refine z 4 0 ?_;intro c5 w a w a o c6 c J w a
   refine yh (rLt (n:=1) (l:=[(o.1,o.2)]) a SL_28 [.agg #[.bool o.1,J.v]] (bp1 e0) rfl rfl (mks1 (cs:=[.bool o.1,J.v]) rfl (mkP mkB (mkS F0)) mks0)) fun c7 w a=>?_
   refine z 1 8 ?_;intro c8 c9 c d0 w a
   cases c
   exact ln _ ((a.k2h).facts (allC F3 (allT (allT (allT (allT allI))))))
  ·refine q 2 rfl ?_
   cases c
   exact lx _ (a.fc)
 ·refine q 2 rfl ?_
  cases c
  exact lx (_,_) a
instance:CL prog 87 (type_of% @w_ct):=⟨@w_ct⟩
theorem w_cu {f h:LI} {o p:Hdr} {out:LI} (c:m_et f h=some out) (L:imm (rI .u32) o.v f∈ros) (N:imm (rI .u32) p.v h∈ros) (a:St w0 ros rs w):
  Calls prog 147 #[o.v,p.v] w (fun e w=>∃ (r:Hdr),e=.returned (r.v)∧St w0 (imm (rI .u32) r.v out::ros) rs w):=by
 refine en func147 rfl ntmps147 fun Q s=>?_
 refine z 1 2 ?_
 refine jW 4 [0,1] [(19,.bool ((decide ((f.length:Int)=0)) || (decide ((h.length:Int)=0))))] (St w0 ros rs) rfl (fun t=>?_) ?_
 ·refine gB 15 rfl (fun i=>?_) fun i=>?_
  ·exact q 4 rfl (t _ _ a (hasC (congrArg Value.bool (orT i)) rfl))
  ·refine z 1 2 ?_
   exact t _ _ a (hasC (congrArg Value.bool (orF i)) rfl)
 intro g w a
 refine q 2 rfl ?_
 refine cJ c (fun C c=>?_) fun C c=>?_
 ·refine q 7 rfl ?_
  cases c
  replace a:=a.immNh (rI .u32)
  exact s _ _ _ (fin1r results147 ⟨rfl,rfl⟩ ⟨_,rfl,a⟩)
 ·refine z 2 1 ?_
  refine bE c fun O D c=>yh (rMk a SL_47 e0 D) fun b w a=>?_
  refine z 1 4 ?_
  refine bE c fun u E c=>?_
  refine lp E [1,5,26,27] (fun (j,k)=>[(28,iV k)]) (fun (j,k)=>St w0 ros (row 94 (rI .u32) b.v j::rs)) (fun | u=>(.exit 0,[],St w0 ros (row 94 (rI .u32) b.v u::rs))) rfl a rfl ?_ ?_
  ·clear a
   intro g w a
   refine z 1 4 ?_;intro R S c T w a
   cases c
   exact s _ _ _ (fin1r results147 ⟨rfl,rfl⟩ ⟨_,rfl,(a.facts (allC F0 (allT (allT allI))))⟩)
  rintro ⟨j,k⟩ g w U a c
  refine q 6 rfl (cI c (fun F c=>?_) fun F c=>?_)
  ·refine z 3 4 ?_;intro G V c
   obtain ⟨⟨x,l⟩,H,c⟩:=bs c
   refine lp H [1,5,6,7,26,27,28,33,34] (fun (m,d,n)=>[(8,.int .u64 d),(35,iV n)]) (fun (m,d,n)=>St w0 ros (row 94 (rI .u32) b.v m::rs)) (fun | (x,l)=>(.exit 2,[(8,.int .u64 l)],St w0 ros (row 94 (rI .u32) b.v x::rs))) rfl a rfl ?_ ?_
   ·clear a
    intro g w a
    refine z 1 3 ?_
    refine bE c fun W A c=>y (yIs SL_47 e0 e0 a rO0 A) (yt (r_sti (cs:=[.int .u32 (wc .u32 l)]) a O_94 rfl e0 e0 rfl mkI A) fun w a=>q 7 rfl ?_)
    cases c
    exact lo a
   rintro ⟨m,d,n⟩ g w X a c
   refine q 6 rfl (cI c (fun I c=>?_) fun I c=>?_)
   ·refine z 4 16 ?_;intro J Z c K a0 c
    refine bE c fun a1 B c=>y (yIs SL_47 e0 e0 a rO0 B) (yt (r_sti (cs:=[.int .u32 (wc .u32 (wand .u64 (wa .u64 (wa .u64 (wm .u64 (wc .u64 G) (wc .u64 J)) (wc .u64 K)) d) 4294967295))]) a O_94 rfl e0 e0 rfl mkI B) fun w a=>q 13 rfl ?_)
    cases c
    exact lo a
   ·refine q 2 rfl ?_
    cases c
    exact xo a
  ·refine q 2 rfl ?_
   cases c
   exact xo a
instance:CL prog 147 (type_of% @w_cu):=⟨@w_cu⟩
theorem w_cv {b:Bool} {d:LI} {f:Bool} {g:LI} {h i:Hdr} {out:Bool×LI} (c:m_eu b d f g=some out) (l:imm (rI .u32) h.v d∈ros) (m:imm (rI .u32) i.v g∈ros) (a:St w0 ros rs w):
  Calls prog 112 #[.agg #[.bool b,h.v],.agg #[.bool f,i.v]] w (fun e w=>∃ (j:Hdr),e=.returned (.agg #[.bool out.1,j.v])∧St w0 (imm (rI .u32) j.v out.2::ros) rs w):=by
 refine en func112 rfl ntmps112 fun Q k=>?_
 refine z 3 3 ?_;intro n w a o w a p w a
 refine bE c fun q r c=>bE c fun s t c=>bE c fun u x c=>bE c fun y A c=>dS [7,10,11,12,13] 5 folM ?_
 replace a:=a.drew
 refine z 10 2 ?_;intro B w a C w a D w a E w a w a
 cases c
 exact k _ _ _ (fin1r results112 (rcs2 rfl rfl a R0 ST_49 rfl) ⟨_,rfl,((a.k1b).facts (allC F0 (allT (allT (allT (allT allI))))))⟩)
instance:CL prog 112 (type_of% @w_cv):=⟨@w_cv⟩
theorem w_cw {b:Int} {out:Bool} (c:m_ev b=some out) (a:St w0 ros rs w):
  Calls prog 179 #[.int .u32 b] w (fun e w=>e=.returned (.bool out)∧St w0 ros rs w):=by
 refine en func179 rfl ntmps179 fun Q d=>q 14 rfl ?_
 cases c
 exact za d results179 ⟨rfl,a⟩
instance:CL prog 179 (type_of% @w_cw):=⟨@w_cw⟩
theorem w_cx {d f out:Int} (c:m_ew d f=some out) (a:St w0 ros rs w):
  Calls prog 174 #[.int .u32 d,.int .u32 f] w (fun e w=>e=.returned (iV out)∧St w0 ros rs w):=by
 refine en func174 rfl ntmps174 fun Q b=>?_
 refine z 2 9 ?_;intro l m c w a n o c w a
 refine cJ c (fun g c=>?_) fun g c=>?_
 ·refine q 6 rfl ?_
  refine cJ c (fun h c=>?_) fun h c=>?_
  ·refine q 8 rfl ?_
   cases c
   exact za b results174 ⟨rfl,a⟩
  ·refine q 9 rfl ?_
   cases c
   exact za b results174 ⟨rfl,a⟩
 ·refine q 8 rfl ?_
  refine cJ c (fun i c=>?_) fun i c=>?_
  ·refine q 7 rfl ?_
   cases c
   exact za b results174 ⟨rfl,a⟩
  ·refine q 10 rfl (cI c (fun j c=>?_) fun j c=>?_)
   ·refine q 7 rfl ?_
    cases c
    exact za b results174 ⟨rfl,a⟩
   ·refine q 10 rfl (cI c (fun k c=>?_) fun k c=>?_)
    ·refine q 7 rfl ?_
     cases c
     exact za b results174 ⟨rfl,a⟩
    ·refine q 8 rfl ?_
     cases c
     exact za b results174 ⟨rfl,a⟩
instance:CL prog 174 (type_of% @w_cx):=⟨@w_cx⟩
theorem w_cy {d f out:Int} (c:m_ex d f=some out) (a:St w0 ros rs w):
  Calls prog 173 #[iV d,iV f] w (fun e w=>e=.returned (iV out)∧St w0 ros rs w):=by
 refine en func173 rfl ntmps173 fun Q b=>?_
 refine z 2 9 ?_;intro l m c w a n o c w a
 refine cJ c (fun g c=>?_) fun g c=>?_
 ·refine q 6 rfl ?_
  refine cJ c (fun h c=>?_) fun h c=>?_
  ·refine q 8 rfl ?_
   cases c
   exact za b results173 ⟨rfl,a⟩
  ·refine q 9 rfl ?_
   cases c
   exact za b results173 ⟨rfl,a⟩
 ·refine q 8 rfl ?_
  refine cJ c (fun i c=>?_) fun i c=>?_
  ·refine q 7 rfl ?_
   cases c
   exact za b results173 ⟨rfl,a⟩
  ·refine q 10 rfl (cI c (fun j c=>?_) fun j c=>?_)
   ·refine q 7 rfl ?_
    cases c
    exact za b results173 ⟨rfl,a⟩
   ·refine q 10 rfl (cI c (fun k c=>?_) fun k c=>?_)
    ·refine q 7 rfl ?_
     cases c
     exact za b results173 ⟨rfl,a⟩
    ·refine q 8 rfl ?_
     cases c
     exact za b results173 ⟨rfl,a⟩
instance:CL prog 173 (type_of% @w_cy):=⟨@w_cy⟩
theorem w_cz {f h:LI} {i j:Hdr} {out:Int} (c:m_ez f h=some out) (r:imm (rI .u32) i.v f∈ros) (s:imm (rI .u32) j.v h∈ros) (a:St w0 ros rs w):
  Calls prog 145 #[i.v,j.v] w (fun e w=>e=.returned (iV out)∧St w0 ros rs w):=by
 refine en func145 rfl ntmps145 fun Q b=>?_
 refine z 2 3 ?_
 refine cIn c (fun l c=>?_) fun l c=>?_
 ·refine z 1 5 ?_
  refine bE c fun m n c=>?_
  refine lp n [0,1] (fun d=>[(5,iV d)]) (fun d=>St w0 ros rs) (fun | .inl ()=>(.exit 0,[],St w0 ros rs) | .inr k=>(.ret,[(4,iV k)],St w0 ros rs)) rfl a rfl ?_ ?_
  ·clear a
   intro g w a
   rcases m with ⟨⟩ | k
   ·refine q 8 rfl ?_
    cases c
    exact za b results145 ⟨rfl,a⟩
   ·refine q 2 rfl ?_
    cases c
    exact za b results145 ⟨rfl,a⟩
  rintro d g w t a c
  refine q 7 rfl (cI c (fun o c=>?_) fun o c=>?_)
  ·refine q 5 rfl (bE c fun u x c=>bE c fun y A c=>dS [] 0 folM ?_)
   replace a:=a.drew
   refine z 4 1 ?_
   refine cIn c (fun p c=>?_) fun p c=>?_
   ·refine q 8 rfl ?_
    cases c
    exact lo a
   ·refine q 1 rfl (bE c fun B C c=>bE c fun D E c=>bE c fun F G c=>dS [8,9] 2 folM ?_)
    replace a:=a.drew
    refine z 6 4 ?_;intro w a
    cases c
    exact xo a
  ·refine q 2 rfl ?_
   cases c
   exact xo a
 ·refine z 3 5 ?_;intro H I c w a
  cases c
  exact za b results145 ⟨rfl,a⟩
instance:CL prog 145 (type_of% @w_cz):=⟨@w_cz⟩
end Go.Proofs.YtcoaljcfifecgabGreatDoor
