/- Walks: each function computes its model, printed. -/
import Derived.Test.YtcoaljcfifecgabGreatDoorW11
namespace Go.Proofs.YtcoaljcfifecgabGreatDoor
open Go Sx M Go.Proofs.Tryz
set_option maxRecDepth 100000
set_option maxHeartbeats 40000000
set_option linter.unusedVariables false
attribute [local irreducible] wpList Code.wp Calls DR QR QS LA LS St row box fam imm rowS loop
variable {w0:World} {ros:List Fact} {rs:List Res} {w:World}
theorem w_ey {i b:Int} {s t u:LI} {j k l:Hdr} {out:Int×Int×LI×LI×(List (List (Bool×LI)))×Int} (c:m_jk i b s t u=some out) (U:imm I1 j.v s∈ros) (V:imm I1 k.v t∈ros) (W:imm (rI .u64) l.v u∈ros) (X:globF∈ros) (a:St w0 ros rs w):
  Calls prog 20 #[.agg #[iV i,iV b,j.v,k.v,l.v]] w (fun e w=>∃ (x A B:Hdr) (C:List Hdr),e=.returned (.tuple #[.agg #[iV out.1,iV out.2.1,x.v,A.v,B.v],iV out.2.2.2.2.2])∧St w0 ros (row 3 I1 x.v out.2.2.1::row 3 I1 A.v out.2.2.2.1::row 28 rH B.v C::fam 49 (rP rB (rS (rI .u32))) C out.2.2.2.2.1::rs) w):=by
 refine en func20 rfl ntmps20 fun Q m=>?_
 refine z 4 16 ?_;intro G w a n w a H Z c I a0 w a
 refine cIn c (fun J c=>?_) fun J c=>?_
 ·refine z 1 0 ?_
  refine bE c fun d a1 c=>?_
  replace a:=a.ffz
  refine z 6 0 ?_;intro f h w a K w a w a
  refine y (yLenF SLH_42 e0 a rO1 R2) ?_
  refine z 3 4 ?_;intro w a L a2 c N w a
  refine bE c fun O R c=>?_
  refine lpN Unit (Hdr×Hdr) R [1,2,4,7,34,35] (fun o _=>[(36,iV o)]) (fun o _=>St w0 (imm (rS (rP rB (rS (rI .u32)))) I.v H.1::ros) (box G 26 [iV i,iV b,j.v,k.v,l.v]::box n 52 [iV 0,iV 0,hnil.v,hnil.v,hnil.v]::row 28 rH f.v h::fam 49 (rP rB (rS (rI .u32))) h d::box K 52 [iV (ws .i64 b (d.length:Int)),iV 0,hnil.v,hnil.v,f.v]::row 3 I1 N.v L::rs)) (fun | .inl (),(_,_)=>(.exit 0,[],St w0 ros (box n 52 [iV 0,iV 0,hnil.v,hnil.v,hnil.v]::rs)) | .inr (D,E,F),(p,r)=>(.ret,[(3,iV 0)],St w0 ros (row 3 I1 p.v E::row 3 I1 r.v F::row 28 rH f.v h::fam 49 (rP rB (rS (rI .u32))) h d::box n 52 [iV (ws .i64 b (d.length:Int)),iV D,p.v,r.v,f.v]::rs))) rfl () (a.k1s) rfl ?_ ?_
  ·clear a
   rintro ⟨p,r⟩ g w a
   rcases O with ⟨⟩ | ⟨D,E,F⟩
   ·refine z 2 4 ?_;intro w a
    cases c
    replace a:=((((a.rowNh 3 I1).rowNh 3 I1).rowNh 28 rH).fNew 49 (rP rB (rS (rI .u32)))).k16
    exact m _ _ _ (fin2r results20 (rcs2 rfl rfl a R4 ST_52 rfl) ⟨rfl,rfl⟩ ⟨_,_,_,_,rfl,(a.k1t)⟩)
   ·refine q 2 rfl ?_
    cases c
    exact m _ _ _ (fin2r results20 (rcs2 rfl rfl a R4 ST_52 rfl) ⟨rfl,rfl⟩ ⟨_,_,_,_,rfl,(a.k1u)⟩)
  rintro o _ g w a3 a c
  refine q 6 rfl (cI c (fun S c=>?_) fun S c=>?_)
  ·refine z 3 7 ?_;intro a4 a5 c a6 a7 c a8 a9 w a
   refine bE c fun b0 b1 c=>?_
   replace a:=a.ffz
   refine z 3 3 ?_;intro b2 w a
   refine cI c (fun T c=>?_) fun T c=>?_
   ·refine z 2 1 ?_;intro b3 b4 c b5 b6 w a
    refine bE c fun b7 b8 c=>?_
    replace a:=a.ffz
    refine z 6 6 ?_;intro c0 w a w a w a w a w a
    cases c
    exact lx (_,_) ((a.k1v).fc)
   ·refine q 7 rfl ?_
    cases c
    exact ln () ((a.k1w).facts (allC F1 (allT (allT allI))))
  ·refine q 2 rfl ?_
   cases c
   exact lx (hnil,hnil) ((a.k1x).fc)
 ·refine z 2 5 ?_;intro w a
  cases c
  replace a:=((((a.rowNh 3 I1).rowNh 3 I1).rowNh 28 rH).fNew 49 (rP rB (rS (rI .u32)))).k16
  exact m _ _ _ (fin2r results20 (rcs2 rfl rfl a R4 ST_52 rfl) ⟨rfl,rfl⟩ ⟨_,_,_,_,rfl,(a.k1y)⟩)
instance:CL prog 20 (type_of% @w_ey):=⟨@w_ey⟩
theorem w_ez {k:LI} {l f:Int} {m:Hdr} {out:Bool} (c:m_jm k l f=some out) (E:imm I1 m.v k∈ros) (a:St w0 ros rs w):
  Calls prog 53 #[m.v,iV l,iV f] w (fun e w=>e=.returned (.bool out)∧St w0 ros rs w):=by
 refine en func53 rfl ntmps53 fun Q h=>?_
 refine z 1 4 ?_
 refine cIn c (fun s c=>?_) fun s c=>?_
 ·refine z 1 4 ?_
  refine bE c fun t u c=>?_
  refine lp u [0,2,13,14] (fun i=>[(15,iV i)]) (fun i=>St w0 ros rs) (fun | .inl ()=>(.exit 0,[],St w0 ros rs) | .inr ()=>(.ret,[(6,.bool false)],St w0 ros rs)) rfl a rfl ?_ ?_
  ·clear a
   intro g w a
   rcases t with ⟨⟩ | ⟨⟩
   ·refine q 8 rfl ?_
    cases c
    exact za h results53 ⟨rfl,a⟩
   ·refine q 2 rfl ?_
    cases c
    exact za h results53 ⟨rfl,a⟩
  rintro i g w F a c
  refine q 6 rfl (cI c (fun x c=>?_) fun x c=>?_)
  ·refine z 2 9 ?_;intro n G c
   refine jW 4 [0,2,7,8,13,14,15] [(26,.bool ((decide (n < 0)) || (decide (f≤n))))] (St w0 ros rs) rfl (fun o=>?_) ?_
   ·refine gB 22 rfl (fun j=>?_) fun j=>?_
    ·exact q 4 rfl (o _ _ a (hasC (congrArg Value.bool (orT j)) rfl))
    ·exact q 4 rfl (o _ _ a (hasC (congrArg Value.bool (orF j)) rfl))
   intro g w a
   refine bE c fun y b c=>q 1 rfl ?_
   refine jW 12 [0,2,13,14,15] [(39,.bool y)] (St w0 ros rs) rfl (fun p=>?_) ?_
   ·refine gJ 27 b rfl (fun A b=>?_) fun A b=>?_
    ·refine q 12 rfl ?_
     cases b
     exact p _ _ a rfl
    ·refine q 3 rfl (bE b fun B d b=>?_)
     refine jW 8 [0,2,13,14,15,27] [(38,.bool B)] (St w0 ros rs) rfl (fun r=>?_) ?_
     ·refine gI 30 d rfl (fun C d=>?_) fun C d=>?_
      ·refine q 3 rfl (bE d fun H I d=>?_)
       refine z 2 3 ?_
       cases d
       exact r _ _ a rfl
      ·refine q 8 rfl ?_
       cases d
       exact r _ _ a rfl
     intro g w a
     refine q 1 rfl ?_
     cases b
     exact p _ _ a rfl
   intro g w a
   refine q 2 rfl ?_
   refine cJ c (fun D c=>?_) fun D c=>?_
   ·refine q 8 rfl ?_
    cases c
    exact xo a
   ·refine q 7 rfl ?_
    cases c
    exact lo a
  ·refine q 2 rfl ?_
   cases c
   exact xo a
 ·refine q 7 rfl ?_
  cases c
  exact za h results53 ⟨rfl,a⟩
instance:CL prog 53 (type_of% @w_ez):=⟨@w_ez⟩
theorem w_e0 {d:L2} {f:Int} {h:Hdr} {out:Int} (c:m_jn d f=some out) (n:imm S1 h.v d∈ros) (a:St w0 ros rs w):
  Calls prog 144 #[h.v,iV f] w (fun e w=>e=.returned (iV out)∧St w0 ros rs w):=by
 refine en func144 rfl ntmps144 fun Q i=>?_
 refine z 1 9 ?_;intro o p c w a
 refine bE c fun k b c=>?_
 refine jW 6 [5] [(17,.bool k)] (St w0 ros rs) rfl (fun j=>?_) ?_
 ·refine gI 11 b rfl (fun l b=>?_) fun l b=>?_
  ·refine z 1 1 ?_
   refine bE b fun r s b=>?_
   refine z 1 2 ?_;intro w a
   cases b
   exact j _ _ a rfl
  ·refine q 6 rfl ?_
   cases b
   exact j _ _ a rfl
 intro g w a
 refine q 2 rfl ?_
 refine cJ c (fun m c=>?_) fun m c=>?_
 ·refine q 7 rfl ?_
  cases c
  exact za i results144 ⟨rfl,a⟩
 ·refine q 9 rfl ?_
  cases c
  exact za i results144 ⟨rfl,a⟩
instance:CL prog 144 (type_of% @w_e0):=⟨@w_e0⟩
theorem w_e1 {f:L2} {g:Int} {h:Hdr} {out:Int×Int} (c:m_jo f g=some out) (b:imm S1 h.v f∈ros) (a:St w0 ros rs w):
  Calls prog 110 #[h.v,iV g] w (fun e w=>e=.returned (.tuple #[iV out.1,iV out.2])∧St w0 ros rs w):=by
 refine en func110 rfl ntmps110 fun Q d=>bE c fun n i c=>q 10 rfl (cZ (w_e0 i b a) fun w a=>q 10 rfl ?_)
 refine cIn c (fun j c=>?_) fun j c=>?_
 ·refine q 6 rfl (bE c fun o k c=>cT_ (w_eo k b a) fun p r w a=>bE c fun s l c=>q 1 rfl (cT_ (w_eu l a) fun t u w a=>q 11 rfl (y (yLen SL_23 e0 a rO2) (q 1 rfl (y (yLen SL_89 e0 a (rdI b)) (q 3 rfl (cI c (fun m c=>?_) fun m c=>?_)))))))
  ·refine q 8 rfl ?_
   cases c
   exact zb d results110 ⟨rfl,(a.k1b)⟩
  ·refine q 10 rfl ?_
   cases c
   exact zb d results110 ⟨rfl,(a.k1b)⟩
 ·refine q 9 rfl ?_
  cases c
  exact zb d results110 ⟨rfl,a⟩
instance:CL prog 110 (type_of% @w_e1):=⟨@w_e1⟩
theorem w_e2 {C:List (List (Bool×LI))} {b d:Int} {D E:LI} {F:List (List (Bool×LI))} {G f h i:Hdr} {out:Bool} (c:m_jr C b d D E F=some out) (L:imm (rS (rP rB (rS (rI .u32)))) G.v C∈ros) (a0:imm I1 f.v D∈ros) (a1:imm I1 h.v E∈ros) (a3:imm (rS (rP rB (rS (rI .u32)))) i.v F∈ros) (a:St w0 ros rs w):
  Calls prog 54 #[G.v,.agg #[iV b,iV d,f.v,h.v,i.v]] w (fun e w=>e=.returned (.bool out)∧St w0 ros rs w):=by
 refine en func54 rfl ntmps54 fun Q N=>?_
 refine z 3 4 ?_;intro p w a
 refine bE c fun H O c=>?_
 replace a:=a.rowNh 23 S1
 refine lpN Hdr Hdr O [0,3,16,17] (fun (k,s) j=>[(5,j.v),(18,iV s)]) (fun (k,s) j=>St w0 ros (box p 52 [iV b,iV d,f.v,h.v,i.v]::row 23 S1 j.v k::rs)) (fun | H,t=>(.exit 0,[(5,t.v)],St w0 ros (box p 52 [iV b,iV d,f.v,h.v,i.v]::row 23 S1 t.v H::rs))) rfl _ (a.k16) rfl ?_ ?_
 ·clear a
  rintro t g w a
  refine z 1 0 ?_
  refine bE c fun I R c=>?_
  have J:=a
  replace a:=(a.k16).fz
  have m:=a.guest0
  replace a:=J
  clear J
  refine yC (yCall FN_110 (a2 e0 e0)) (w_e1 R F0 m) ?_
  clear m
  rintro _ w ⟨rfl,m⟩
  replace a:=a.back m
  clear m
  refine ⟨_,rfl,?_⟩
  refine nf (q 12 rfl ?_)
  refine jW 3 [] [(64,.bool ((decide (I.2=0)) && (!(decide (I.1=0)))))] (St w0 ros rs) rfl (fun K=>?_) ?_
  ·refine gB 61 rfl (fun u=>?_) fun u=>?_
   ·exact q 3 rfl (K _ _ (a.k19) (hasC (congrArg Value.bool (andT u)) rfl))
   ·exact q 3 rfl (K _ _ (a.k19) (hasC (congrArg Value.bool (andF u)) rfl))
  intro g w a
  refine q 4 rfl ?_
  cases c
  exact za N results54 ⟨rfl,a⟩
 rintro ⟨k,s⟩ j g w a4 a c
 refine q 6 rfl (cI c (fun S c=>?_) fun S c=>?_)
 ·refine z 4 4 ?_;intro a5 a6 c
  refine bE c fun x T c=>?_
  replace a:=a.rowNh 3 I1
  refine lpN Hdr Hdr T [0,3,5,7,16,17,18,23,24] (fun (y,A) r=>[(8,r.v),(25,iV A)]) (fun (y,A) r=>St w0 ros (box p 52 [iV b,iV d,f.v,h.v,i.v]::row 23 S1 j.v k::row 3 I1 r.v y::rs)) (fun | x,o=>(.exit 2,[(8,o.v)],St w0 ros (box p 52 [iV b,iV d,f.v,h.v,i.v]::row 23 S1 j.v k::row 3 I1 o.v x::rs))) rfl _ (a.k1g) rfl ?_ ?_
  ·clear a
   rintro o g w a
   refine q 5 rfl ?_
   replace a:=(a.k15).fz
   refine yh (rLt (n:=1) (l:=[x]) a SL_89 [o.v] (bp1 e0) rfl rfl (mks1 (cs:=[o.v]) rfl (mkS F0) mks0)) fun a7 w a=>?_
   refine z 1 8 ?_;intro a8 a9 c b0 w a
   cases c
   exact ln _ ((a.k1z).fc)
  rintro ⟨y,A⟩ r g w b1 a c
  refine q 6 rfl (cI c (fun U c=>?_) fun U c=>?_)
  ·refine z 2 4 ?_;intro b2 b3 c
   refine bE c fun b4 V c=>bE c fun W X c=>bE c fun B b5 c=>dS [9,13,14] 3 folM ?_
   replace a:=a.drew
   refine z 1 0 ?_
   obtain ⟨b6,a⟩:=iLs a L V
   refine rQ rfl (yCt O_28 e0 a F1 rfl) ?_
   refine z 1 0 ?_
   obtain ⟨b7,b8,a⟩:=iLd a F0 X
   obtain ⟨b9,c0,rfl,a⟩:=a.eltP
   obtain ⟨rfl,a⟩:=a.eltB
   obtain ⟨Z,rfl,a⟩:=a.eltS
   refine rQ rfl (yCtn (cs:=[.bool W.1,Z.v]) ST_49 rfl e0 a F1) ?_
   refine z 4 4 ?_;intro w a
   refine yh (rLt (n:=1) (l:=[B.1]) a SL_23 [iV B.1] (bp1 e0) rfl rfl (mks1 (cs:=[iV B.1]) rfl mkI mks0)) fun c1 w a=>?_
   refine z 1 8 ?_;intro c2 c3 c c4 w a
   cases c
   exact ln _ ((a.k1k).fc)
  ·refine q 2 rfl ?_
   cases c
   exact lx _ a
 ·refine q 2 rfl ?_
  cases c
  exact lx _ a
instance:CL prog 54 (type_of% @w_e2):=⟨@w_e2⟩
theorem w_e3 {k:List (List (Bool×LI))} {l:List (Bool×LI)} {m n:Hdr} {out:Bool} (c:m_ju k l=some out) (t:imm (rS (rP rB (rS (rI .u32)))) m.v k∈ros) (u:imm (rP rB (rS (rI .u32))) n.v l∈ros) (a:St w0 ros rs w):
  Calls prog 55 #[m.v,n.v] w (fun e w=>e=.returned (.bool out)∧St w0 ros rs w):=by
 refine en func55 rfl ntmps55 fun Q o=>?_
 refine z 1 4 ?_
 refine bE c fun x A c=>?_
 refine lp A [1,10,11] (fun d=>[(12,iV d)]) (fun d=>St w0 ros rs) (fun | .inl ()=>(.exit 0,[],St w0 ros rs) | .inr ()=>(.ret,[(4,.bool false)],St w0 ros rs)) rfl a rfl ?_ ?_
 ·clear a
  intro g w a
  rcases x with ⟨⟩ | ⟨⟩
  ·refine q 8 rfl ?_
   cases c
   exact za o results55 ⟨rfl,a⟩
  ·refine q 2 rfl ?_
   cases c
   exact za o results55 ⟨rfl,a⟩
 rintro d g w R a c
 refine q 6 rfl (cI c (fun B c=>?_) fun B c=>?_)
 ·refine z 1 0 ?_;intro C D c
  obtain ⟨E,a⟩:=iLs a t D
  refine y (yCt O_28 e0 a F1 rfl) ?_
  refine z 4 4 ?_;intro S T c U w a p w a w a
  obtain ⟨⟨r,s⟩,F,c⟩:=bs c
  refine lpN Hdr Hdr F [1,7,10,11,12,17,18] (fun (f,h,i) b=>[(19,iV i)]) (fun (f,h,i) b=>St w0 (imm (rI .u32) b.v h::imm (rP rB (rS (rI .u32))) E.v C::ros) (box p 49 [.bool f,b.v]::rs)) (fun | (r,s),j=>(.exit 2,[],St w0 (imm (rI .u32) j.v s::ros) (box p 49 [.bool r,j.v]::rs))) rfl _ (a.facts (allC F0 (allC F1 (allT (allT (allT allI)))))) rfl ?_ ?_
  ·clear a
   rintro j g w a
   refine z 2 3 ?_;intro V W c w a
   refine cIn c (fun G c=>?_) fun G c=>?_
   ·refine q 7 rfl ?_
    cases c
    exact lo ((a.k13).fc)
   ·refine q 8 rfl ?_
    cases c
    exact xo ((a.k13).fc)
  rintro ⟨f,h,i⟩ b g w X a c
  refine q 6 rfl (cI c (fun H c=>?_) fun H c=>?_)
  ·refine z 1 0 ?_;intro I J c
   obtain ⟨Z,a0,a⟩:=iLd a F1 J
   obtain ⟨a1,a2,rfl,a⟩:=a.eltP
   obtain ⟨rfl,a⟩:=a.eltB
   obtain ⟨K,rfl,a⟩:=a.eltS
   refine y (yCtn (cs:=[.bool I.1,K.v]) ST_49 rfl e0 a F1) ?_
   refine z 2 2 ?_;intro a3 w a w a
   refine bE c fun L N c=>bE c fun a4 a5 c=>bE c fun a6 a7 c=>dS [6,7,8] 3 folM ?_
   replace a:=a.drew
   refine z 3 0 ?_
   obtain ⟨a8,a9,a⟩:=iLd a (F_4 u) N
   obtain ⟨b0,b1,rfl,a⟩:=a.eltP
   obtain ⟨rfl,a⟩:=a.eltB
   obtain ⟨O,rfl,a⟩:=a.eltS
   refine rQ rfl (yCtn (cs:=[.bool L.1,O.v]) ST_49 rfl e0 a F1) ?_
   refine z 3 6 ?_;intro b2 w a b3 w a w a
   cases c
   exact ln _ ((a.k10).facts (allC F0 (allC F7 (allT (allT (allT (allT (allT (allT (allT (allT allI)))))))))))
  ·refine q 2 rfl ?_
   cases c
   exact lx _ (a.facts (allC F0 (allT (allT allI))))
 ·refine q 2 rfl ?_
  cases c
  exact xo a
instance:CL prog 55 (type_of% @w_e3):=⟨@w_e3⟩
theorem w_e4 {j k:Int} {H I J:LI} {d b:Int} {K L:LI} {D:List (List (Bool×LI))} {l m n f h i:Hdr} {out:Bool} (c:m_jw j k H I J d b K L D=some out) (b4:imm I1 l.v H∈ros) (b5:imm I1 m.v I∈ros) (b6:imm (rI .u64) n.v J∈ros) (b7:imm I1 f.v K∈ros) (b8:imm I1 h.v L∈ros) (X:imm (rS (rP rB (rS (rI .u32)))) i.v D∈ros) (b9:globF∈ros) (a:St w0 ros rs w):
  Calls prog 22 #[.agg #[iV j,iV k,l.v,m.v,n.v],.agg #[iV d,iV b,f.v,h.v,i.v]] w (fun e w=>e=.returned (.bool out)∧St w0 ros rs w):=by
 refine en func22 rfl ntmps22 fun Q C=>?_
 refine z 4 15 ?_;intro u w a o w a x c0 c A B w a
 refine bE c fun N p c=>?_
 refine jW 5 [2,3,5] [(24,.bool N)] (St w0 ros (box u 26 [iV j,iV k,l.v,m.v,n.v]::box o 52 [iV d,iV b,f.v,h.v,i.v]::row 28 rH A.v B::fam 49 (rP rB (rS (rI .u32))) B x.1::rs)) rfl (fun O=>?_) ?_
 ·refine gIn 19 p rfl (fun Z p=>?_) fun Z p=>?_
  ·refine z 1 0 ?_
   refine bE p fun c1 c2 p=>?_
   refine z 1 2 ?_;intro w a
   cases p
   exact O _ _ (a.k1i) rfl
  ·refine q 5 rfl ?_
   cases p
   exact O _ _ (a.k1i) rfl
 intro g w a
 refine q 1 rfl ?_
 refine jW 4 [2,3,5] [(29,.bool (N || (decide ((2147483647:Int) < b))))] (St w0 ros (box u 26 [iV j,iV k,l.v,m.v,n.v]::box o 52 [iV d,iV b,f.v,h.v,i.v]::row 28 rH A.v B::fam 49 (rP rB (rS (rI .u32))) B x.1::rs)) rfl (fun R=>?_) ?_
 ·refine gB 25 rfl (fun E=>?_) fun E=>?_
  ·exact q 4 rfl (R _ _ a (hasC (congrArg Value.bool (orT E)) rfl))
  ·refine z 1 2 ?_
   exact R _ _ a (hasC (congrArg Value.bool (orF E)) rfl)
 intro g w a
 refine q 2 rfl ?_
 refine cJ c (fun a0 c=>?_) fun a0 c=>?_
 ·refine q 7 rfl ?_
  cases c
  exact za C results22 ⟨rfl,(a.k1a)⟩
 ·refine z 4 2 ?_;intro c3 c4 c w a
  refine bE c fun a1 r c=>?_
  refine jW 9 [2,3,5] [(47,.bool a1)] (St w0 ros (box u 26 [iV j,iV k,l.v,m.v,n.v]::box o 52 [iV d,iV b,f.v,h.v,i.v]::row 28 rH A.v B::fam 49 (rP rB (rS (rI .u32))) B x.1::rs)) rfl (fun S=>?_) ?_
  ·refine gJn 38 r rfl (fun a2 r=>?_) fun a2 r=>?_
   ·refine z 3 0 ?_
    refine bE r fun c5 c6 r=>?_
    refine z 1 2 ?_;intro w a
    cases r
    exact S _ _ a rfl
   ·refine q 9 rfl ?_
    cases r
    exact S _ _ a rfl
  intro g w a
  refine bE c fun a3 s c=>q 1 rfl ?_
  refine jW 5 [2,3,5] [(53,.bool a3)] (St w0 (imm (rS (rP rB (rS (rI .u32)))) A.v x.1::ros) (box u 26 [iV j,iV k,l.v,m.v,n.v]::box o 52 [iV d,iV b,f.v,h.v,i.v]::rs)) rfl (fun T=>?_) ?_
  ·refine gJ 48 s rfl (fun a4 s=>?_) fun a4 s=>?_
   ·refine q 5 rfl ?_
    cases s
    replace a:=(a.k20).ffz
    exact T _ _ a rfl
   ·refine z 1 0 ?_
    refine bE s fun c7 c8 s=>?_
    replace a:=(a.k20).ffz
    refine z 1 2 ?_;intro w a
    cases s
    exact T _ _ a rfl
  intro g w a
  refine q 2 rfl ?_
  refine cJ c (fun a5 c=>?_) fun a5 c=>?_
  ·refine q 7 rfl ?_
   cases c
   exact za C results22 ⟨rfl,((a.k19).fc)⟩
  ·refine z 4 4 ?_
   refine cIn c (fun a6 c=>?_) fun a6 c=>?_
   ·refine z 2 4 ?_
    refine bE c fun a7 a8 c=>?_
    refine lp a8 [2,3,5,64,65] (fun F=>[(66,iV F)]) (fun F=>St w0 (imm (rS (rP rB (rS (rI .u32)))) A.v x.1::ros) (box u 26 [iV j,iV k,l.v,m.v,n.v]::box o 52 [iV d,iV b,f.v,h.v,i.v]::rs)) (fun | .inl ()=>(.exit 0,[],St w0 ros (box o 52 [iV d,iV b,f.v,h.v,i.v]::rs)) | .inr ()=>(.ret,[(4,.bool false)],St w0 ros rs)) rfl a rfl ?_ ?_
    ·clear a
     intro g w a
     rcases a7 with ⟨⟩ | ⟨⟩
     ·refine z 2 12 ?_;intro U c9 c w a
      refine jW 6 [] [(96,.bool ((decide (U.2=0)) && (decide (U.1=(D.length:Int)))))] (St w0 ros rs) rfl (fun V=>?_) ?_
      ·refine gB 90 rfl (fun G=>?_) fun G=>?_
       ·refine z 2 2 ?_
        exact V _ _ (a.k13) (hasC (congrArg Value.bool (andT G)) rfl)
       ·exact q 6 rfl (V _ _ (a.k13) (hasC (congrArg Value.bool (andF G)) rfl))
      intro g w a
      refine q 4 rfl ?_
      cases c
      exact za C results22 ⟨rfl,a⟩
     ·refine q 2 rfl ?_
      cases c
      exact za C results22 ⟨rfl,a⟩
    rintro F g w d0 a c
    refine q 6 rfl (cI c (fun a9 c=>?_) fun a9 c=>?_)
    ·refine z 1 0 ?_;intro d1 b0 c
     obtain ⟨d2,a⟩:=iLs a (mtF X) b0
     refine y (yCt O_28 e0 a F1 rfl) ?_
     refine z 2 2 ?_
     refine bE c fun b1 t c=>?_
     refine jW 5 [2,3,5,64,65,66] [(80,.bool b1)] (St w0 (imm (rS (rP rB (rS (rI .u32)))) A.v x.1::ros) (box u 26 [iV j,iV k,l.v,m.v,n.v]::box o 52 [iV d,iV b,f.v,h.v,i.v]::rs)) rfl (fun W=>?_) ?_
     ·refine gIn 75 t rfl (fun b2 t=>?_) fun b2 t=>?_
      ·refine q 2 rfl (bE t fun d3 d4 t=>?_)
       refine z 1 2 ?_;intro w a
       cases t
       exact W _ _ (a.facts (allC F2 (allT (allT (allT allI))))) rfl
      ·refine q 5 rfl ?_
       cases t
       exact W _ _ (a.facts (allC F2 (allT (allT (allT allI))))) rfl
     intro g w a
     refine q 2 rfl ?_
     refine cJ c (fun b3 c=>?_) fun b3 c=>?_
     ·refine q 8 rfl ?_
      cases c
      exact xo ((a.k19).fc)
     ·refine q 7 rfl ?_
      cases c
      exact lo a
    ·refine q 2 rfl ?_
     cases c
     exact xo ((a.k11).fc)
   ·refine q 7 rfl ?_
    cases c
    exact za C results22 ⟨rfl,((a.k19).fc)⟩
instance:CL prog 22 (type_of% @w_e4):=⟨@w_e4⟩
theorem w_e5 {out:Bool} (c:m_jx=some out) (a0:globF∈ros) (a:St w0 ros rs w):
  Calls prog 8 #[] w (fun e w=>e=.returned (.bool out)∧St w0 ros rs w):=by
 refine en func8 rfl ntmps8 fun Q g3=>?_
 refine z 2 6 ?_;intro H i6 c w a W i7 c w a
 refine yh (rLt (n:=3) (l:=[0,2,4]) a SL_23 [iV 0,iV 2,iV 4] (bp3 rfl rfl rfl) rfl rfl (mks1 (cs:=[iV 0]) rfl mkI (mks1 (cs:=[iV 2]) rfl mkI (mks1 (cs:=[iV 4]) rfl mkI mks0)))) fun g4 w a=>yh (rLt (n:=4) (l:=[0,1,0,1]) a SL_23 [iV 0,iV 1,iV 0,iV 1] (bp4 rfl rfl rfl rfl) rfl rfl (mks1 (cs:=[iV 0]) rfl mkI (mks1 (cs:=[iV 1]) rfl mkI (mks1 (cs:=[iV 0]) rfl mkI (mks1 (cs:=[iV 1]) rfl mkI mks0))))) fun g5 w a=>q 3 rfl (yh (rLt (n:=4) (l:=[4607182418800017408,H,H,W]) a SL_24 [.int .u64 4607182418800017408,.int .u64 H,.int .u64 H,.int .u64 W] (bp4 rfl e0 e0 e0) rfl rfl (mks1 (cs:=[.int .u64 4607182418800017408]) rfl mkI (mks1 (cs:=[.int .u64 H]) rfl mkI (mks1 (cs:=[.int .u64 H]) rfl mkI (mks1 (cs:=[.int .u64 W]) rfl mkI mks0))))) fun g6 w a=>?_)
 refine z 4 0 ?_;intro i8 w a w a
 refine bE c fun o g7 c=>?_
 replace a:=(((((a.k1e).fz).k15).fz).k16).fz
 refine yC (yCall FN_20 (a1 e0)) (w_ey g7 F2 F1 F0 (F_3 a0) a) ?_
 rintro _ w ⟨g8,g9,L,i9,rfl,a⟩
 refine ⟨_,rfl,?_⟩
 refine nf ?_
 refine z 4 10 ?_;intro j0 w a w a j1 j2 c j3 w a
 refine bE c fun x N c=>bE c fun t E c=>bE c fun s A c=>bE c fun p u c=>bE c fun m r c=>bE c fun j k c=>bE c fun i b c=>bE c fun f d c=>?_
 refine jN Unit [] (fun _=>[(0,.bool f)]) (fun _=>St w0 ros rs) rfl ?_ ?_
 ·rcases iteS N with ⟨y,N⟩ | ⟨y,N⟩
  ·have C:=someI N
   rcases iteS E with ⟨B,E⟩ | ⟨B,E⟩
   ·have F:=someI E
    rcases iteS A with ⟨D,A⟩ | ⟨D,A⟩
    ·have I:=someI A
     rcases iteS u with ⟨G,u⟩ | ⟨G,u⟩
     ·have O:=someI u
      rcases iteS r with ⟨J,r⟩ | ⟨J,r⟩
      ·have T:=someI r
       rcases iteS k with ⟨R,k⟩ | ⟨R,k⟩
       ·have X:=someI k
        rcases iteS b with ⟨U,b⟩ | ⟨U,b⟩
        ·refine bE b fun V K b=>bE b fun j4 a2 b=>bE b fun j5 a3 b=>?_
         have a4:=someI b
         rcases iteS d with ⟨Z,d⟩ | ⟨Z,d⟩
         ·refine bE d fun j6 h0 d=>?_
          have h1:=someI d
          refine dS [34,35,40,42] 4 folM ?_
          replace a:=a.drew
          refine D1 17179869183 0 34 rfl (qR 3 rfl (rK 31 rfl (dT y) (qR 2 rfl (rQ rfl (pt_ (.bool x) e0 rfl (eqv C e0)) (qR 1 rfl (rK 35 rfl B (qR 1 rfl (rQ rfl (pt_ (.bool t) e0 rfl (eqv F e0)) (qR 1 rfl (rK 38 rfl D (qR 1 rfl (rQ rfl (lb_ (iV o.1) O_3 e0 a R0) (qR 1 rfl ?_)))))))))))))
          refine rQ rfl (pt_ (.bool s) e0 rfl (eqv I e0)) (qR 1 rfl (rK 43 rfl G (qR 1 rfl (rQ rfl (lb_ (iV o.2.1) O_3 e0 a R0) (qR 1 rfl (rQ rfl (pt_ (.bool p) e0 rfl (eqv O e0)) (qR 1 rfl (rK 48 rfl J (qR 1 rfl (rQ rfl (lb_ L.v O_42 e0 a R0) (rQ rfl (yLenF SLH_42 e0 a rO3 R4) (qR 1 rfl (rQ rfl (pt_ (.bool m) e0 rfl (eqv T e0)) ?_)))))))))))))
          refine qR 1 rfl (rK 54 rfl R (qR 1 rfl (rQ rfl (yLen SL_28 e0 a (rdI F0)) (qR 1 rfl (rQ rfl (pt_ (.bool j) e0 rfl (eqv X e0)) (qR 1 rfl (rK 59 rfl U (qR 1 rfl (rQ rfl (yIa SL_28 e0 rfl a (rdI F0) K) ?_)))))))))
          obtain ⟨j7,j8,a⟩:=iLd a F0 K
          obtain ⟨j9,k0,rfl,a⟩:=a.eltP
          obtain ⟨rfl,a⟩:=a.eltB
          obtain ⟨S,rfl,a⟩:=a.eltS
          refine rQ rfl (yCtn (cs:=[.bool V.1,S.v]) ST_49 rfl e0 a F1) (Rn QSn (kO (w_f a2 a) fun h2 w a=>dU (D1 0 15032385536 35 rfl (Rn (qS rfl (sY rfl (yIa SL_28 e0 rfl a (rdI F2) K) (sY rfl (yCtn (cs:=[.bool V.1,S.v]) ST_49 rfl e0 a F1) QSn))) ?_))))
          replace a:=a.fz
          refine kZ (w_d9 a3 F1 F0 a) fun w a=>dU (D1 1030792151040 0 40 rfl (rQ rfl (pt_ (.bool i) e0 rfl (eqv a4 e0)) (qR 1 rfl (rK 66 rfl Z (rQ rfl (lbs_ [iV 2,iV 2,g4.v,g5.v,g6.v] ST_26 e0 a R5) (rQ rfl (lbs_ [iV o.1,iV o.2.1,g8.v,g9.v,L.v] ST_52 e0 a R0) (Rn QSn ?_)))))))
          replace a:=(((((a.k16).fz).k16).fz).k1g).ffz
          exact kZ (w_e4 h0 F9 F8 F7 F2 F1 F0 (F_10 a0) a) fun w a=>dU (D1 2199023255552 0 42 rfl (rQ rfl (pt_ (.bool f) e0 rfl (eqv h1 e0)) (Rn QSn (Ly wn (a_ (.bool f) e0) (dU (Dw 0 0 (Rn QSn (jr () ((a.k19).fc)))))))))
         ·have h6:=someI d
          refine dS [34,35,40,42] 4 folM ?_
          replace a:=a.drew
          refine D1 17179869183 0 34 rfl (qR 3 rfl (rK 31 rfl (dT y) (qR 2 rfl (rQ rfl (pt_ (.bool x) e0 rfl (eqv C e0)) (qR 1 rfl (rK 35 rfl B (qR 1 rfl (rQ rfl (pt_ (.bool t) e0 rfl (eqv F e0)) (qR 1 rfl (rK 38 rfl D (qR 1 rfl (rQ rfl (lb_ (iV o.1) O_3 e0 a R0) (qR 1 rfl ?_)))))))))))))
          refine rQ rfl (pt_ (.bool s) e0 rfl (eqv I e0)) (qR 1 rfl (rK 43 rfl G (qR 1 rfl (rQ rfl (lb_ (iV o.2.1) O_3 e0 a R0) (qR 1 rfl (rQ rfl (pt_ (.bool p) e0 rfl (eqv O e0)) (qR 1 rfl (rK 48 rfl J (qR 1 rfl (rQ rfl (lb_ L.v O_42 e0 a R0) (rQ rfl (yLenF SLH_42 e0 a rO3 R4) (qR 1 rfl (rQ rfl (pt_ (.bool m) e0 rfl (eqv T e0)) ?_)))))))))))))
          refine qR 1 rfl (rK 54 rfl R (qR 1 rfl (rQ rfl (yLen SL_28 e0 a (rdI F0)) (qR 1 rfl (rQ rfl (pt_ (.bool j) e0 rfl (eqv X e0)) (qR 1 rfl (rK 59 rfl U (qR 1 rfl (rQ rfl (yIa SL_28 e0 rfl a (rdI F0) K) ?_)))))))))
          obtain ⟨k1,k2,a⟩:=iLd a F0 K
          obtain ⟨k3,k4,rfl,a⟩:=a.eltP
          obtain ⟨rfl,a⟩:=a.eltB
          obtain ⟨S,rfl,a⟩:=a.eltS
          refine rQ rfl (yCtn (cs:=[.bool V.1,S.v]) ST_49 rfl e0 a F1) (Rn QSn (kO (w_f a2 a) fun h2 w a=>dU (D1 0 15032385536 35 rfl (Rn (qS rfl (sY rfl (yIa SL_28 e0 rfl a (rdI F2) K) (sY rfl (yCtn (cs:=[.bool V.1,S.v]) ST_49 rfl e0 a F1) QSn))) ?_))))
          replace a:=a.fz
          refine kZ (w_d9 a3 F1 F0 a) fun w a=>dU (D1 1030792151040 0 40 rfl (rQ rfl (pt_ (.bool i) e0 rfl (eqv a4 e0)) (qR 1 rfl (rK 66 rfl (bfalse Z) (qR 2 rfl (Rn QSn (Lx (wqg_ok.2 rfl) (dU (D1 2199023255552 0 42 rfl (rQ rfl (pf_ (.bool f) e0 rfl (eqv h6 rfl)) (Rn QSn (Ly wn (a_ (.bool f) e0) ?_))))))))))))
          exact dU (Dw 0 0 (Rn QSn (jr () ((a.k21).fc))))
        ·have a5:=someI b
         have a6:¬ i=true:=fun h=>Bool.false_ne_true (a5.trans h)
         rw [if_neg a6] at d
         have h7:=someI d
         refine dS [34,35,40,42] 4 folM ?_
         replace a:=a.drew
         refine D1 17179869183 0 34 rfl (qR 3 rfl (rK 31 rfl (dT y) (qR 2 rfl (rQ rfl (pt_ (.bool x) e0 rfl (eqv C e0)) (qR 1 rfl (rK 35 rfl B (qR 1 rfl (rQ rfl (pt_ (.bool t) e0 rfl (eqv F e0)) (qR 1 rfl (rK 38 rfl D (qR 1 rfl (rQ rfl (lb_ (iV o.1) O_3 e0 a R0) (qR 1 rfl ?_)))))))))))))
         refine rQ rfl (pt_ (.bool s) e0 rfl (eqv I e0)) (qR 1 rfl (rK 43 rfl G (qR 1 rfl (rQ rfl (lb_ (iV o.2.1) O_3 e0 a R0) (qR 1 rfl (rQ rfl (pt_ (.bool p) e0 rfl (eqv O e0)) (qR 1 rfl (rK 48 rfl J (qR 1 rfl (rQ rfl (lb_ L.v O_42 e0 a R0) (rQ rfl (yLenF SLH_42 e0 a rO3 R4) (qR 1 rfl (rQ rfl (pt_ (.bool m) e0 rfl (eqv T e0)) ?_)))))))))))))
         refine qR 1 rfl (rK 54 rfl R (qR 1 rfl (rQ rfl (yLen SL_28 e0 a (rdI F0)) (qR 1 rfl (rQ rfl (pt_ (.bool j) e0 rfl (eqv X e0)) (qR 1 rfl (rK 59 rfl (bfalse U) (qR 3 rfl (Rn QSn (Lx (wqg_ok.2 rfl) (dU (D1 0 15032385536 35 rfl (Rn (qS rfl (qS rfl (qS rfl QSn))) ?_)))))))))))))
         refine Lx (wqg_ok.2 rfl) (dU (D1 1030792151040 0 40 rfl (rQ rfl (pf_ (.bool i) e0 rfl (eqv a5 rfl)) (qR 1 rfl (rK 66 rfl (bfalse a6) (qR 2 rfl (Rn QSn (Lx (wqg_ok.2 rfl) (dU (D1 2199023255552 0 42 rfl (rQ rfl (pf_ (.bool f) e0 rfl (eqv h7 rfl)) (Rn QSn (Ly wn (a_ (.bool f) e0) ?_)))))))))))))
         exact dU (Dw 0 0 (Rn QSn (jr () ((a.k21).fc))))
       ·have a7:=someI k
        have a8:¬ j=true:=fun h=>Bool.false_ne_true (a7.trans h)
        rw [if_neg a8] at b
        have a9:=someI b
        have b0:¬ i=true:=fun h=>Bool.false_ne_true (a9.trans h)
        rw [if_neg b0] at d
        have i0:=someI d
        refine dS [34,35,40,42] 4 folM ?_
        replace a:=a.drew
        refine D1 17179869183 0 34 rfl (qR 3 rfl (rK 31 rfl (dT y) (qR 2 rfl (rQ rfl (pt_ (.bool x) e0 rfl (eqv C e0)) (qR 1 rfl (rK 35 rfl B (qR 1 rfl (rQ rfl (pt_ (.bool t) e0 rfl (eqv F e0)) (qR 1 rfl (rK 38 rfl D (qR 1 rfl (rQ rfl (lb_ (iV o.1) O_3 e0 a R0) (qR 1 rfl ?_)))))))))))))
        refine rQ rfl (pt_ (.bool s) e0 rfl (eqv I e0)) (qR 1 rfl (rK 43 rfl G (qR 1 rfl (rQ rfl (lb_ (iV o.2.1) O_3 e0 a R0) (qR 1 rfl (rQ rfl (pt_ (.bool p) e0 rfl (eqv O e0)) (qR 1 rfl (rK 48 rfl J (qR 1 rfl (rQ rfl (lb_ L.v O_42 e0 a R0) (rQ rfl (yLenF SLH_42 e0 a rO3 R4) (qR 1 rfl (rQ rfl (pt_ (.bool m) e0 rfl (eqv T e0)) ?_)))))))))))))
        refine qR 1 rfl (rK 54 rfl (bfalse R) (qR 3 rfl (rQ rfl (pf_ (.bool j) e0 rfl (eqv a7 rfl)) (qR 1 rfl (rK 59 rfl (bfalse a8) (qR 3 rfl (Rn QSn (Lx (wqg_ok.2 rfl) (dU (D1 0 15032385536 35 rfl (Rn (qS rfl (qS rfl (qS rfl QSn))) (Lx (wqg_ok.2 rfl) (dU ?_)))))))))))))
        refine D1 1030792151040 0 40 rfl (rQ rfl (pf_ (.bool i) e0 rfl (eqv a9 rfl)) (qR 1 rfl (rK 66 rfl (bfalse b0) (qR 2 rfl (Rn QSn (Lx (wqg_ok.2 rfl) (dU (D1 2199023255552 0 42 rfl (rQ rfl (pf_ (.bool f) e0 rfl (eqv i0 rfl)) (Rn QSn (Ly wn (a_ (.bool f) e0) (dU (Dw 0 0 ?_)))))))))))))
        exact Rn QSn (jr () ((a.k21).fc))
      ·have b1:=someI r
       have b2:¬ m=true:=fun h=>Bool.false_ne_true (b1.trans h)
       rw [if_neg b2] at k
       have b3:=someI k
       have b4:¬ j=true:=fun h=>Bool.false_ne_true (b3.trans h)
       rw [if_neg b4] at b
       have b5:=someI b
       have b7:¬ i=true:=fun h=>Bool.false_ne_true (b5.trans h)
       rw [if_neg b7] at d
       have i1:=someI d
       refine dS [34,35,40,42] 4 folM ?_
       replace a:=a.drew
       refine D1 17179869183 0 34 rfl (qR 3 rfl (rK 31 rfl (dT y) (qR 2 rfl (rQ rfl (pt_ (.bool x) e0 rfl (eqv C e0)) (qR 1 rfl (rK 35 rfl B (qR 1 rfl (rQ rfl (pt_ (.bool t) e0 rfl (eqv F e0)) (qR 1 rfl (rK 38 rfl D (qR 1 rfl (rQ rfl (lb_ (iV o.1) O_3 e0 a R0) (qR 1 rfl ?_)))))))))))))
       refine rQ rfl (pt_ (.bool s) e0 rfl (eqv I e0)) (qR 1 rfl (rK 43 rfl G (qR 1 rfl (rQ rfl (lb_ (iV o.2.1) O_3 e0 a R0) (qR 1 rfl (rQ rfl (pt_ (.bool p) e0 rfl (eqv O e0)) (qR 1 rfl (rK 48 rfl (bfalse J) (qR 4 rfl (rQ rfl (pf_ (.bool m) e0 rfl (eqv b1 rfl)) (qR 1 rfl (rK 54 rfl (bfalse b2) (qR 3 rfl ?_)))))))))))))
       refine rQ rfl (pf_ (.bool j) e0 rfl (eqv b3 rfl)) (qR 1 rfl (rK 59 rfl (bfalse b4) (qR 3 rfl (Rn QSn (Lx (wqg_ok.2 rfl) (dU (D1 0 15032385536 35 rfl (Rn (qS rfl (qS rfl (qS rfl QSn))) (Lx (wqg_ok.2 rfl) (dU (D1 1030792151040 0 40 rfl (rQ rfl (pf_ (.bool i) e0 rfl (eqv b5 rfl)) (qR 1 rfl ?_)))))))))))))
       exact rK 66 rfl (bfalse b7) (qR 2 rfl (Rn QSn (Lx (wqg_ok.2 rfl) (dU (D1 2199023255552 0 42 rfl (rQ rfl (pf_ (.bool f) e0 rfl (eqv i1 rfl)) (Rn QSn (Ly wn (a_ (.bool f) e0) (dU (Dw 0 0 (Rn QSn (jr () ((a.k21).fc)))))))))))))
     ·have b8:=someI u
      have b9:¬ p=true:=fun h=>Bool.false_ne_true (b8.trans h)
      rw [if_neg b9] at r
      have c0:=someI r
      have c1:¬ m=true:=fun h=>Bool.false_ne_true (c0.trans h)
      rw [if_neg c1] at k
      have c2:=someI k
      have c3:¬ j=true:=fun h=>Bool.false_ne_true (c2.trans h)
      rw [if_neg c3] at b
      have c4:=someI b
      have c5:¬ i=true:=fun h=>Bool.false_ne_true (c4.trans h)
      rw [if_neg c5] at d
      have i2:=someI d
      refine dS [34,35,40,42] 4 folM ?_
      replace a:=a.drew
      refine D1 17179869183 0 34 rfl (qR 3 rfl (rK 31 rfl (dT y) (qR 2 rfl (rQ rfl (pt_ (.bool x) e0 rfl (eqv C e0)) (qR 1 rfl (rK 35 rfl B (qR 1 rfl (rQ rfl (pt_ (.bool t) e0 rfl (eqv F e0)) (qR 1 rfl (rK 38 rfl D (qR 1 rfl (rQ rfl (lb_ (iV o.1) O_3 e0 a R0) (qR 1 rfl ?_)))))))))))))
      refine rQ rfl (pt_ (.bool s) e0 rfl (eqv I e0)) (qR 1 rfl (rK 43 rfl (bfalse G) (qR 3 rfl (rQ rfl (pf_ (.bool p) e0 rfl (eqv b8 rfl)) (qR 1 rfl (rK 48 rfl (bfalse b9) (qR 4 rfl (rQ rfl (pf_ (.bool m) e0 rfl (eqv c0 rfl)) (qR 1 rfl (rK 54 rfl (bfalse c1) (qR 3 rfl (rQ rfl (pf_ (.bool j) e0 rfl (eqv c2 rfl)) (qR 1 rfl ?_)))))))))))))
      refine rK 59 rfl (bfalse c3) (qR 3 rfl (Rn QSn (Lx (wqg_ok.2 rfl) (dU (D1 0 15032385536 35 rfl (Rn (qS rfl (qS rfl (qS rfl QSn))) (Lx (wqg_ok.2 rfl) (dU (D1 1030792151040 0 40 rfl (rQ rfl (pf_ (.bool i) e0 rfl (eqv c4 rfl)) (qR 1 rfl (rK 66 rfl (bfalse c5) (qR 2 rfl ?_)))))))))))))
      exact Rn QSn (Lx (wqg_ok.2 rfl) (dU (D1 2199023255552 0 42 rfl (rQ rfl (pf_ (.bool f) e0 rfl (eqv i2 rfl)) (Rn QSn (Ly wn (a_ (.bool f) e0) (dU (Dw 0 0 (Rn QSn (jr () ((a.k21).fc)))))))))))
    ·have c6:=someI A
     have c7:¬ s=true:=fun h=>Bool.false_ne_true (c6.trans h)
     rw [if_neg c7] at u
     have c8:=someI u
     have c9:¬ p=true:=fun h=>Bool.false_ne_true (c8.trans h)
     rw [if_neg c9] at r
     have d0:=someI r
     have d1:¬ m=true:=fun h=>Bool.false_ne_true (d0.trans h)
     rw [if_neg d1] at k
     have d2:=someI k
     have d3:¬ j=true:=fun h=>Bool.false_ne_true (d2.trans h)
     rw [if_neg d3] at b
     have d4:=someI b
     have d5:¬ i=true:=fun h=>Bool.false_ne_true (d4.trans h)
     rw [if_neg d5] at d
     have i3:=someI d
     refine dS [34,35,40,42] 4 folM ?_
     replace a:=a.drew
     refine D1 17179869183 0 34 rfl (qR 3 rfl (rK 31 rfl (dT y) (qR 2 rfl (rQ rfl (pt_ (.bool x) e0 rfl (eqv C e0)) (qR 1 rfl (rK 35 rfl B (qR 1 rfl (rQ rfl (pt_ (.bool t) e0 rfl (eqv F e0)) (qR 1 rfl (rK 38 rfl (bfalse D) (qR 3 rfl (rQ rfl (pf_ (.bool s) e0 rfl (eqv c6 rfl)) (qR 1 rfl ?_)))))))))))))
     refine rK 43 rfl (bfalse c7) (qR 3 rfl (rQ rfl (pf_ (.bool p) e0 rfl (eqv c8 rfl)) (qR 1 rfl (rK 48 rfl (bfalse c9) (qR 4 rfl (rQ rfl (pf_ (.bool m) e0 rfl (eqv d0 rfl)) (qR 1 rfl (rK 54 rfl (bfalse d1) (qR 3 rfl (rQ rfl (pf_ (.bool j) e0 rfl (eqv d2 rfl)) (qR 1 rfl (rK 59 rfl (bfalse d3) (qR 3 rfl ?_)))))))))))))
     refine Rn QSn (Lx (wqg_ok.2 rfl) (dU (D1 0 15032385536 35 rfl (Rn (qS rfl (qS rfl (qS rfl QSn))) (Lx (wqg_ok.2 rfl) (dU (D1 1030792151040 0 40 rfl (rQ rfl (pf_ (.bool i) e0 rfl (eqv d4 rfl)) (qR 1 rfl (rK 66 rfl (bfalse d5) (qR 2 rfl (Rn QSn (Lx (wqg_ok.2 rfl) ?_)))))))))))))
     exact dU (D1 2199023255552 0 42 rfl (rQ rfl (pf_ (.bool f) e0 rfl (eqv i3 rfl)) (Rn QSn (Ly wn (a_ (.bool f) e0) (dU (Dw 0 0 (Rn QSn (jr () ((a.k21).fc)))))))))
   ·have d6:=someI E
    have d7:¬ t=true:=fun h=>Bool.false_ne_true (d6.trans h)
    rw [if_neg d7] at A
    have d8:=someI A
    have d9:¬ s=true:=fun h=>Bool.false_ne_true (d8.trans h)
    rw [if_neg d9] at u
    have e1:=someI u
    have e2:¬ p=true:=fun h=>Bool.false_ne_true (e1.trans h)
    rw [if_neg e2] at r
    have e3:=someI r
    have e4:¬ m=true:=fun h=>Bool.false_ne_true (e3.trans h)
    rw [if_neg e4] at k
    have e5:=someI k
    have e6:¬ j=true:=fun h=>Bool.false_ne_true (e5.trans h)
    rw [if_neg e6] at b
    have e7:=someI b
    have e8:¬ i=true:=fun h=>Bool.false_ne_true (e7.trans h)
    rw [if_neg e8] at d
    have i4:=someI d
    refine dS [34,35,40,42] 4 folM ?_
    replace a:=a.drew
    refine D1 17179869183 0 34 rfl (qR 3 rfl (rK 31 rfl (dT y) (qR 2 rfl (rQ rfl (pt_ (.bool x) e0 rfl (eqv C e0)) (qR 1 rfl (rK 35 rfl (bfalse B) (qR 1 rfl (rQ rfl (pf_ (.bool t) e0 rfl (eqv d6 rfl)) (qR 1 rfl (rK 38 rfl (bfalse d7) (qR 3 rfl (rQ rfl (pf_ (.bool s) e0 rfl (eqv d8 rfl)) (qR 1 rfl ?_)))))))))))))
    refine rK 43 rfl (bfalse d9) (qR 3 rfl (rQ rfl (pf_ (.bool p) e0 rfl (eqv e1 rfl)) (qR 1 rfl (rK 48 rfl (bfalse e2) (qR 4 rfl (rQ rfl (pf_ (.bool m) e0 rfl (eqv e3 rfl)) (qR 1 rfl (rK 54 rfl (bfalse e4) (qR 3 rfl (rQ rfl (pf_ (.bool j) e0 rfl (eqv e5 rfl)) (qR 1 rfl (rK 59 rfl (bfalse e6) (qR 3 rfl ?_)))))))))))))
    refine Rn QSn (Lx (wqg_ok.2 rfl) (dU (D1 0 15032385536 35 rfl (Rn (qS rfl (qS rfl (qS rfl QSn))) (Lx (wqg_ok.2 rfl) (dU (D1 1030792151040 0 40 rfl (rQ rfl (pf_ (.bool i) e0 rfl (eqv e7 rfl)) (qR 1 rfl (rK 66 rfl (bfalse e8) (qR 2 rfl (Rn QSn (Lx (wqg_ok.2 rfl) ?_)))))))))))))
    exact dU (D1 2199023255552 0 42 rfl (rQ rfl (pf_ (.bool f) e0 rfl (eqv i4 rfl)) (Rn QSn (Ly wn (a_ (.bool f) e0) (dU (Dw 0 0 (Rn QSn (jr () ((a.k21).fc)))))))))
  ·have e9:=someI N
   have f0:¬ x=true:=fun h=>Bool.false_ne_true (e9.trans h)
   rw [if_neg f0] at E
   have f1:=someI E
   have f2:¬ t=true:=fun h=>Bool.false_ne_true (f1.trans h)
   rw [if_neg f2] at A
   have f3:=someI A
   have f4:¬ s=true:=fun h=>Bool.false_ne_true (f3.trans h)
   rw [if_neg f4] at u
   have f5:=someI u
   have f6:¬ p=true:=fun h=>Bool.false_ne_true (f5.trans h)
   rw [if_neg f6] at r
   have f7:=someI r
   have f8:¬ m=true:=fun h=>Bool.false_ne_true (f7.trans h)
   rw [if_neg f8] at k
   have f9:=someI k
   have g0:¬ j=true:=fun h=>Bool.false_ne_true (f9.trans h)
   rw [if_neg g0] at b
   have g1:=someI b
   have g2:¬ i=true:=fun h=>Bool.false_ne_true (g1.trans h)
   rw [if_neg g2] at d
   have i5:=someI d
   refine dS [34,35,40,42] 4 folM ?_
   replace a:=a.drew
   refine D1 17179869183 0 34 rfl (qR 3 rfl (rK 31 rfl (dF y) (qR 2 rfl (rQ rfl (pf_ (.bool x) e0 rfl (eqv e9 rfl)) (qR 1 rfl (rK 35 rfl (bfalse f0) (qR 1 rfl (rQ rfl (pf_ (.bool t) e0 rfl (eqv f1 rfl)) (qR 1 rfl (rK 38 rfl (bfalse f2) (qR 3 rfl (rQ rfl (pf_ (.bool s) e0 rfl (eqv f3 rfl)) (qR 1 rfl ?_)))))))))))))
   refine rK 43 rfl (bfalse f4) (qR 3 rfl (rQ rfl (pf_ (.bool p) e0 rfl (eqv f5 rfl)) (qR 1 rfl (rK 48 rfl (bfalse f6) (qR 4 rfl (rQ rfl (pf_ (.bool m) e0 rfl (eqv f7 rfl)) (qR 1 rfl (rK 54 rfl (bfalse f8) (qR 3 rfl (rQ rfl (pf_ (.bool j) e0 rfl (eqv f9 rfl)) (qR 1 rfl (rK 59 rfl (bfalse g0) (qR 3 rfl ?_)))))))))))))
   refine Rn QSn (Lx (wqg_ok.2 rfl) (dU (D1 0 15032385536 35 rfl (Rn (qS rfl (qS rfl (qS rfl QSn))) (Lx (wqg_ok.2 rfl) (dU (D1 1030792151040 0 40 rfl (rQ rfl (pf_ (.bool i) e0 rfl (eqv g1 rfl)) (qR 1 rfl (rK 66 rfl (bfalse g2) (qR 2 rfl (Rn QSn (Lx (wqg_ok.2 rfl) ?_)))))))))))))
   exact dU (D1 2199023255552 0 42 rfl (rQ rfl (pf_ (.bool f) e0 rfl (eqv i5 rfl)) (Rn QSn (Ly wn (a_ (.bool f) e0) (dU (Dw 0 0 (Rn QSn (jr () ((a.k21).fc)))))))))
 rintro _ g w a
 refine q 2 rfl ?_
 cases c
 exact za g3 results8 ⟨rfl,a⟩
instance:CL prog 8 (type_of% @w_e5):=⟨@w_e5⟩
theorem w_e6 {j:LI} {k l m:Int} {n:Bool} {o:Hdr} {out:Bool} (c:m_jy j k l m n=some out) (E:out=true) (F:imm (rI .u64) o.v j∈ros) (G:globF∈ros) (a:St w0 ros rs w):
  Calls prog 3 #[o.v,iV k,iV l,iV m,.bool n] w (fun e w=>e=.returned (.bool out)∧St w0 ros rs w):=by
 refine en func3 rfl ntmps3 fun Q t=>?_
 refine z 7 15 ?_;intro H I c J K L w a N w a w a f O c u w a h R c x w a
 refine jW 4 [12,15] [(43,.bool ((decide (f.2.2=h.2.2)) && (f.2.1 == h.2.1)))] (St w0 (imm (rP rB (rS (rI .u32))) u.v f.1::imm (rP rB (rS (rI .u32))) x.v h.1::ros) rs) rfl (fun p=>?_) ?_
 ·refine gB 39 rfl (fun i=>?_) fun i=>?_
  ·exact q 2 rfl (y (yeqb (by kernel_rfl) e0 e0) (q 1 rfl (p _ _ ((a.k13).facts (allC F1 (allC F0 (allT (allT (allT (allT (allT allI)))))))) (hasC (congrArg Value.bool (andT i)) rfl))))
  ·exact q 4 rfl (p _ _ ((a.k13).facts (allC F1 (allC F0 (allT (allT (allT (allT (allT allI)))))))) (hasC (congrArg Value.bool (andF i)) rfl))
 intro g w a
 refine bE c fun A b c=>q 1 rfl ?_
 refine jW 4 [] [(48,.bool A)] (St w0 ros rs) rfl (fun r=>?_) ?_
 ·refine gJ 44 b rfl (fun B b=>?_) fun B b=>?_
  ·refine q 2 rfl (bE b fun S T b=>?_)
   refine z 1 1 ?_;intro w a
   cases b
   exact r _ _ (a.fc) rfl
  ·refine q 4 rfl ?_
   cases b
   exact r _ _ (a.fc) rfl
 intro g w a
 refine bE c fun C d c=>q 1 rfl ?_
 refine jW 2 [] [(51,.bool C)] (St w0 ros rs) rfl (fun s=>?_) ?_
 ·refine gJ 49 d rfl (fun D d=>?_) fun D d=>?_
  ·refine bE d fun U V d=>?_
   refine z 1 1 ?_;intro w a
   cases d
   exact s _ _ a rfl
  ·refine q 2 rfl ?_
   cases d
   exact s _ _ a rfl
 intro g w a
 refine q 4 rfl ?_
 cases c
 exact za t results3 ⟨rfl,a⟩
instance:CL prog 3 (type_of% @w_e6):=⟨@w_e6⟩
end Go.Proofs.YtcoaljcfifecgabGreatDoor
