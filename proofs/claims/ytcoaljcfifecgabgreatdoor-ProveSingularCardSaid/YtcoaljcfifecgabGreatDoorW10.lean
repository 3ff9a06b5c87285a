/- Walks: each function computes its model, printed. -/
import Derived.Test.YtcoaljcfifecgabGreatDoorW9
namespace Go.Proofs.YtcoaljcfifecgabGreatDoor
open Go Sx M Go.Proofs.Tryz
set_option maxRecDepth 100000
set_option maxHeartbeats 40000000
set_option linter.unusedVariables false
attribute [local irreducible] wpList Code.wp Calls DR QR QS LA LS St row box fam imm rowS loop
variable {w0:World} {ros:List Fact} {rs:List Res} {w:World}
theorem w_d6 {A:List (List (Bool×LI))} {B:Int} {C:Hdr} {out:(List (List (Bool×LI)))} (c:m_h1 A B=some out) (a8:imm (rS (rP rB (rS (rI .u32)))) C.v A∈ros) (a:St w0 ros rs w):
  Calls prog 17 #[C.v,iV B] w (fun e w=>∃ (D:Hdr),e=.returned (D.v)∧St w0 ros (row 28 (rS (rP rB (rS (rI .u32)))) D.v out::rs) w):=by
 refine en func17 rfl ntmps17 fun Q T=>bE c fun E U c=>q 22 rfl ?_
 replace a:=(a.rowNh 28 (rS (rP rB (rS (rI .u32))))).immNh I1
 refine lpN (Hdr×Hdr) Hdr U [0,1] (fun (d,f,h) (i,j)=>[(5,i.v),(6,j.v),(7,iV h)]) (fun (d,f,h) (i,j)=>St w0 (imm I1 j.v f::ros) (row 28 (rS (rP rB (rS (rI .u32)))) i.v d::rs)) (fun | E,t=>(.exit 0,[(5,t.v)],St w0 ros (row 28 (rS (rP rB (rS (rI .u32)))) t.v E::rs))) rfl (_,_) a rfl ?_ ?_
 ·clear a
  rintro t g w a
  refine q 9 rfl ?_
  cases c
  exact T _ _ _ (fin1r results17 ⟨rfl,rfl⟩ ⟨_,rfl,a⟩)
 rintro ⟨d,f,h⟩ ⟨i,j⟩ g w F a c
 refine q 8 rfl (cI c (fun V c=>?_) fun V c=>?_)
 ·refine q 3 rfl ?_
  refine jC ((List (List (Bool×LI)))×LI×Hdr×Hdr) [0,1,7] (fun (o,p,r,s)=>[(5,r.v),(6,s.v)]) (fun (o,p,r,s) w=>St w0 (imm I1 s.v p::ros) (row 28 (rS (rP rB (rS (rI .u32)))) r.v o::rs) w∧m_hx h o p=some F) rfl ?_ ?_
  ·rintro ⟨o,p,r,s⟩ g w ⟨a,c⟩
   refine q 6 rfl ?_
   cases c
   exact ln (_,_) a
  refine q 3 rfl (yh (rLt (n:=0) (l:=[]) a SL_23 [] bp0 rfl rfl mks0) fun a9 w a=>?_)
  refine z 1 1 ?_;intro b0 b1 c b2 w a
  refine yh (rLt (n:=1) (l:=[h]) a SL_23 [iV h] (bp1 e0) rfl rfl (mks1 (cs:=[iV h]) rfl mkI mks0)) fun b3 w a=>?_
  refine z 2 2 ?_;intro G b4 c H w a
  refine bE c fun W b c=>?_
  refine jW 10 [0,1,5,6,7,8] [(36,.bool W)] (St w0 (imm I1 j.v f::imm I1 H.v G::ros) (row 28 (rS (rP rB (rS (rI .u32)))) i.v d::rs)) rfl (fun I=>?_) ?_
  ·refine gI 26 b rfl (fun X b=>?_) fun X b=>?_
   ·refine q 2 rfl (bE b fun b5 b6 b=>?_)
    refine z 2 0 ?_;intro b7 w a
    refine bE b fun b8 b9 b=>?_
    refine z 2 2 ?_;intro w a
    cases b
    exact I _ _ ((a.k11).facts (allC F2 (allC F1 (allT (allT (allT allI)))))) rfl
   ·refine q 10 rfl ?_
    cases b
    replace a:=a.fz
    exact I _ _ ((a.k11).facts (allC F1 (allC F0 (allT (allT allI))))) rfl
  intro g w a
  refine q 2 rfl ?_
  refine cJ c (fun Z c=>?_) fun Z c=>?_
  ·exact q 9 rfl (jx (_,_,_,_) ⟨(a.facts (allC F1 (allT (allT allI)))),c⟩)
  ·refine q 5 rfl (bE c fun c0 a0 c=>yh (rMk a SL_28 e0 a0) fun k w a=>?_)
   refine z 1 0 ?_;intro a1 c1 c a2 w a
   refine bE c fun c2 J c=>y (yIs SL_28 e0 e0 a rO1 J) ?_
   replace a:=a.fz
   refine yt (r_stn (cs:=[.bool a1.1,a2.v]) a ST_49 e0 e0 rfl (mkP mkB (mkS F0)) J) fun w a=>?_
   refine z 1 3 ?_
   refine jC (List (Bool×LI)) [0,1,5,6,7,9] (fun m=>[]) (fun m w=>St w0 (imm I1 j.v f::ros) (row 28 (rS (rP rB (rS (rI .u32)))) i.v d::row 49 (rP rB (rS (rI .u32))) k.v m::rs) w∧m_hy d h f m=some F) rfl ?_ ?_
   ·rintro m g w ⟨a,c⟩
    refine q 4 rfl ?_
    replace a:=(a.k16).fz
    refine yh (rLt (n:=1) (l:=[m]) a SL_42 [k.v] (bp1 e0) rfl rfl (mks1 (cs:=[k.v]) rfl (mkS F0) mks0)) fun c3 w a=>?_
    refine z 1 3 ?_;intro c4 c5 c c6 w a
    exact jx (_,_,_,_) ⟨((a.k10).facts (allC F1 (allT (allT allI)))),c⟩
   refine cI c (fun a3 c=>?_) fun a3 c=>?_
   ·refine z 2 9 ?_;intro c7 c8 c c9 w a a4 d0 c a5 w a
    refine bE c fun K a6 c=>?_
    refine lp a6 [0,1,5,6,7,8,9,10] (fun (u,x)=>[(11,iV x)]) (fun (u,x)=>St w0 (imm I1 j.v f::imm I1 H.v G::ros) (row 28 (rS (rP rB (rS (rI .u32)))) i.v d::row 49 (rP rB (rS (rI .u32))) k.v u::row 49 (rP rB (rS (rI .u32))) a5.v a4::rs)) (fun | K=>(.exit 2,[],St w0 (imm I1 j.v f::ros) (row 28 (rS (rP rB (rS (rI .u32)))) i.v d::row 49 (rP rB (rS (rI .u32))) k.v K::rs))) rfl ((a.k18).facts (allC F2 (allC F3 (allT (allT (allT (allT allI))))))) rfl ?_ ?_
    ·clear a
     intro g w a
     exact q 1 rfl (jx _ ⟨a,c⟩)
    rintro ⟨u,x⟩ g w d1 a c
    refine z 1 3 ?_
    refine cI c (fun a7 c=>?_) fun a7 c=>?_
    ·refine q 4 rfl (bE c fun d2 L c=>bE c fun N O c=>bE c fun d3 R c=>dS [10] 1 folM ?_)
     replace a:=a.drew
     refine D0 1023 0 10 rfl (qR 3 rfl (rQ rfl (yIa SL_23 e0 e0 a (rdI F1) L) (rQ rfl (yI O_3 e0 a (rdI F1) L) (qR 2 rfl (rQ rfl (yIa SL_28 e0 e0 a rO2 O) ?_)))))
     obtain ⟨d4,d5,cc865,a⟩:=a.ld rO2 O
     replace a:=a.eltP
     obtain ⟨d6,d7,rfl,a⟩:=a
     replace a:=a.eltB
     obtain ⟨rfl,a⟩:=a
     replace a:=a.eltS
     obtain ⟨S,rfl,a⟩:=a
     refine rQ rfl (yCn (cs:=[.bool N.1,S.v]) ST_49 rfl e0 cc865) (rQ rfl (yIs SL_28 e0 e0 a rO1 R) (Rn QSn ?_))
     replace a:=a.k16
     refine LT wn (r_stn (cs:=[.bool N.1,S.v]) a ST_49 e0 e0 rfl (mkP mkB (mkS F0)) R) fun w a=>Dw 0 0 (Rn QSn (qx 7 rfl ?_))
     cases c
     exact lo ((a.k1c).facts (allC F1 (allC F2 (allT (allT (allT allI))))))
    ·refine q 2 rfl ?_
     cases c
     exact xo ((a.k1d).facts (allC F0 (allT (allT allI))))
   ·exact q 1 rfl (jx _ ⟨((a.k16).facts (allC F1 (allT (allT (allT allI))))),c⟩)
 ·refine q 2 rfl ?_
  cases c
  exact lx _ (a.fc)
instance:CL prog 17 (type_of% @w_d6):=⟨@w_d6⟩
theorem w_d7 {d b:Int} {j k l:LI} {f g h:Hdr} {out:(List (Bool×LI))×Bool×Int} (c:m_h2 d b j k l=some out) (o:imm I1 f.v j∈ros) (p:imm I1 g.v k∈ros) (r:imm (rI .u64) h.v l∈ros) (s:globF∈ros) (a:St w0 ros rs w):
  Calls prog 6 #[.agg #[iV d,iV b,f.v,g.v,h.v]] w (fun e w=>∃ (m:Hdr),e=.returned (.tuple #[m.v,.bool out.2.1,iV out.2.2])∧St w0 (imm (rP rB (rS (rI .u32))) m.v out.1::ros) rs w):=by
 refine en func6 rfl ntmps6 fun Q i=>q 2 rfl (yb (r_box (vals:=[iV d,iV b,f.v,g.v,h.v]) a e0 rfl) fun B w a=>q 7 rfl (y (lbs_ [iV d,iV b,f.v,g.v,h.v] ST_26 e0 a R0) (bE c fun C t c=>cO (w_do t o p r s a) fun D w a=>q 16 rfl ?_)))
 refine cIn c (fun u c=>?_) fun u c=>?_
 ·refine q 6 rfl (y (lb_ (iV b) O_3 e0 a R1) (bE c fun E x c=>?_))
  replace a:=a.fz
  refine cO (w_d6 x F0 a) fun F w a=>q 7 rfl (y (yLen SL_42 e0 a rO0) (q 3 rfl (cI c (fun z c=>?_) fun z c=>?_)))
  ·refine q 9 rfl ?_
   cases c
   replace a:=a.immNh (rP rB (rS (rI .u32)))
   exact i _ _ _ (fin3r results6 ⟨rfl,rfl⟩ ⟨rfl,rfl⟩ ⟨rfl,rfl⟩ ⟨_,rfl,((a.k19).facts (allC F0 (allT (allT allI))))⟩)
  ·refine q 5 rfl (bE c fun G n c=>y (yIa SL_42 e0 rfl a rO0 n) ?_)
   obtain ⟨H,A,a⟩:=rLs a rO0 n
   refine y (yCe O_28 e0 A rfl) (q 6 rfl ?_)
   cases c
   exact i _ _ _ (fin3r results6 ⟨rfl,rfl⟩ ⟨rfl,rfl⟩ ⟨rfl,rfl⟩ ⟨_,rfl,((a.k19).facts (allC F0 (allT (allT allI))))⟩)
 ·refine q 10 rfl ?_
  cases c
  replace a:=a.immNh (rP rB (rS (rI .u32)))
  exact i _ _ _ (fin3r results6 ⟨rfl,rfl⟩ ⟨rfl,rfl⟩ ⟨rfl,rfl⟩ ⟨_,rfl,(a.k19)⟩)
instance:CL prog 6 (type_of% @w_d7):=⟨@w_d7⟩
theorem w_d8 {f h:LI} {i j:Hdr} {out:Bool} (c:m_h4 f h=some out) (p:imm (rI .u32) i.v f∈ros) (r:imm (rI .u32) j.v h∈ros) (a:St w0 ros rs w):
  Calls prog 45 #[i.v,j.v] w (fun e w=>e=.returned (.bool out)∧St w0 ros rs w):=by
 refine en func45 rfl ntmps45 fun Q b=>?_
 refine z 2 3 ?_
 refine cIn c (fun k c=>?_) fun k c=>?_
 ·refine q 9 rfl (bE c fun l m c=>?_)
  refine lp m [0,1] (fun d=>[(5,iV d)]) (fun d=>St w0 ros rs) (fun | .inl ()=>(.exit 0,[],St w0 ros rs) | .inr ()=>(.ret,[(4,.bool false)],St w0 ros rs)) rfl a rfl ?_ ?_
  ·clear a
   intro g w a
   rcases l with ⟨⟩ | ⟨⟩
   ·refine q 8 rfl ?_
    cases c
    exact za b results45 ⟨rfl,a⟩
   ·refine q 2 rfl ?_
    cases c
    exact za b results45 ⟨rfl,a⟩
  rintro d g w s a c
  refine z 1 3 ?_
  refine cI c (fun n c=>?_) fun n c=>?_
  ·refine q 5 rfl (bE c fun t u c=>bE c fun x y c=>dS [] 0 folM ?_)
   replace a:=a.drew
   refine z 4 1 ?_
   refine cIn c (fun o c=>?_) fun o c=>?_
   ·refine q 8 rfl ?_
    cases c
    exact lo a
   ·refine q 8 rfl ?_
    cases c
    exact xo a
  ·refine q 2 rfl ?_
   cases c
   exact xo a
 ·refine q 7 rfl ?_
  cases c
  exact za b results45 ⟨rfl,a⟩
instance:CL prog 45 (type_of% @w_d8):=⟨@w_d8⟩
theorem w_d9 {d:Bool} {f:LI} {h:Bool} {i:LI} {j k:Hdr} {out:Bool} (c:m_h5 d f h i=some out) (p:imm (rI .u32) j.v f∈ros) (r:imm (rI .u32) k.v i∈ros) (a:St w0 ros rs w):
  Calls prog 18 #[.agg #[.bool d,j.v],.agg #[.bool h,k.v]] w (fun e w=>e=.returned (.bool out)∧St w0 ros rs w):=by
 refine en func18 rfl ntmps18 fun Q m=>?_
 refine z 4 0 ?_;intro s w a t w a
 refine y (yeqb (by kernel_rfl) e0 e0) (bE c fun n b c=>q 1 rfl ?_)
 refine jW 6 [] [(16,.bool n)] (St w0 ros rs) rfl (fun l=>?_) ?_
 ·refine gJ 10 b rfl (fun o b=>?_) fun o b=>?_
  ·refine z 2 0 ?_
   refine bE b fun u x b=>?_
   refine z 1 1 ?_;intro w a
   cases b
   exact l _ _ (a.k19) rfl
  ·refine q 6 rfl ?_
   cases b
   exact l _ _ (a.k19) rfl
 intro g w a
 refine q 4 rfl ?_
 cases c
 exact za m results18 ⟨rfl,a⟩
instance:CL prog 18 (type_of% @w_d9):=⟨@w_d9⟩
theorem w_ea {f h:List (Bool×LI)} {i j:Hdr} {out:Bool} (c:m_h7 f h=some out) (k:imm (rP rB (rS (rI .u32))) i.v f∈ros) (l:imm (rP rB (rS (rI .u32))) j.v h∈ros) (a:St w0 ros rs w):
  Calls prog 7 #[i.v,j.v] w (fun e w=>e=.returned (.bool out)∧St w0 ros rs w):=by
 refine en func7 rfl ntmps7 fun Q b=>?_
 refine z 2 3 ?_
 refine cIn c (fun m c=>?_) fun m c=>?_
 ·refine q 9 rfl (bE c fun n o c=>?_)
  refine lp o [0,1] (fun d=>[(5,iV d)]) (fun d=>St w0 ros rs) (fun | .inl ()=>(.exit 0,[],St w0 ros rs) | .inr ()=>(.ret,[(4,.bool false)],St w0 ros rs)) rfl a rfl ?_ ?_
  ·clear a
   intro g w a
   rcases n with ⟨⟩ | ⟨⟩
   ·refine q 8 rfl ?_
    cases c
    exact za b results7 ⟨rfl,a⟩
   ·refine q 2 rfl ?_
    cases c
    exact za b results7 ⟨rfl,a⟩
  rintro d g w B a c
  refine z 1 3 ?_
  refine cI c (fun p c=>?_) fun p c=>?_
  ·refine q 5 rfl (bE c fun r s c=>bE c fun t u c=>bE c fun C D c=>dS [8] 1 folM ?_)
   replace a:=a.drew
   refine z 1 0 ?_
   obtain ⟨E,F,a⟩:=iLd a k s
   obtain ⟨G,H,rfl,a⟩:=a.eltP
   obtain ⟨rfl,a⟩:=a.eltB
   obtain ⟨x,rfl,a⟩:=a.eltS
   refine rQ rfl (yCtn (cs:=[.bool r.1,x.v]) ST_49 rfl e0 a F1) ?_
   refine z 1 0 ?_
   obtain ⟨I,J,a⟩:=iLd a (F_2 l) u
   obtain ⟨K,L,rfl,a⟩:=a.eltP
   obtain ⟨rfl,a⟩:=a.eltB
   obtain ⟨y,rfl,a⟩:=a.eltS
   refine rQ rfl (yCtn (cs:=[.bool t.1,y.v]) ST_49 rfl e0 a F1) ?_
   refine z 1 1 ?_;intro w a
   refine cJn c (fun A c=>?_) fun A c=>?_
   ·refine q 8 rfl ?_
    cases c
    exact lo (a.fc)
   ·refine q 8 rfl ?_
    cases c
    exact xo (a.fc)
  ·refine q 2 rfl ?_
   cases c
   exact xo a
 ·refine q 7 rfl ?_
  cases c
  exact za b results7 ⟨rfl,a⟩
instance:CL prog 7 (type_of% @w_ea):=⟨@w_ea⟩
theorem w_eb {b:Int} {out:Bool} (c:m_h9 b=some out) (a:St w0 ros rs w):
  Calls prog 52 #[iV b] w (fun e w=>e=.returned (.bool out)∧St w0 ros rs w):=by
 refine en func52 rfl ntmps52 fun Q d=>q 11 rfl ?_
 refine jW 3 [0] [(9,.bool ((decide (b < 2)) || (decide ((2147483647:Int) < b))))] (St w0 ros rs) rfl (fun i=>?_) ?_
 ·refine gB 6 rfl (fun f=>?_) fun f=>?_
  ·exact q 3 rfl (i _ _ a (hasC (congrArg Value.bool (orT f)) rfl))
  ·exact q 3 rfl (i _ _ a (hasC (congrArg Value.bool (orF f)) rfl))
 intro g w a
 refine q 2 rfl ?_
 refine cJ c (fun j c=>?_) fun j c=>?_
 ·refine q 7 rfl ?_
  cases c
  exact za d results52 ⟨rfl,a⟩
 ·refine q 9 rfl (bE c fun k l c=>?_)
  refine lp l [0] (fun h=>[(3,iV h)]) (fun h=>St w0 ros rs) (fun | .inl ()=>(.exit 0,[],St w0 ros rs) | .inr ()=>(.ret,[(2,.bool false)],St w0 ros rs)) rfl a rfl ?_ ?_
  ·clear a
   intro g w a
   rcases k with ⟨⟩ | ⟨⟩
   ·refine q 8 rfl ?_
    cases c
    exact za d results52 ⟨rfl,a⟩
   ·refine q 2 rfl ?_
    cases c
    exact za d results52 ⟨rfl,a⟩
  rintro h g w o a c
  refine q 10 rfl (cI c (fun m c=>?_) fun m c=>?_)
  ·refine z 1 3 ?_;intro p r c
   refine cI c (fun n c=>?_) fun n c=>?_
   ·refine q 8 rfl ?_
    cases c
    exact xo a
   ·refine q 8 rfl ?_
    cases c
    exact lo a
  ·refine q 2 rfl ?_
   cases c
   exact xo a
instance:CL prog 52 (type_of% @w_eb):=⟨@w_eb⟩
theorem w_ec {o j:Int} {out:LI} (c:m_ic o j=some out) (a:St w0 ros rs w):
  Calls prog 47 #[iV o,iV j] w (fun e w=>∃ (p:Hdr),e=.returned (p.v)∧St w0 ros (row 3 I1 p.v out::rs) w):=by
 refine en func47 rfl ntmps47 fun Q r=>q 17 rfl (cI c (fun u c=>?_) fun u c=>?_)
 ·refine q 7 rfl ?_
  cases c
  replace a:=a.rowNh 3 I1
  exact r _ _ _ (fin1r results47 ⟨rfl,rfl⟩ ⟨_,rfl,a⟩)
 ·refine q 12 rfl (bE c fun s x c=>?_)
  replace a:=a.rowNh 3 I1
  refine lpN Hdr Hdr x [1] (fun (d,b) f=>[(5,f.v),(6,iV b)]) (fun (d,b) f=>St w0 ros (row 3 I1 f.v d::rs)) (fun | s,k=>(.exit 0,[(5,k.v)],St w0 ros (row 3 I1 k.v s::rs))) rfl _ a rfl ?_ ?_
  ·clear a
   rintro k g w a
   refine q 9 rfl ?_
   cases c
   exact r _ _ _ (fin1r results47 ⟨rfl,rfl⟩ ⟨_,rfl,a⟩)
  rintro ⟨d,b⟩ f g w y a c
  refine q 6 rfl ?_
  refine jW 6 [1,5,6] [(20,.bool ((decide ((2:Int)≤b)) && (decide ((d.length:Int) < (imin j 100)))))] (St w0 ros (row 3 I1 f.v d::rs)) rfl (fun t=>?_) ?_
  ·refine gB 14 rfl (fun m=>?_) fun m=>?_
   ·refine z 1 4 ?_
    exact t _ _ a (hasC (congrArg Value.bool (andT m)) rfl)
   ·exact q 6 rfl (t _ _ a (hasC (congrArg Value.bool (andF m)) rfl))
  intro g w a
  refine q 2 rfl ?_
  refine cJ c (fun A c=>?_) fun A c=>?_
  ·refine z 1 2 ?_;intro C D c w a
   refine jC (LI×Hdr) [1,6] (fun (h,i)=>[(5,i.v)]) (fun (h,i) w=>St w0 ros (row 3 I1 i.v h::rs) w∧m_ia b h=some y) rfl ?_ ?_
   ·rintro ⟨h,i⟩ g w ⟨a,c⟩
    refine q 7 rfl ?_
    cases c
    exact ln _ a
   refine cJ c (fun B c=>?_) fun B c=>?_
   ·refine q 3 rfl (yh (rLt (n:=1) (l:=[b]) a SL_23 [iV b] (bp1 e0) rfl rfl (mks1 (cs:=[iV b]) rfl mkI mks0)) fun E w a=>?_)
    refine z 1 2 ?_;intro F G c H w a
    exact jx (_,_) ⟨(a.k10),c⟩
   ·exact q 1 rfl (jx (_,_) ⟨a,c⟩)
  ·refine q 2 rfl ?_
   cases c
   exact lx _ a
instance:CL prog 47 (type_of% @w_ec):=⟨@w_ec⟩
theorem w_ed {b:Bool} {p:LI} {f:Hdr} {out:Int×Bool} (c:m_ie b p=some out) (F:imm (rI .u32) f.v p∈ros) (a:St w0 ros rs w):
  Calls prog 164 #[.agg #[.bool b,f.v]] w (fun e w=>e=.returned (.tuple #[iV out.1,.bool out.2])∧St w0 ros rs w):=by
 refine en func164 rfl ntmps164 fun Q h=>?_
 refine z 4 3 ?_;intro i w a x G c y w a
 refine cI c (fun A c=>?_) fun A c=>?_
 ·refine q 8 rfl ?_
  cases c
  exact zb h results164 ⟨rfl,((a.k13).fc)⟩
 ·refine z 1 4 ?_
  refine bE c fun d B c=>?_
  refine lp B [1,14,15] (fun (j,k)=>[(5,.int .u64 j),(16,iV k)]) (fun (j,k)=>St w0 (imm (rI .u32) y.v x::ros) (box i 49 [.bool b,f.v]::rs)) (fun | d=>(.exit 0,[(5,.int .u64 d)],St w0 ros (box i 49 [.bool b,f.v]::rs))) rfl a rfl ?_ ?_
  ·clear a
   intro g w a
   refine z 1 1 ?_
   refine jW 3 [1,5] [(35,.bool (b && (decide ((0:Int) < d))))] (St w0 ros (box i 49 [.bool b,f.v]::rs)) rfl (fun r=>?_) ?_
   ·refine gB 32 rfl (fun l=>?_) fun l=>?_
    ·exact q 3 rfl (r _ _ a (hasC (congrArg Value.bool (andT l)) rfl))
    ·exact q 3 rfl (r _ _ a (hasC (congrArg Value.bool (andF l)) rfl))
   intro g w a
   refine q 1 rfl ?_
   refine jW 3 [1,5] [(39,.bool ((b && (decide ((0:Int) < d))) && (decide (d≤9223372036854775808))))] (St w0 ros (box i 49 [.bool b,f.v]::rs)) rfl (fun s=>?_) ?_
   ·refine gB 36 rfl (fun m=>?_) fun m=>?_
    ·exact q 3 rfl (s _ _ a (hasC (congrArg Value.bool (andT m)) rfl))
    ·exact q 3 rfl (s _ _ a (hasC (congrArg Value.bool (andF m)) rfl))
   intro g w a
   refine q 3 rfl ?_
   refine cJ c (fun C c=>?_) fun C c=>?_
   ·refine q 14 rfl ?_
    cases c
    exact zb h results164 ⟨rfl,(a.k13)⟩
   ·refine q 5 rfl ?_
    refine jW 8 [5] [(56,.bool ((decide (d < 9223372036854775808)) && ((!b) || (decide (d=0)))))] (St w0 ros rs) rfl (fun t=>?_) ?_
    ·refine gB 48 rfl (fun n=>?_) fun n=>?_
     ·refine z 1 2 ?_
      refine jW 3 [5,48] [(55,.bool ((!b) || (decide (d=0))))] (St w0 ros rs) rfl (fun u=>?_) ?_
      ·refine gB 52 rfl (fun o=>?_) fun o=>?_
       ·exact q 3 rfl (u _ _ (a.k13) (hasC (congrArg Value.bool (orT o)) rfl))
       ·exact q 3 rfl (u _ _ (a.k13) (hasC (congrArg Value.bool (orF o)) rfl))
      intro g w a
      exact q 1 rfl (t _ _ a (hasC (congrArg Value.bool (andT n)) rfl))
     ·exact q 8 rfl (t _ _ (a.k13) (hasC (congrArg Value.bool (andF n)) rfl))
    intro g w a
    refine q 3 rfl ?_
    refine cJ c (fun D c=>?_) fun D c=>?_
    ·refine q 11 rfl ?_
     cases c
     exact zb h results164 ⟨rfl,a⟩
    ·refine q 10 rfl ?_
     cases c
     exact zb h results164 ⟨rfl,a⟩
  rintro ⟨j,k⟩ g w H a c
  refine q 6 rfl (cI c (fun E c=>?_) fun E c=>?_)
  ·refine z 3 9 ?_;intro I J c K L c
   cases c
   exact lo a
  ·refine q 2 rfl ?_
   cases c
   exact xo (a.fc)
instance:CL prog 164 (type_of% @w_ed):=⟨@w_ed⟩
theorem w_ee {f:Bool} {h:LI} {i:Int} {j:Hdr} {out:Int} (c:m_if f h i=some out) (m:imm (rI .u32) j.v h∈ros) (a:St w0 ros rs w):
  Calls prog 140 #[.agg #[.bool f,j.v],iV i] w (fun e w=>e=.returned (iV out)∧St w0 ros rs w):=by
 refine en func140 rfl ntmps140 fun Q l=>?_
 refine z 1 4 ?_;intro n w a
 refine bE c fun o p c=>bE c fun k q c=>?_
 refine jN (Nat×Hdr) [] (fun (b,d)=>[(6,(pB b))]) (fun (b,d)=>St w0 (imm (rI .u32) d.v k.2.2.2.1::ros) (box b 49 [.bool k.2.2.1,d.v]::rs)) rfl ?_ ?_
 ·refine dS [2,3,8,9,10,11,12] 7 folM ?_
  replace a:=a.drew
  exact zx
 rintro ⟨b,d⟩ g w a
 refine z 2 14 ?_;intro r s c w a
 cases c
 exact za l results140 ⟨rfl,((a.k13).fc)⟩
instance:CL prog 140 (type_of% @w_ee):=⟨@w_ee⟩
theorem w_ef {b:Bool} {d:LI} {f:Int} {g:Hdr} {out:Int×Int} (c:m_ig b d f=some out) (j:imm (rI .u32) g.v d∈ros) (a:St w0 ros rs w):
  Calls prog 106 #[.agg #[.bool b,g.v],iV f] w (fun e w=>e=.returned (.tuple #[iV out.1,iV out.2])∧St w0 ros rs w):=by
 refine en func106 rfl ntmps106 fun Q h=>?_
 refine z 2 3 ?_;intro k w a l m c w a
 refine cJn c (fun i c=>?_) fun i c=>?_
 ·refine z 2 5 ?_;intro n o c w a
  cases c
  exact zb h results106 ⟨rfl,(a.k13)⟩
 ·refine q 8 rfl ?_
  cases c
  exact zb h results106 ⟨rfl,(a.k13)⟩
instance:CL prog 106 (type_of% @w_ef):=⟨@w_ef⟩
theorem w_eg {x:List (List (Bool×LI))} {z:Int} {A:Hdr} {out:L2} (c:m_ij x z=some out) (b:imm (rS (rP rB (rS (rI .u32)))) A.v x∈ros) (a:St w0 ros rs w):
  Calls prog 48 #[A.v,iV z] w (fun e w=>∃ (B:Hdr) (C:List Hdr),e=.returned (B.v)∧St w0 ros (row 23 rH B.v C::fam 3 I1 C out::rs) w):=by
 refine en func48 rfl ntmps48 fun Q N=>q 8 rfl (y (yLen SL_42 e0 a (rdI b)) (bE c fun a2 O c=>?_))
 obtain ⟨R,em5,S⟩:=mkL_rep O hnil
 refine yh (rMk a SLH_89 e0 S) fun d w a=>?_
 replace a:=(a.fReps 3 I1 R).k16
 rw [← em5] at a
 refine q 7 rfl (y (yLen SL_42 e0 a (rdI b)) (bE c fun D T c=>q 4 rfl ?_))
 refine lpN (List Hdr) (List Hdr) T [1,5,15,16] (fun (j,k) f=>[(17,iV k)]) (fun (j,k) f=>St w0 ros (row 23 rH d.v f::fam 3 I1 f j::rs)) (fun | D,m=>(.exit 0,[],St w0 ros (row 23 rH d.v m::fam 3 I1 m D::rs))) rfl _ a rfl ?_ ?_
 ·clear a
  rintro m g w a
  refine q 9 rfl ?_
  cases c
  exact N _ _ _ (fin1r results48 ⟨rfl,rfl⟩ ⟨_,_,rfl,a⟩)
 rintro ⟨j,k⟩ f g w a3 a c
 refine q 6 rfl (cI c (fun U c=>?_) fun U c=>?_)
 ·refine q 7 rfl (bE c fun V E c=>y (yIa SL_42 e0 e0 a (rdI b) E) ?_)
  obtain ⟨W,a⟩:=iLs a b E
  refine y (yCt O_28 e0 a F1 rfl) (q 7 rfl (y (yLen SL_28 e0 a (rdI F0)) (bE c fun F X c=>q 4 rfl ?_)))
  refine lpN (List Hdr) (List Hdr) X [1,5,6,15,16,17,22,23] (fun (o,p) h=>[(24,iV p)]) (fun (o,p) h=>St w0 (imm (rP rB (rS (rI .u32))) W.v V::ros) (row 23 rH d.v h::fam 3 I1 h o::rs)) (fun | F,r=>(.exit 2,[],St w0 ros (row 23 rH d.v r::fam 3 I1 r F::rs))) rfl _ (a.facts (allC F0 (allT (allT allI)))) rfl ?_ ?_
  ·clear a
   rintro r g w a
   refine q 7 rfl ?_
   cases c
   exact ln _ a
  rintro ⟨o,p⟩ h g w a4 a c
  refine q 6 rfl (cI c (fun Z c=>?_) fun Z c=>?_)
  ·refine q 6 rfl (bE c fun G H c=>y (yIa SL_28 e0 e0 a (rdI F0) H) ?_)
   obtain ⟨a5,a6,a⟩:=iLd a F0 H
   obtain ⟨a7,a8,rfl,a⟩:=a.eltP
   obtain ⟨rfl,a⟩:=a.eltB
   obtain ⟨I,rfl,a⟩:=a.eltS
   refine y (yCtn (cs:=[.bool G.1,I.v]) ST_49 rfl e0 a F1) (yb (rAl a ZT_49) fun a9 w a=>sB rfl a ST_49 fun w a=>q 4 rfl (y (lbs_ [.bool G.1,I.v] ST_49 e0 a R0) (bE c fun s a0 c=>q 1 rfl (cZ (w_ef a0 F0 a) fun w a=>bE c fun b0 J c=>q 12 rfl ?_))))
   obtain ⟨b1,i⟩:=a.famI R2 J
   refine y (yIa SLH_89 e0 e0 a rO1 i) (y (yF1 O_23 e0 a rO1 i rfl) (q 1 rfl (yh (rLt (n:=1) (l:=[s.1]) a SL_23 [iV s.1] (bp1 e0) rfl rfl (mks1 (cs:=[iV s.1]) rfl mkI mks0)) fun b2 w a=>bE c fun b3 a1 c=>?_)))
   replace a:=(a.k1e).foc i J
   refine yh (rAp a SL_23 e0 e0 rO2 a1) fun K w a=>bE c fun b4 L c=>?_
   obtain ⟨b5,t⟩:=setI_len (u:=K) L (a.famLx (mtR mhR))
   refine y (yIs SLH_89 e0 e0 a rO4 t) ?_
   replace a:=a.k1f
   refine yt (r_sti (cs:=[K.v]) a O_23 rfl e0 e0 rfl (mkF rfl) t) fun w a=>?_
   replace a:=(a.k1g).unfS i t L
   refine q 7 rfl ?_
   cases c
   exact ln _ ((a.k1h).facts (allC F2 (allT (allT (allT allI)))))
  ·refine q 2 rfl ?_
   cases c
   exact lx _ (a.fc)
 ·refine q 2 rfl ?_
  cases c
  exact lx _ a
instance:CL prog 48 (type_of% @w_eg):=⟨@w_eg⟩
theorem w_eh {d:L2} {b:Hdr} {out:Unit} (c:m_ik d=some out) (f:imm S1 b.v d∈ros) (a:St w0 ros rs w):
  Calls prog 107 #[b.v] w (fun e w=>e=.returned ((clH b).v)∧St w0 ros rs w):=by
 refine en func107 rfl ntmps107 fun Q g=>?_
 refine z 2 0 ?_
 refine y (ySl3 SL_89 e0 a (rdI f) e0 e0 rfl rfl) (q 4 rfl ?_)
 cases c
 exact za g results107 ⟨rfl,a⟩
instance:CL prog 107 (type_of% @w_eh):=⟨@w_eh⟩
theorem w_ei {b:L2} {d:Hdr} {out:Int} (c:m_il b=some out) (g:imm S1 d.v b∈ros) (a:St w0 ros rs w):
  Calls prog 165 #[d.v] w (fun e w=>e=.returned (iV out)∧St w0 ros rs w):=by
 refine en func165 rfl ntmps165 fun Q f=>?_
 refine z 1 3 ?_
 refine cI c (fun h c=>?_) fun h c=>?_
 ·refine q 7 rfl ?_
  cases c
  exact za f results165 ⟨rfl,a⟩
 ·refine z 1 0 ?_;intro j i c
  obtain ⟨k,a⟩:=iLs a g i
  refine y (yCt O_23 e0 a F1 rfl) ?_
  refine z 1 4 ?_
  cases c
  exact za f results165 ⟨rfl,(a.fc)⟩
instance:CL prog 165 (type_of% @w_ei):=⟨@w_ei⟩
theorem w_ej {f:LI} {b:Int} {g:Hdr} {d:Nat} {out:Bool} (c:m_im f b=some out) (i:imm I1 g.v f∈ros) (a:St w0 ros (box d 3 [iV b]::rs) w):
  Calls prog 167 #[g.v,(pB d)] w (fun e w=>e=.returned (.bool out)∧St w0 ros (box d 3 [iV b]::rs) w):=by
 refine en func167 rfl ntmps167 fun Q h=>?_
 refine z 2 5 ?_
 cases c
 exact za h results167 ⟨rfl,a⟩
instance:CL prog 167 (type_of% @w_ej):=⟨@w_ej⟩
end Go.Proofs.YtcoaljcfifecgabGreatDoor
