/- Walks: each function computes its model, printed. -/
import Derived.Test.YtcoaljcfifecgabGreatDoorW1
namespace Go.Proofs.YtcoaljcfifecgabGreatDoor
open Go Sx M Go.Proofs.Tryz
set_option maxRecDepth 100000
set_option maxHeartbeats 40000000
set_option linter.unusedVariables false
attribute [local irreducible] wpList Code.wp Calls DR QR QS LA LS St row box fam imm rowS loop
variable {w0:World} {ros:List Fact} {rs:List Res} {w:World}
theorem w_2 {b:Bool} {d:LI} {f:Int} {g:Hdr} {out:Bool} (c:m_bm b d f=some out) (i:imm (rI .u32) g.v d∈ros) (a:St w0 ros rs w):
  Calls prog 149 #[.agg #[.bool b,g.v],iV f] w (fun e w=>e=.returned (.bool out)∧St w0 ros rs w):=by
 refine en func149 rfl ntmps149 fun Q h=>?_
 refine z 4 14 ?_;intro j w a k l c m w a n o c p w a
 cases c
 exact za h results149 ⟨rfl,((a.k19).fc)⟩
instance:CL prog 149 (type_of% @w_2):=⟨@w_2⟩
theorem w_3 {j:Bool} {b:Int} {d:Bool} {k:Int} {out:Bool} (c:m_bn j b d k=some out) (a:St w0 ros rs w):
  Calls prog 150 #[.bool j,iV b,.bool d,iV k] w (fun e w=>e=.returned (.bool out)∧St w0 ros rs w):=by
 refine en func150 rfl ntmps150 fun Q f=>q 18 rfl (cI c (fun n c=>?_) fun n c=>?_)
 ·refine q 9 rfl ?_
  cases c
  exact za f results150 ⟨rfl,a⟩
 ·refine q 6 rfl (cI c (fun o c=>?_) fun o c=>?_)
  ·refine q 10 rfl ?_
   cases c
   exact za f results150 ⟨rfl,a⟩
  ·refine q 6 rfl (cI c (fun p c=>?_) fun p c=>?_)
   ·refine q 8 rfl ?_
    cases c
    exact za f results150 ⟨rfl,a⟩
   ·refine q 8 rfl ?_
    refine jW 6 [] [(27,.bool ((decide ((0:Int) < b)) || ((decide (b=0)) && d)))] (St w0 ros rs) rfl (fun l=>?_) ?_
    ·refine gB 21 rfl (fun h=>?_) fun h=>?_
     ·exact q 6 rfl (l _ _ a (hasC (congrArg Value.bool (orT h)) rfl))
     ·refine q 3 rfl ?_
      refine jW 2 [21] [(26,.bool ((decide (b=0)) && d))] (St w0 ros rs) rfl (fun m=>?_) ?_
      ·refine gB 24 rfl (fun i=>?_) fun i=>?_
       ·exact q 2 rfl (m _ _ a (hasC (congrArg Value.bool (andT i)) rfl))
       ·exact q 2 rfl (m _ _ a (hasC (congrArg Value.bool (andF i)) rfl))
      intro g w a
      exact q 1 rfl (l _ _ a (hasC (congrArg Value.bool (orF h)) rfl))
    intro g w a
    refine q 4 rfl ?_
    cases c
    exact za f results150 ⟨rfl,a⟩
instance:CL prog 150 (type_of% @w_3):=⟨@w_3⟩
theorem w_4 {l n:Bool} {B:LI} {C:Int} {y:Bool} {m:Int} {o:Hdr} {out:Bool×LI} (c:m_bs l n B C y m=some out) (a0:imm (rI .u32) o.v B∈ros) (a1:globF∈ros) (a:St w0 ros rs w):
  Calls prog 115 #[.bool l,.agg #[.bool n,o.v],iV C,.bool y,iV m] w (fun e w=>∃ (D:Hdr),e=.returned (.agg #[.bool out.1,D.v])∧St w0 (imm (rI .u32) D.v out.2::ros) rs w):=by
 refine en func115 rfl ntmps115 fun Q E=>?_
 refine z 8 9 ?_;intro F w a f w a b a2 c d w a h w a w a K a3 c w a
 refine jW 3 [0,2,3,4,6,10,11] [(27,.bool ((!K) && (!y)))] (St w0 ros (box F 49 [.bool n,o.v]::box f 49 [.bool false,hnil.v]::row 94 (rI .u32) d.v b.2::box h 49 [.bool b.1,d.v]::rs)) rfl (fun G=>?_) ?_
 ·refine gB 24 rfl (fun A=>?_) fun A=>?_
  ·exact q 3 rfl (G _ _ (a.k22) (hasC (congrArg Value.bool (andT A)) rfl))
  ·exact q 3 rfl (G _ _ (a.k22) (hasC (congrArg Value.bool (andF A)) rfl))
 intro g w a
 refine q 2 rfl ?_
 refine cJ c (fun L c=>?_) fun L c=>?_
 ·refine z 2 4 ?_;intro w a
  cases c
  replace a:=(a.k15).fz
  exact E _ _ _ (fin1r results115 (rcs2 rfl rfl a R0 ST_49 rfl) ⟨_,rfl,(a.k1b)⟩)
 ·refine q 14 rfl ?_
  refine jC Int [0,4,10,11] (fun p=>[(13,iV p)]) (fun p w=>St w0 ros (box f 49 [.bool false,hnil.v]::row 94 (rI .u32) d.v b.2::box h 49 [.bool b.1,d.v]::rs) w∧m_bp b l m p=some out) rfl ?_ ?_
  ·rintro p g w ⟨a,c⟩
   refine z 2 2 ?_;intro a4 a5 c w a
   refine bE c fun N i c=>?_
   refine jW 4 [0,4,10,11,13] [(57,.bool N)] (St w0 (imm (rI .u32) d.v b.2::ros) (box f 49 [.bool false,hnil.v]::box h 49 [.bool b.1,d.v]::rs)) rfl (fun H=>?_) ?_
   ·refine gIn 53 i rfl (fun O i=>?_) fun O i=>?_
    ·refine q 4 rfl ?_
     cases i
     exact H _ _ a rfl
    ·refine z 1 0 ?_
     refine bE i fun a6 a7 i=>?_
     refine z 1 2 ?_;intro w a
     cases i
     exact H _ _ a rfl
   intro g w a
   refine z 1 2 ?_;intro a8 a9 c w a
   refine jC (Bool×LI×Hdr) [10,11] (fun (r,s,t)=>[]) (fun (r,s,t) w=>St w0 (imm (rI .u32) t.v s::ros) (box f 49 [.bool false,hnil.v]::box h 49 [.bool r,t.v]::rs) w∧m_bo r s=some out) rfl ?_ ?_
   ·rintro ⟨r,s,t⟩ g w ⟨a,c⟩
    refine z 2 3 ?_;intro w a
    cases c
    exact E _ _ _ (fin1r results115 (rcs2 rfl rfl a R0 ST_49 rfl) ⟨_,rfl,(a.k19)⟩)
   refine cJ c (fun R c=>?_) fun R c=>?_
   ·refine bE c fun b0 b1 c=>bE c fun b2 b3 c=>dS [1,2,3] 3 folM ?_
    replace a:=a.drew
    refine z 4 0 ?_;intro b4 w a b5 w a w a
    replace a:=(a.k16).fz
    exact jx (_,_,_) ⟨((a.k16).facts (allC F0 (allT (allT (allT allI))))),c⟩
   ·exact q 1 rfl (jx (_,_,_) ⟨a,c⟩)
  refine cI c (fun S c=>?_) fun S c=>?_
  ·refine z 6 2 ?_;intro b6 b7 c c0 w a c1 w a w a c2 c3 c w a
   refine bE c fun T j c=>?_
   refine jW 4 [0,2,3,4,6,10,11,13] [(42,.bool T)] (St w0 ros (box F 49 [.bool n,o.v]::box f 49 [.bool false,hnil.v]::row 94 (rI .u32) d.v b.2::box h 49 [.bool b.1,d.v]::rs)) rfl (fun I=>?_) ?_
   ·refine gI 38 j rfl (fun U j=>?_) fun U j=>?_
    ·refine z 1 0 ?_
     refine bE j fun c4 c5 j=>?_
     refine z 1 2 ?_;intro w a
     cases j
     exact I _ _ ((a.k23).fc) rfl
    ·refine q 4 rfl ?_
     cases j
     exact I _ _ ((a.k23).fc) rfl
   intro g w a
   refine q 2 rfl ?_
   refine jC Int [0,4,10,11] (fun u=>[(13,iV u)]) (fun u w=>St w0 ros (box f 49 [.bool false,hnil.v]::row 94 (rI .u32) d.v b.2::box h 49 [.bool b.1,d.v]::rs) w∧m_bq b l m u=some out) rfl ?_ ?_
   ·rintro u g w ⟨a,c⟩
    exact jx _ ⟨a,c⟩
   refine cJ c (fun V c=>?_) fun V c=>?_
   ·refine q 9 rfl (bE c fun W k c=>?_)
    refine jW 5 [0,4,10,11,13] [(49,.bool W)] (St w0 ros (box f 49 [.bool false,hnil.v]::row 94 (rI .u32) d.v b.2::box h 49 [.bool b.1,d.v]::rs)) rfl (fun J=>?_) ?_
    ·refine gJ 44 k rfl (fun X k=>?_) fun X k=>?_
     ·refine q 5 rfl ?_
      cases k
      exact J _ _ (a.k1l) rfl
     ·refine z 1 2 ?_
      refine bE k fun c6 c7 k=>?_
      refine z 1 1 ?_;intro w a
      cases k
      exact J _ _ (a.k1l) rfl
    intro g w a
    refine q 2 rfl ?_
    refine jC Int [0,4,10,11] (fun x=>[(13,iV x)]) (fun x w=>St w0 ros (box f 49 [.bool false,hnil.v]::row 94 (rI .u32) d.v b.2::box h 49 [.bool b.1,d.v]::rs) w∧m_br b l m x=some out) rfl ?_ ?_
    ·rintro x g w ⟨a,c⟩
     exact jx _ ⟨a,c⟩
    refine cJ c (fun Z c=>?_) fun Z c=>?_
    ·exact q 3 rfl (jx _ ⟨a,c⟩)
    ·exact q 1 rfl (jx _ ⟨a,c⟩)
   ·exact q 1 rfl (jx _ ⟨(a.k1l),c⟩)
  ·exact q 1 rfl (jx _ ⟨(a.k1l),c⟩)
instance:CL prog 115 (type_of% @w_4):=⟨@w_4⟩
theorem w_5 {j:Bool} {k:LI} {l:Hdr} {out:Int×Bool} (c:m_bu j k=some out) (x:imm (rI .u32) l.v k∈ros) (a:St w0 ros rs w):
  Calls prog 116 #[.agg #[.bool j,l.v]] w (fun e w=>e=.returned (.tuple #[iV out.1,.bool out.2])∧St w0 ros rs w):=by
 refine en func116 rfl ntmps116 fun Q b=>?_
 refine z 6 3 ?_;intro m w a d y c f w a w a
 refine cI c (fun o c=>?_) fun o c=>?_
 ·refine q 8 rfl ?_
  cases c
  exact zb b results116 ⟨rfl,(a.k19)⟩
 ·refine q 14 rfl (bE c fun n p c=>?_)
  refine lp p [1] (fun (h,i)=>[(4,.int .u64 h),(5,iV i)]) (fun (h,i)=>St w0 ros (row 94 (rI .u32) f.v d.2::box m 49 [.bool d.1,f.v]::rs)) (fun | n=>(.exit 0,[(4,.int .u64 n)],St w0 ros (row 94 (rI .u32) f.v d.2::box m 49 [.bool d.1,f.v]::rs))) rfl (a.k16) rfl ?_ ?_
  ·clear a
   intro g w a
   refine z 1 2 ?_
   refine cJ c (fun r c=>?_) fun r c=>?_
   ·refine q 7 rfl (cI c (fun s c=>?_) fun s c=>?_)
    ·refine q 9 rfl ?_
     cases c
     exact zb b results116 ⟨rfl,(a.k19)⟩
    ·refine q 15 rfl ?_
     cases c
     exact zb b results116 ⟨rfl,(a.k19)⟩
   ·refine q 9 rfl (cI c (fun t c=>?_) fun t c=>?_)
    ·refine q 8 rfl ?_
     cases c
     exact zb b results116 ⟨rfl,(a.k19)⟩
    ·refine q 11 rfl ?_
     cases c
     exact zb b results116 ⟨rfl,(a.k19)⟩
  rintro ⟨h,i⟩ g w A a c
  refine z 2 3 ?_
  refine cI c (fun u c=>?_) fun u c=>?_
  ·refine z 4 10 ?_;intro B C c D E c
   cases c
   exact lo a
  ·refine q 2 rfl ?_
   cases c
   exact xo a
instance:CL prog 116 (type_of% @w_5):=⟨@w_5⟩
theorem w_6 {f o:Bool} {p:LI} {m:Int} {r:Bool} {h:Int} {s:Hdr} {out:Int} (c:m_bx f o p m r h=some out) (E:imm (rI .u32) s.v p∈ros) (F:globF∈ros) (a:St w0 ros rs w):
  Calls prog 61 #[.bool f,.agg #[.bool o,s.v],iV m,.bool r,iV h] w (fun e w=>e=.returned (.int .u64 out)∧St w0 ros rs w):=by
 refine en func61 rfl ntmps61 fun Q i=>?_
 refine z 3 12 ?_;intro G w a u H c w a
 refine cI c (fun x c=>?_) fun x c=>?_
 ·refine z 1 5 ?_;intro I J c w a
  cases c
  exact za i results61 ⟨rfl,(a.k13)⟩
 ·refine z 1 10 ?_;intro y w a
  refine jC (Bool×LI×Hdr) [0,4,12,13] (fun (j,k,l)=>[]) (fun (j,k,l) w=>St w0 (imm (rI .u32) l.v k::ros) (box y 49 [.bool j,l.v]::rs) w∧m_bw f h m u j k=some out) rfl ?_ ?_
  ·rintro ⟨j,k,l⟩ g w ⟨a,c⟩
   refine z 2 14 ?_;intro K L c w a
   refine jC (Int×Int) [0,4] (fun (b,d)=>[(12,iV b),(14,iV d)]) (fun (b,d) w=>St w0 ros rs w∧m_bv f h b d=some out) rfl ?_ ?_
   ·rintro ⟨b,d⟩ g w ⟨a,c⟩
    refine q 8 rfl ?_
    refine jW 4 [0,4,12,14] [(61,.bool ((decide ((4503599627370496:Int)≤d)) && (decide ((1024:Int) < (wa .i64 b 53)))))] (St w0 ros rs) rfl (fun t=>?_) ?_
    ·refine gB 57 rfl (fun n=>?_) fun n=>?_
     ·exact q 4 rfl (t _ _ a (hasC (congrArg Value.bool (andT n)) rfl))
     ·exact q 4 rfl (t _ _ a (hasC (congrArg Value.bool (andF n)) rfl))
    intro g w a
    refine q 3 rfl ?_
    refine cJ c (fun A c=>?_) fun A c=>?_
    ·refine z 1 6 ?_;intro N O c w a
     cases c
     exact za i results61 ⟨rfl,a⟩
    ·refine q 7 rfl (cI c (fun B c=>?_) fun B c=>?_)
     ·refine z 1 6 ?_;intro R S c w a
      cases c
      exact za i results61 ⟨rfl,a⟩
     ·refine z 1 4 ?_;intro T U c w a
      cases c
      exact za i results61 ⟨rfl,a⟩
   refine cI c (fun C c=>?_) fun C c=>?_
   ·exact q 10 rfl (jx (_,_) ⟨((a.k13).fc),c⟩)
   ·exact q 1 rfl (jx (_,_) ⟨((a.k13).fc),c⟩)
  refine cI c (fun D c=>?_) fun D c=>?_
  ·refine z 3 1 ?_;intro V W c X w a w a
   exact jx (_,_,_) ⟨(a.k10),c⟩
  ·refine z 3 1 ?_;intro Z a0 c a1 w a w a
   replace a:=(a.k16).fz
   exact jx (_,_,_) ⟨(a.k10),c⟩
instance:CL prog 61 (type_of% @w_6):=⟨@w_6⟩
theorem w_7 {d f:Bool} {g:LI} {h i:Int} {j:Hdr} {out:Int} (c:m_by d f g h i=some out) (m:imm (rI .u32) j.v g∈ros) (n:globF∈ros) (a:St w0 ros rs w):
  Calls prog 26 #[.agg #[.bool d,.bool f,j.v,iV h],iV i] w (fun e w=>e=.returned (.int .u64 out)∧St w0 ros rs w):=by
 refine en func26 rfl ntmps26 fun Q b=>?_
 refine z 5 2 ?_;intro o w a p r c s w a w a
 refine cJ c (fun k c=>?_) fun k c=>?_
 ·refine q 7 rfl ?_
  cases c
  exact za b results26 ⟨rfl,((a.k13).fc)⟩
 ·refine z 2 3 ?_;intro t u c w a
  refine cI c (fun l c=>?_) fun l c=>?_
  ·refine q 7 rfl ?_
   cases c
   exact za b results26 ⟨rfl,((a.k13).fc)⟩
  ·refine q 3 rfl (bE c fun x y c=>bE c fun A B c=>dS [5,9,10] 3 folM ?_)
   replace a:=a.drew
   refine z 6 2 ?_;intro C w a w a
   cases c
   exact za b results26 ⟨rfl,((a.k13).fc)⟩
instance:CL prog 26 (type_of% @w_7):=⟨@w_7⟩
theorem w_8 {b d out:Int} (c:m_bz b d=some out) (g:globF∈ros) (a:St w0 ros rs w):
  Calls prog 19 #[iV b,iV d] w (fun e w=>e=.returned (.int .u64 out)∧St w0 ros rs w):=by
 refine en func19 rfl ntmps19 fun Q f=>?_
 refine z 2 4 ?_;intro h i c j w a k l c w a
 cases c
 exact za f results19 ⟨rfl,(a.fc)⟩
instance:CL prog 19 (type_of% @w_8):=⟨@w_8⟩
theorem w_9 {b out:Int} (c:m_b0 b=some out) (f:globF∈ros) (a:St w0 ros rs w):
  Calls prog 58 #[.int .u64 b] w (fun e w=>e=.returned (.int .u64 out)∧St w0 ros rs w):=by
 refine en func58 rfl ntmps58 fun Q d=>?_
 refine z 1 4 ?_;intro g h c w a
 cases c
 exact za d results58 ⟨rfl,a⟩
instance:CL prog 58 (type_of% @w_9):=⟨@w_9⟩
theorem w_ba {d f out:Int} (c:m_b1 d f=some out) (k:globF∈ros) (a:St w0 ros rs w):
  Calls prog 23 #[.int .u64 d,iV f] w (fun e w=>e=.returned (.int .u64 out)∧St w0 ros rs w):=by
 refine en func23 rfl ntmps23 fun Q b=>?_
 refine z 1 9 ?_;intro l m c w a
 refine cI c (fun g c=>?_) fun g c=>?_
 ·refine q 16 rfl ?_
  cases c
  exact za b results23 ⟨rfl,a⟩
 ·refine q 6 rfl (cI c (fun h c=>?_) fun h c=>?_)
  ·refine q 16 rfl ?_
   cases c
   exact za b results23 ⟨rfl,a⟩
  ·refine q 6 rfl (cI c (fun i c=>?_) fun i c=>?_)
   ·refine z 1 3 ?_;intro n o c w a
    refine cJn c (fun j c=>?_) fun j c=>?_
    ·refine q 11 rfl ?_
     cases c
     exact za b results23 ⟨rfl,a⟩
    ·refine q 9 rfl ?_
     cases c
     exact za b results23 ⟨rfl,a⟩
   ·refine z 1 4 ?_;intro p r c w a
    cases c
    exact za b results23 ⟨rfl,a⟩
instance:CL prog 23 (type_of% @w_ba):=⟨@w_ba⟩
theorem w_bb {L:LI} {d f N:Int} {O:Hdr} {out:Int×Int×LI×LI×LI} (c:m_b5 L d f N=some out) (b1:imm (rI .u64) O.v L∈ros) (Z:globF∈ros) (a:St w0 ros rs w):
  Calls prog 10 #[O.v,iV d,iV f,iV N] w (fun e w=>∃ (R S T:Hdr),e=.returned (.agg #[iV out.1,iV out.2.1,R.v,S.v,T.v])∧St w0 ros (row 3 I1 R.v out.2.2.1::row 3 I1 S.v out.2.2.2.1::row 39 (rI .u64) T.v out.2.2.2.2::rs) w):=by
 refine en func10 rfl ntmps10 fun Q a0=>?_
 refine z 1 6 ?_;intro k w a
 refine yh (rLt (n:=1) (l:=[0]) a SL_23 [iV 0] (bp1 rfl) rfl rfl (mks1 (cs:=[iV 0]) rfl mkI mks0)) fun b2 w a=>?_
 refine z 3 9 ?_;intro m w a w a
 obtain ⟨⟨U,V,W⟩,a1,c⟩:=bs c
 replace a:=(a.rowNh 3 I1).rowNh 39 (rI .u64)
 refine lpN (Hdr×Hdr×Hdr) (Hdr×Hdr×Hdr) a1 [0,1,2,3,8,9] (fun (j,A,B,C) (b,p,r)=>[(10,iV C)]) (fun (j,A,B,C) (b,p,r)=>St w0 ros (box k 26 [iV 0,iV 0,hnil.v,hnil.v,hnil.v]::row 3 I1 b.v j::row 3 I1 p.v A::row 39 (rI .u64) r.v B::box m 26 [iV d,iV f,b.v,p.v,r.v]::rs)) (fun | (U,V,W),(D,E,F)=>(.exit 0,[],St w0 ros (box k 26 [iV 0,iV 0,hnil.v,hnil.v,hnil.v]::row 3 I1 D.v U::row 3 I1 E.v V::row 39 (rI .u64) F.v W::box m 26 [iV d,iV f,D.v,E.v,F.v]::rs))) rfl (_,_,_) (a.k24) rfl ?_ ?_
 ·clear a
  rintro ⟨D,E,F⟩ g w a
  refine z 2 3 ?_;intro w a
  cases c
  exact a0 _ _ _ (fin1r results10 (rcs2 rfl rfl a R0 ST_26 rfl) ⟨_,_,_,rfl,(a.k25)⟩)
 rintro ⟨j,A,B,C⟩ ⟨b,p,r⟩ g w b3 a c
 refine q 8 rfl (cI c (fun a2 c=>?_) fun a2 c=>?_)
 ·refine q 11 rfl ?_
  obtain ⟨⟨o,X⟩,a3,c⟩:=bs c
  refine lpN (Hdr×Hdr) (Hdr×Hdr) a3 [0,1,2,3,8,9,10] (fun (G,H,h) (s,i)=>[(11,iV h)]) (fun (G,H,h) (s,i)=>St w0 ros (box k 26 [iV 0,iV 0,hnil.v,hnil.v,hnil.v]::row 3 I1 b.v j::row 3 I1 s.v G::row 39 (rI .u64) i.v H::box m 26 [iV d,iV f,b.v,s.v,i.v]::rs)) (fun | (o,X),(I,J)=>(.exit 2,[],St w0 ros (box k 26 [iV 0,iV 0,hnil.v,hnil.v,hnil.v]::row 3 I1 b.v j::row 3 I1 I.v o::row 39 (rI .u64) J.v X::box m 26 [iV d,iV f,b.v,I.v,J.v]::rs))) rfl (_,_) a rfl ?_ ?_
  ·clear a
   rintro ⟨I,J⟩ g w a
   refine z 3 0 ?_
   refine yh (rLt (n:=1) (l:=[(o.length:Int)]) a SL_23 [iV (o.length:Int)] (bp1 e0) rfl rfl (mks1 (cs:=[iV (o.length:Int)]) rfl mkI mks0)) fun b4 w a=>?_
   refine z 2 8 ?_;intro b5 b7 c b9 w a w a
   cases c
   exact ln (_,_,_) (a.k26)
  rintro ⟨G,H,h⟩ ⟨s,i⟩ g w a4 a c
  refine q 8 rfl (cI c (fun a5 c=>?_) fun a5 c=>?_)
  ·refine z 1 11 ?_;intro c0 c1 c w a
   refine jC (LI×LI×Hdr×Hdr) [0,1,2,3,8,9,10,11] (fun (t,u,x,y)=>[]) (fun (t,u,x,y) w=>St w0 ros (box k 26 [iV 0,iV 0,hnil.v,hnil.v,hnil.v]::row 3 I1 b.v j::row 3 I1 x.v t::row 39 (rI .u64) y.v u::box m 26 [iV d,iV f,b.v,x.v,y.v]::rs) w∧m_b2 h t u=some a4) rfl ?_ ?_
   ·rintro ⟨t,u,x,y⟩ g w ⟨a,c⟩
    refine q 7 rfl ?_
    cases c
    exact ln (_,_) a
   refine cI c (fun a6 c=>?_) fun a6 c=>?_
   ·refine z 1 1 ?_
    refine yh (rLt (n:=1) (l:=[h]) a SL_23 [iV h] (bp1 e0) rfl rfl (mks1 (cs:=[iV h]) rfl mkI mks0)) fun c2 w a=>?_
    refine z 2 2 ?_;intro c3 c4 c a7 w a w a
    refine bE c fun K a8 c=>bE c fun c5 a9 c=>dS [4,5,6,8] 4 folM ?_
    replace a:=a.drew
    refine D1 15 0 4 rfl (qR 1 rfl (rQ rfl (lb_ i.v O_24 e0 a R0) (qR 2 rfl (Rn QSn (kZ (w_ba a8 Z a) fun w a=>dU (D1 0 3 5 rfl (Rn (qS rfl (sY rfl (lb_ i.v O_24 e0 a R0) QSn)) (LH wn (rLt (n:=1) (l:=[K]) a SL_24 [.int .u64 K] (bp1 e0) rfl rfl (mks1 (cs:=[.int .u64 K]) rfl mkI mks0)) fun c6 w a=>dU (D1 0 3 6 rfl (Rn (qS rfl (sY rfl (lb_ i.v O_24 e0 a R1) QSn)) ?_))))))))))
    replace a:=a.k27
    refine LH wn (rAp a SL_24 e0 e0 rO1 a9) fun b0 w a=>dU (D0 128 0 8 rfl (qR 1 rfl (Rn QSn ?_)))
    replace a:=a.k15
    exact LT wn (r_stb1 (vals':=[iV d,iV f,b.v,a7.v,b0.v]) a O_24 e0 e0 rfl rfl rfl rfl) fun w a=>Dw 0 0 (Rn QSn (qx 0 rfl (jx (_,_,_,_) ⟨(a.k28),c⟩)))
   ·exact q 1 rfl (jx (_,_,_,_) ⟨a,c⟩)
  ·refine q 2 rfl ?_
   cases c
   exact lx (_,_) a
 ·refine q 2 rfl ?_
  cases c
  exact lx (_,_,_) a
instance:CL prog 10 (type_of% @w_bb):=⟨@w_bb⟩
theorem w_bc {d:LI} {f:Hdr} {out:Bool} (c:m_b7 d=some out) (m:imm (rI .u64) f.v d∈ros) (a:St w0 ros rs w):
  Calls prog 66 #[f.v] w (fun e w=>e=.returned (.bool out)∧St w0 ros rs w):=by
 refine en func66 rfl ntmps66 fun Q h=>bE c fun i j c=>q 12 rfl ?_
 refine lp j [0] (fun b=>[(3,iV b)]) (fun b=>St w0 ros rs) (fun | .inl ()=>(.exit 0,[],St w0 ros rs) | .inr ()=>(.ret,[(2,.bool false)],St w0 ros rs)) rfl a rfl ?_ ?_
 ·clear a
  intro g w a
  rcases i with ⟨⟩ | ⟨⟩
  ·refine q 8 rfl ?_
   cases c
   exact za h results66 ⟨rfl,a⟩
  ·refine q 2 rfl ?_
   cases c
   exact za h results66 ⟨rfl,a⟩
 rintro b g w n a c
 refine z 1 3 ?_
 refine cI c (fun k c=>?_) fun k c=>?_
 ·refine z 3 3 ?_;intro o p c r s c w a
  refine cJn c (fun l c=>?_) fun l c=>?_
  ·refine q 8 rfl ?_
   cases c
   exact lo a
  ·refine q 8 rfl ?_
   cases c
   exact xo a
 ·refine q 2 rfl ?_
  cases c
  exact xo a
instance:CL prog 66 (type_of% @w_bc):=⟨@w_bc⟩
theorem w_bd {b f:Int} {E B F:LI} {h d j:Hdr} {out:Int} (c:m_cb b f E B F=some out) (n:imm I1 h.v E∈ros) (i:imm I1 d.v B∈ros) (d2:imm (rI .u64) j.v F∈ros) (a:St w0 ros rs w):
  Calls prog 29 #[.agg #[iV b,iV f,h.v,d.v,j.v]] w (fun e w=>e=.returned (iV out)∧St w0 ros rs w):=by
 refine en func29 rfl ntmps29 fun Q t=>?_
 refine z 2 2 ?_;intro k w a
 refine jW 4 [1] [(14,.bool ((decide (b < 0)) || (decide ((200:Int) < b))))] (St w0 ros (box k 26 [iV b,iV f,h.v,d.v,j.v]::rs)) rfl (fun T=>?_) ?_
 ·refine gB 10 rfl (fun G=>?_) fun G=>?_
  ·exact q 4 rfl (T _ _ a (hasC (congrArg Value.bool (orT G)) rfl))
  ·refine z 1 2 ?_
   exact T _ _ a (hasC (congrArg Value.bool (orF G)) rfl)
 intro g w a
 refine q 1 rfl ?_
 refine jW 4 [1] [(19,.bool (((decide (b < 0)) || (decide ((200:Int) < b))) || (decide (f < 0))))] (St w0 ros (box k 26 [iV b,iV f,h.v,d.v,j.v]::rs)) rfl (fun U=>?_) ?_
 ·refine gB 15 rfl (fun H=>?_) fun H=>?_
  ·exact q 4 rfl (U _ _ a (hasC (congrArg Value.bool (orT H)) rfl))
  ·refine z 1 2 ?_
   exact U _ _ a (hasC (congrArg Value.bool (orF H)) rfl)
 intro g w a
 refine q 1 rfl ?_
 refine jW 4 [1] [(24,.bool ((((decide (b < 0)) || (decide ((200:Int) < b))) || (decide (f < 0))) || (decide ((200:Int) < f))))] (St w0 ros (box k 26 [iV b,iV f,h.v,d.v,j.v]::rs)) rfl (fun V=>?_) ?_
 ·refine gB 20 rfl (fun I=>?_) fun I=>?_
  ·exact q 4 rfl (V _ _ a (hasC (congrArg Value.bool (orT I)) rfl))
  ·refine z 1 2 ?_
   exact V _ _ a (hasC (congrArg Value.bool (orF I)) rfl)
 intro g w a
 refine q 1 rfl ?_
 refine jW 5 [1] [(30,.bool (((((decide (b < 0)) || (decide ((200:Int) < b))) || (decide (f < 0))) || (decide ((200:Int) < f))) || (decide ((10000:Int) < (B.length:Int)))))] (St w0 ros (box k 26 [iV b,iV f,h.v,d.v,j.v]::rs)) rfl (fun W=>?_) ?_
 ·refine gB 25 rfl (fun J=>?_) fun J=>?_
  ·exact q 5 rfl (W _ _ a (hasC (congrArg Value.bool (orT J)) rfl))
  ·refine z 2 2 ?_
   exact W _ _ a (hasC (congrArg Value.bool (orF J)) rfl)
 intro g w a
 refine q 2 rfl ?_
 refine cJ c (fun a9 c=>?_) fun a9 c=>?_
 ·refine q 7 rfl ?_
  cases c
  exact za t results29 ⟨rfl,(a.k13)⟩
 ·refine z 4 3 ?_
  refine jW 8 [1,3] [(47,.bool ((!(decide ((F.length:Int)=(B.length:Int)))) || (!(decide ((E.length:Int)=(wa .i64 f 1))))))] (St w0 ros (box k 26 [iV b,iV f,h.v,d.v,j.v]::rs)) rfl (fun X=>?_) ?_
  ·refine gB 39 rfl (fun K=>?_) fun K=>?_
   ·exact q 8 rfl (X _ _ a (hasC (congrArg Value.bool (orT K)) rfl))
   ·refine z 3 3 ?_
    exact X _ _ a (hasC (congrArg Value.bool (orF K)) rfl)
  intro g w a
  refine bE c fun b0 p c=>q 1 rfl ?_
  refine jW 6 [1,3] [(54,.bool b0)] (St w0 ros (box k 26 [iV b,iV f,h.v,d.v,j.v]::rs)) rfl (fun Z=>?_) ?_
  ·refine gJ 48 p rfl (fun b1 p=>?_) fun b1 p=>?_
   ·refine q 6 rfl ?_
    cases p
    exact Z _ _ a rfl
   ·refine z 1 0 ?_
    refine bE p fun d3 d4 p=>?_
    refine z 2 2 ?_
    cases p
    exact Z _ _ a rfl
  intro g w a
  refine bE c fun b2 r c=>q 1 rfl ?_
  refine jW 9 [1] [(64,.bool b2)] (St w0 ros (box k 26 [iV b,iV f,h.v,d.v,j.v]::rs)) rfl (fun a0=>?_) ?_
  ·refine gJ 55 r rfl (fun b3 r=>?_) fun b3 r=>?_
   ·refine q 9 rfl ?_
    cases r
    exact a0 _ _ a rfl
   ·refine z 2 0 ?_
    refine bE r fun d5 d6 r=>?_
    refine z 2 3 ?_
    cases r
    exact a0 _ _ a rfl
  intro g w a
  refine q 2 rfl ?_
  refine cJ c (fun b4 c=>?_) fun b4 c=>?_
  ·refine q 7 rfl ?_
   cases c
   exact za t results29 ⟨rfl,(a.k13)⟩
  ·refine q 9 rfl (bE c fun b5 b6 c=>?_)
   refine lp b6 [1] (fun L=>[(4,iV L)]) (fun L=>St w0 ros (box k 26 [iV b,iV f,h.v,d.v,j.v]::rs)) (fun | .inl ()=>(.exit 0,[],St w0 ros (box k 26 [iV b,iV f,h.v,d.v,j.v]::rs)) | .inr ()=>(.ret,[(2,iV 1)],St w0 ros rs)) rfl a rfl ?_ ?_
   ·clear a
    intro g w a
    rcases b5 with ⟨⟩ | ⟨⟩
    ·refine q 9 rfl (bE c fun b7 b8 c=>?_)
     refine lp b8 [1] (fun N=>[(5,iV N)]) (fun N=>St w0 ros (box k 26 [iV b,iV f,h.v,d.v,j.v]::rs)) (fun | .inl ()=>(.exit 2,[],St w0 ros (box k 26 [iV b,iV f,h.v,d.v,j.v]::rs)) | .inr ()=>(.ret,[(2,iV 1)],St w0 ros rs)) rfl a rfl ?_ ?_
     ·clear a
      intro g w a
      rcases b7 with ⟨⟩ | ⟨⟩
      ·refine z 2 3 ?_;intro d7 d8 c w a
       refine cJn c (fun c0 c=>?_) fun c0 c=>?_
       ·refine q 8 rfl ?_
        cases c
        exact za t results29 ⟨rfl,(a.k13)⟩
       ·refine q 7 rfl ?_
        cases c
        exact za t results29 ⟨rfl,(a.k13)⟩
      ·refine q 2 rfl ?_
       cases c
       exact za t results29 ⟨rfl,a⟩
     rintro N g w d9 a c
     refine z 1 3 ?_
     refine cI c (fun c1 c=>?_) fun c1 c=>?_
     ·refine z 3 4 ?_;intro e1 e2 c
      refine bE c fun c2 c3 c=>?_
      refine lp c3 [1,5] (fun O=>[(6,iV O)]) (fun O=>St w0 ros (box k 26 [iV b,iV f,h.v,d.v,j.v]::rs)) (fun | .inl ()=>(.exit 4,[],St w0 ros (box k 26 [iV b,iV f,h.v,d.v,j.v]::rs)) | .inr ()=>(.ret,[(2,iV 1)],St w0 ros rs)) rfl a rfl ?_ ?_
      ·clear a
       intro g w a
       rcases c2 with ⟨⟩ | ⟨⟩
       ·refine q 8 rfl ?_
        cases c
        exact lo a
       ·refine q 3 rfl ?_
        cases c
        exact xo a
      rintro O g w e3 a c
      refine z 3 3 ?_;intro e4 e5 c
      refine cI c (fun c4 c=>?_) fun c4 c=>?_
      ·refine q 5 rfl (bE c fun e6 o c=>bE c fun x s c=>bE c fun y l c=>?_)
       refine jN Unit [1,5,6] (fun _=>[(142,.bool y)]) (fun _=>St w0 ros (box k 26 [iV b,iV f,h.v,d.v,j.v]::rs)) rfl ?_ ?_
       ·rcases iteS s with ⟨A,s⟩ | ⟨A,s⟩
        ·have a1:=someI s
         have a2:x=true:=a1.symm
         rw [if_pos a2] at l
         have c5:=someI l
         refine dS [] 0 folM ?_
         replace a:=a.drew
         refine Dw 549755813887 0 (qR 1 rfl (rQ rfl (lb_ d.v O_23 e0 a R0) (qR 1 rfl (rQ rfl (yIa SL_23 e0 e0 a (rdI i) o) (rQ rfl (yI O_3 e0 a (rdI i) o) (qR 2 rfl (rK 110 rfl (dT A) (qR 8 rfl (rQ rfl (pt_ (.bool x) e0 rfl (eqv a1 rfl)) (qR 1 rfl (rK 120 rfl a2 (qR 21 rfl (rQ rfl (pt_ (.bool y) e0 rfl (eqv c5 rfl)) ?_)))))))))))))
         exact Rn QSn (jr () a)
        ·refine bE s fun e7 u s=>?_
         have R:=someI s
         rcases iteS l with ⟨C,l⟩ | ⟨C,l⟩
         ·have c6:=someI l
          refine dS [] 0 folM ?_
          replace a:=a.drew
          refine Dw 549755813887 0 (qR 1 rfl (rQ rfl (lb_ d.v O_23 e0 a R0) (qR 1 rfl (rQ rfl (yIa SL_23 e0 e0 a (rdI i) o) (rQ rfl (yI O_3 e0 a (rdI i) o) (qR 2 rfl (rK 110 rfl (dF A) (qR 1 rfl (rQ rfl (lb_ d.v O_23 e0 a R0) (qR 1 rfl (rQ rfl (yIa SL_23 e0 e0 a (rdI i) u) (rQ rfl (yI O_3 e0 a (rdI i) u) (qR 1 rfl ?_)))))))))))))
          exact rQ rfl (lb_ (iV b) O_3 e0 a R0) (qR 1 rfl (rQ rfl (pf_ (.bool x) e0 rfl (eqv R e0)) (qR 1 rfl (rK 120 rfl C (qR 21 rfl (rQ rfl (pt_ (.bool y) e0 rfl (eqv c6 rfl)) (Rn QSn (jr () a))))))))
         ·refine bE l fun e8 D l=>bE l fun a3 m l=>?_
          have a4:=someI l
          rcases iteS m with ⟨S,m⟩ | ⟨S,m⟩
          ·refine bE m fun e9 a5 m=>bE m fun f0 a6 m=>?_
           have c7:=someI m
           refine dS [] 0 folM ?_
           replace a:=a.drew
           refine Dw 549755813887 0 (qR 1 rfl (rQ rfl (lb_ d.v O_23 e0 a R0) (qR 1 rfl (rQ rfl (yIa SL_23 e0 e0 a (rdI i) o) (rQ rfl (yI O_3 e0 a (rdI i) o) (qR 2 rfl (rK 110 rfl (dF A) (qR 1 rfl (rQ rfl (lb_ d.v O_23 e0 a R0) (qR 1 rfl (rQ rfl (yIa SL_23 e0 e0 a (rdI i) u) (rQ rfl (yI O_3 e0 a (rdI i) u) (qR 1 rfl ?_)))))))))))))
           refine rQ rfl (lb_ (iV b) O_3 e0 a R0) (qR 1 rfl (rQ rfl (pf_ (.bool x) e0 rfl (eqv R e0)) (qR 1 rfl (rK 120 rfl (bfalse C) (qR 2 rfl (rQ rfl (lb_ h.v O_23 e0 a R0) (qR 1 rfl (rQ rfl (yIa SL_23 e0 e0 a (rdI n) D) (rQ rfl (yI O_3 e0 a (rdI n) D) (qR 2 rfl (rK 128 rfl (dT S) (qR 1 rfl (rQ rfl (lb_ d.v O_23 e0 a R0) ?_)))))))))))))
           exact qR 1 rfl (rQ rfl (yIa SL_23 e0 e0 a (rdI i) a5) (rQ rfl (yI O_3 e0 a (rdI i) a5) (qR 1 rfl (rQ rfl (lb_ d.v O_23 e0 a R0) (qR 2 rfl (rQ rfl (yIa SL_23 e0 e0 a (rdI i) a6) (rQ rfl (yI O_3 e0 a (rdI i) a6) (qR 1 rfl (rQ rfl (pt_ (.bool a3) e0 rfl (eqv c7 e0)) (rQ rfl (pf_ (.bool y) e0 rfl (eqv a4 e0)) (Rn QSn (jr () a))))))))))))
          ·have c8:=someI m
           refine dS [] 0 folM ?_
           replace a:=a.drew
           refine Dw 549755813887 0 (qR 1 rfl (rQ rfl (lb_ d.v O_23 e0 a R0) (qR 1 rfl (rQ rfl (yIa SL_23 e0 e0 a (rdI i) o) (rQ rfl (yI O_3 e0 a (rdI i) o) (qR 2 rfl (rK 110 rfl (dF A) (qR 1 rfl (rQ rfl (lb_ d.v O_23 e0 a R0) (qR 1 rfl (rQ rfl (yIa SL_23 e0 e0 a (rdI i) u) (rQ rfl (yI O_3 e0 a (rdI i) u) (qR 1 rfl ?_)))))))))))))
           refine rQ rfl (lb_ (iV b) O_3 e0 a R0) (qR 1 rfl (rQ rfl (pf_ (.bool x) e0 rfl (eqv R e0)) (qR 1 rfl (rK 120 rfl (bfalse C) (qR 2 rfl (rQ rfl (lb_ h.v O_23 e0 a R0) (qR 1 rfl (rQ rfl (yIa SL_23 e0 e0 a (rdI n) D) (rQ rfl (yI O_3 e0 a (rdI n) D) (qR 2 rfl (rK 128 rfl (dF S) (qR 12 rfl (rQ rfl (pf_ (.bool a3) e0 rfl (eqv c8 rfl)) ?_)))))))))))))
           exact rQ rfl (pf_ (.bool y) e0 rfl (eqv a4 e0)) (Rn QSn (jr () a))
       rintro _ g w a
       refine q 1 rfl ?_
       refine cJ c (fun c9 c=>?_) fun c9 c=>?_
       ·refine q 8 rfl ?_
        cases c
        exact xo (a.k13)
       ·refine q 8 rfl ?_
        cases c
        exact lo a
      ·refine q 2 rfl ?_
       cases c
       exact xo a
     ·refine q 2 rfl ?_
      cases c
      exact xo a
    ·refine q 2 rfl ?_
     cases c
     exact za t results29 ⟨rfl,a⟩
   rintro L g w f1 a c
   refine z 1 3 ?_
   refine cI c (fun d0 c=>?_) fun d0 c=>?_
   ·refine q 5 rfl (bE c fun f2 a7 c=>bE c fun f3 a8 c=>dS [] 0 folM ?_)
    replace a:=a.drew
    refine Dw 4095 0 (qR 1 rfl (rQ rfl (lb_ h.v O_23 e0 a R0) (qR 1 rfl (rQ rfl (yIa SL_23 e0 e0 a (rdI n) a7) (rQ rfl (yI O_3 e0 a (rdI n) a7) (qR 1 rfl (rQ rfl (lb_ h.v O_23 e0 a R0) (qR 2 rfl (rQ rfl (yIa SL_23 e0 e0 a (rdI n) a8) (rQ rfl (yI O_3 e0 a (rdI n) a8) (qR 1 rfl (Rn QSn (qx 1 rfl (cI c (fun d1 c=>?_) fun d1 c=>?_))))))))))))))
    ·refine q 8 rfl ?_
     cases c
     exact xo (a.k13)
    ·refine q 8 rfl ?_
     cases c
     exact lo a
   ·refine q 2 rfl ?_
    cases c
    exact xo a
instance:CL prog 29 (type_of% @w_bd):=⟨@w_bd⟩
theorem w_be {d b:Int} {p r s:LI} {t f:Int} {h i j:Hdr} {out:Int} (c:m_cd d b p r s t f=some out) (G:imm I1 h.v p∈ros) (H:imm I1 i.v r∈ros) (I:imm (rI .u64) j.v s∈ros) (a:St w0 ros rs w):
  Calls prog 13 #[.agg #[iV d,iV b,h.v,i.v,j.v],iV t,iV f] w (fun e w=>e=.returned (.int .u64 out)∧St w0 ros rs w):=by
 refine en func13 rfl ntmps13 fun Q k=>?_
 refine z 3 2 ?_;intro l w a u J c w a
 refine jW 3 [1,2,3] [(14,.bool ((!(decide (u=0))) || (decide (f < 0))))] (St w0 ros (box l 26 [iV d,iV b,h.v,i.v,j.v]::rs)) rfl (fun x=>?_) ?_
 ·refine gB 11 rfl (fun m=>?_) fun m=>?_
  ·exact q 3 rfl (x _ _ a (hasC (congrArg Value.bool (orT m)) rfl))
  ·exact q 3 rfl (x _ _ a (hasC (congrArg Value.bool (orF m)) rfl))
 intro g w a
 refine q 1 rfl ?_
 refine jW 5 [1,2,3] [(20,.bool (((!(decide (u=0))) || (decide (f < 0))) || (decide (b≤f))))] (St w0 ros (box l 26 [iV d,iV b,h.v,i.v,j.v]::rs)) rfl (fun y=>?_) ?_
 ·refine gB 15 rfl (fun n=>?_) fun n=>?_
  ·exact q 5 rfl (y _ _ a (hasC (congrArg Value.bool (orT n)) rfl))
  ·refine z 1 2 ?_
   exact y _ _ a (hasC (congrArg Value.bool (orF n)) rfl)
 intro g w a
 refine q 2 rfl ?_
 refine cJ c (fun B c=>?_) fun B c=>?_
 ·refine q 7 rfl ?_
  cases c
  exact za k results13 ⟨rfl,(a.k13)⟩
 ·refine z 3 4 ?_;intro K L c
  refine bE c fun C D c=>?_
  refine lp D [1,2,3] (fun o=>[(7,iV o)]) (fun o=>St w0 ros (box l 26 [iV d,iV b,h.v,i.v,j.v]::rs)) (fun | .inl ()=>(.exit 0,[],St w0 ros rs) | .inr A=>(.ret,[(6,.int .u64 A)],St w0 ros rs)) rfl a rfl ?_ ?_
  ·clear a
   intro g w a
   rcases C with ⟨⟩ | A
   ·refine q 8 rfl ?_
    cases c
    exact za k results13 ⟨rfl,a⟩
   ·refine q 2 rfl ?_
    cases c
    exact za k results13 ⟨rfl,a⟩
  rintro o g w N a c
  refine z 3 3 ?_;intro O R c
  refine cI c (fun E c=>?_) fun E c=>?_
  ·refine z 3 4 ?_;intro S T c
   refine cI c (fun F c=>?_) fun F c=>?_
   ·refine z 3 6 ?_;intro U V c
    cases c
    exact xo (a.k13)
   ·refine q 8 rfl ?_
    cases c
    exact lo a
  ·refine q 2 rfl ?_
   cases c
   exact xo (a.k13)
instance:CL prog 13 (type_of% @w_be):=⟨@w_be⟩
theorem w_bf {b out:Int} (c:m_ce b=some out) (a:St w0 ros rs w):
  Calls prog 25 #[.int .u64 b] w (fun e w=>e=.returned (iV out)∧St w0 ros rs w):=by
 refine en func25 rfl ntmps25 fun Q d=>q 23 rfl ?_
 refine jW 3 [3,4] [(16,.bool ((decide ((wand .u64 (wsrc .u64 b 52) 2047)=2047)) && (!(decide ((wand .u64 b 4503599627370495)=0)))))] (St w0 ros rs) rfl (fun i=>?_) ?_
 ·refine gB 13 rfl (fun f=>?_) fun f=>?_
  ·exact q 3 rfl (i _ _ a (hasC (congrArg Value.bool (andT f)) rfl))
  ·exact q 3 rfl (i _ _ a (hasC (congrArg Value.bool (andF f)) rfl))
 intro g w a
 refine q 3 rfl ?_
 refine cJ c (fun k c=>?_) fun k c=>?_
 ·refine q 8 rfl ?_
  cases c
  exact za d results25 ⟨rfl,a⟩
 ·refine q 7 rfl (cI c (fun l c=>?_) fun l c=>?_)
  ·refine q 8 rfl ?_
   cases c
   exact za d results25 ⟨rfl,a⟩
  ·refine q 5 rfl ?_
   refine jW 3 [] [(26,.bool ((decide ((wand .u64 (wsrc .u64 b 52) 2047)=0)) && (decide ((wand .u64 b 4503599627370495)=0))))] (St w0 ros rs) rfl (fun j=>?_) ?_
   ·refine gB 23 rfl (fun h=>?_) fun h=>?_
    ·exact q 3 rfl (j _ _ a (hasC (congrArg Value.bool (andT h)) rfl))
    ·exact q 3 rfl (j _ _ a (hasC (congrArg Value.bool (andF h)) rfl))
   intro g w a
   refine q 3 rfl ?_
   refine cJ c (fun m c=>?_) fun m c=>?_
   ·refine q 8 rfl ?_
    cases c
    exact za d results25 ⟨rfl,a⟩
   ·refine q 9 rfl ?_
    cases c
    exact za d results25 ⟨rfl,a⟩
instance:CL prog 25 (type_of% @w_bf):=⟨@w_bf⟩
end Go.Proofs.YtcoaljcfifecgabGreatDoor
