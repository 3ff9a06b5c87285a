/- Walks: each function computes its model, printed. -/
import Derived.Test.YtcoaljcfifecgabGreatDoorW4
namespace Go.Proofs.YtcoaljcfifecgabGreatDoor
open Go Sx M Go.Proofs.Tryz
set_option maxRecDepth 100000
set_option maxHeartbeats 40000000
set_option linter.unusedVariables false
attribute [local irreducible] wpList Code.wp Calls DR QR QS LA LS St row box fam imm rowS loop
variable {w0:World} {ros:List Fact} {rs:List Res} {w:World}
theorem w_b8 {b:Bool} {d:LI} {f:Hdr} {out:Int} (c:m_di b d=some out) (h:imm (rI .u32) f.v d∈ros) (a:St w0 ros rs w):
  Calls prog 126 #[.agg #[.bool b,f.v]] w (fun e w=>e=.returned (iV out)∧St w0 ros rs w):=by
 refine en func126 rfl ntmps126 fun Q g=>?_
 refine z 4 4 ?_;intro i w a j k c l w a m n c w a
 cases c
 exact za g results126 ⟨rfl,((a.k13).fc)⟩
instance:CL prog 126 (type_of% @w_b8):=⟨@w_b8⟩
theorem w_b9 {f:LI} {h:Int} {i:Hdr} {out:LI} (c:m_dk f h=some out) (A:imm (rI .u32) i.v f∈ros) (a:St w0 ros rs w):
  Calls prog 80 #[i.v,iV h] w (fun e w=>∃ (j:Hdr),e=.returned (j.v)∧St w0 (imm (rI .u32) j.v out::ros) rs w):=by
 refine en func80 rfl ntmps80 fun Q k=>?_
 refine z 1 3 ?_
 refine cI c (fun r c=>?_) fun r c=>?_
 ·refine q 7 rfl ?_
  cases c
  replace a:=a.immNh (rI .u32)
  exact k _ _ _ (fin1r results80 ⟨rfl,rfl⟩ ⟨_,rfl,a⟩)
 ·refine z 1 2 ?_
  refine bE c fun B s c=>yh (rMk a SL_47 e0 s) fun l w a=>?_
  refine z 1 4 ?_
  refine bE c fun m t c=>?_
  refine lp t [5,6,7,25,26] (fun (b,d)=>[(27,iV d)]) (fun (b,d)=>St w0 ros (row 94 (rI .u32) l.v b::rs)) (fun | m=>(.exit 0,[],St w0 ros (row 94 (rI .u32) l.v m::rs))) rfl a rfl ?_ ?_
  ·clear a
   intro g w a
   refine z 1 4 ?_;intro C D c E w a
   cases c
   exact k _ _ _ (fin1r results80 ⟨rfl,rfl⟩ ⟨_,rfl,(a.facts (allC F0 (allT (allT allI))))⟩)
  rintro ⟨b,d⟩ g w F a c
  refine q 6 rfl (cI c (fun u c=>?_) fun u c=>?_)
  ·refine z 5 4 ?_;intro G H c n I c x J c
   refine bE c fun K o c=>y (yIs SL_47 e0 e0 a rO0 o) (yt (r_sti (cs:=[.int .u32 (wor .u32 x (wc .u32 (wand .u64 n 4294967295)))]) a O_94 rfl e0 e0 rfl mkI o) fun w a=>bE c fun L p c=>q 11 rfl (y (yIs SL_47 e0 e0 a rO0 p) (yt (r_sti (cs:=[.int .u32 (wc .u32 (wsrc .u64 n 32))]) a O_94 rfl e0 e0 rfl mkI p) fun w a=>q 7 rfl ?_)))
   cases c
   exact lo a
  ·refine q 2 rfl ?_
   cases c
   exact xo a
instance:CL prog 80 (type_of% @w_b9):=⟨@w_b9⟩
theorem w_ca {b:Int} {out:Bool} (c:m_dl b=some out) (a:St w0 ros rs w):
  Calls prog 129 #[.int .u32 b] w (fun e w=>e=.returned (.bool out)∧St w0 ros rs w):=by
 refine en func129 rfl ntmps129 fun Q d=>q 13 rfl ?_
 cases c
 exact za d results129 ⟨rfl,a⟩
instance:CL prog 129 (type_of% @w_ca):=⟨@w_ca⟩
theorem w_cb {d:LI} {f:Hdr} {out:Int} (c:m_dn d=some out) (o:imm (rI .u32) f.v d∈ros) (a:St w0 ros rs w):
  Calls prog 154 #[f.v,.func (.func 129) #[] #[]] w (fun e w=>e=.returned (iV out)∧St w0 ros rs w):=by
 refine en func154 rfl ntmps154 fun Q h=>?_
 refine z 1 4 ?_
 refine bE c fun j k c=>?_
 refine lp k [0,1,7] (fun b=>[(8,iV b)]) (fun b=>St w0 ros rs) (fun | .inl ()=>(.exit 0,[],St w0 ros rs) | .inr i=>(.ret,[(4,iV i)],St w0 ros rs)) rfl a rfl ?_ ?_
 ·clear a
  intro g w a
  rcases j with ⟨⟩ | i
  ·refine q 8 rfl ?_
   cases c
   exact za h results154 ⟨rfl,a⟩
  ·refine q 2 rfl ?_
   cases c
   exact za h results154 ⟨rfl,a⟩
 rintro b g w p a c
 refine q 6 rfl (cI c (fun l c=>?_) fun l c=>?_)
 ·refine z 2 0 ?_;intro r s c
  refine bE c fun t m c=>yC (yCallw FN_129 e0 (a1 e0)) (w_ca m a) ?_
  rintro _ w ⟨rfl,a⟩
  refine ⟨_,rfl,?_⟩
  refine nf (q 2 rfl ?_)
  refine cJ c (fun n c=>?_) fun n c=>?_
  ·refine q 9 rfl ?_
   cases c
   exact xo a
  ·refine q 7 rfl ?_
   cases c
   exact lo a
 ·refine q 2 rfl ?_
  cases c
  exact xo a
instance:CL prog 154 (type_of% @w_cb):=⟨@w_cb⟩
theorem w_cc {b:LI} {d:Hdr} {out:Bool} (c:m_do b=some out) (g:imm (rI .u32) d.v b∈ros) (a:St w0 ros rs w):
  Calls prog 128 #[d.v,.func (.func 129) #[] #[]] w (fun e w=>e=.returned (.bool out)∧St w0 ros rs w):=by
 refine en func128 rfl ntmps128 fun Q f=>?_
 refine z 1 5 ?_;intro h i c w a
 cases c
 exact za f results128 ⟨rfl,a⟩
instance:CL prog 128 (type_of% @w_cc):=⟨@w_cc⟩
theorem w_cd {k:LI} {i:Int} {l:Hdr} {out:LI×Bool} (c:m_dr k i=some out) (m:imm (rI .u32) l.v k∈ros) (a:St w0 ros rs w):
  Calls prog 81 #[l.v,iV i] w (fun e w=>∃ (n:Hdr),e=.returned (.tuple #[n.v,.bool out.2])∧St w0 (imm (rI .u32) n.v out.1::ros) rs w):=by
 refine en func81 rfl ntmps81 fun Q o=>?_
 refine z 1 3 ?_
 refine cI c (fun u c=>?_) fun u c=>?_
 ·refine z 1 7 ?_
  cases c
  replace a:=a.immNh (rI .u32)
  exact o _ _ _ (fin2r results81 ⟨rfl,rfl⟩ ⟨rfl,rfl⟩ ⟨_,rfl,a⟩)
 ·refine q 6 rfl (bE c fun H p c=>y (ySl (k1:=.i64) SL_47 e0 a (rdI m) (.inr ⟨rfl,rfl⟩) (.inl (congrArg some e0)) p) ?_)
  replace a:=a.sub m p
  refine z 1 1 ?_;intro I J c w a
  refine bE c fun x b c=>?_
  refine jW 10 [0,6,7] [(38,.bool x)] (St w0 ros rs) rfl (fun r=>?_) ?_
  ·refine gJ 28 b rfl (fun A b=>?_) fun A b=>?_
   ·refine q 10 rfl ?_
    cases b
    exact r _ _ (a.fc) rfl
   ·refine q 2 rfl (bE b fun K L b=>?_)
    refine z 2 1 ?_
    refine bE b fun N O b=>?_
    refine z 1 4 ?_
    cases b
    exact r _ _ (a.fc) rfl
  intro g w a
  refine z 1 2 ?_
  refine bE c fun R B c=>yh (rMk a SL_47 e0 B) fun j w a=>?_
  refine z 1 4 ?_
  refine bE c fun s C c=>?_
  refine lp C [0,6,7,8,9,45] (fun (d,f)=>[(46,iV f)]) (fun (d,f)=>St w0 ros (row 94 (rI .u32) j.v d::rs)) (fun | s=>(.exit 0,[],St w0 ros (row 94 (rI .u32) j.v s::rs))) rfl a rfl ?_ ?_
  ·clear a
   intro g w a
   refine z 1 6 ?_;intro S T c U w a
   cases c
   exact o _ _ _ (fin2r results81 ⟨rfl,rfl⟩ ⟨rfl,rfl⟩ ⟨_,rfl,(a.facts (allC F0 (allT (allT allI))))⟩)
  rintro ⟨d,f⟩ g w D a c
  refine q 6 rfl (cI c (fun E c=>?_) fun E c=>?_)
  ·refine z 3 3 ?_;intro V W c
   refine jC Int [0,6,7,8,9,10,45,46] (fun h=>[(11,.int .u64 h)]) (fun h w=>St w0 ros (row 94 (rI .u32) j.v d::rs) w∧m_dp i d f h=some D) rfl ?_ ?_
   ·rintro h g w ⟨a,c⟩
    refine z 1 2 ?_;intro F X c
    refine bE c fun Z t c=>y (yIs SL_47 e0 e0 a rO0 t) (yt (r_sti (cs:=[.int .u32 (wc .u32 (wand .u64 F 4294967295))]) a O_94 rfl e0 e0 rfl mkI t) fun w a=>q 7 rfl ?_)
    cases c
    exact lo a
   refine cI c (fun G c=>?_) fun G c=>?_
   ·refine z 2 5 ?_;intro a0 a1 c
    exact jx _ ⟨a,c⟩
   ·exact q 1 rfl (jx _ ⟨a,c⟩)
  ·refine q 2 rfl ?_
   cases c
   exact xo a
instance:CL prog 81 (type_of% @w_cd):=⟨@w_cd⟩
theorem w_ce {s t:LI} {u x:Hdr} {out:LI} (c:m_dv s t=some out) (y:imm (rI .u32) u.v s∈ros) (A:imm (rI .u32) x.v t∈ros) (a:St w0 ros rs w):
  Calls prog 82 #[u.v,x.v] w (fun e w=>∃ (B:Hdr),e=.returned (B.v)∧St w0 (imm (rI .u32) B.v out::ros) rs w):=by
 refine en func82 rfl ntmps82 fun Q D=>?_
 refine z 2 3 ?_
 refine jC (LI×LI×Hdr×Hdr) [] (fun (d,f,h,i)=>[(0,h.v),(1,i.v)]) (fun (d,f,h,i) w=>St w0 (imm (rI .u32) h.v d::imm (rI .u32) i.v f::ros) rs w∧m_du d f=some out) rfl ?_ ?_
 ·rintro ⟨d,f,h,i⟩ g w ⟨a,c⟩
  refine z 1 1 ?_
  refine bE c fun K E c=>yh (rMkc a SL_47 rfl e0 E) fun L w a=>?_
  refine z 1 4 ?_
  obtain ⟨⟨C,j⟩,F,c⟩:=bs c
  refine lpN Hdr Hdr F [1,21,22] (fun (k,p,o) m=>[(5,m.v),(6,.int .u64 p),(23,iV o)]) (fun (k,p,o) m=>St w0 (imm (rI .u32) i.v f::imm (rI .u32) h.v d::ros) (row 94 (rI .u32) m.v k::rs)) (fun | (C,j),r=>(.exit 0,[(5,r.v),(6,.int .u64 j)],St w0 ros (row 94 (rI .u32) r.v C::rs))) rfl _ (a.facts (allC F1 (allC F0 (allT (allT allI))))) rfl ?_ ?_
  ·clear a
   rintro r g w a
   refine q 7 rfl (yh (rLt (n:=1) (l:=[wc .u32 j]) a SL_47 [.int .u32 (wc .u32 j)] (bp1 e0) rfl rfl (mks1 (cs:=[.int .u32 (wc .u32 j)]) rfl mkI mks0)) fun N w a=>?_)
   refine z 2 4 ?_;intro O R c S w a T U c V w a
   cases c
   exact D _ _ _ (fin1r results82 ⟨rfl,rfl⟩ ⟨_,rfl,((a.k13).facts (allC F0 (allT (allT allI))))⟩)
  rintro ⟨k,p,o⟩ m g w G a c
  refine q 6 rfl (cI c (fun H c=>?_) fun H c=>?_)
  ·refine z 3 3 ?_;intro W X c
   refine jC Int [1,5,21,22,23] (fun b=>[(9,.int .u64 b)]) (fun b w=>St w0 (imm (rI .u32) i.v f::imm (rI .u32) h.v d::ros) (row 94 (rI .u32) m.v k::rs) w∧m_ds k o b=some G) rfl ?_ ?_
   ·rintro b g w ⟨a,c⟩
    refine q 7 rfl (yh (rLt (n:=1) (l:=[wc .u32 (wand .u64 b 4294967295)]) a SL_47 [.int .u32 (wc .u32 (wand .u64 b 4294967295))] (bp1 e0) rfl rfl (mks1 (cs:=[.int .u32 (wc .u32 (wand .u64 b 4294967295))]) rfl mkI mks0)) fun Z w a=>?_)
    refine z 1 14 ?_;intro a0 a1 c a2 w a
    cases c
    exact ln _ (a.k10)
   refine cI c (fun I c=>?_) fun I c=>?_
   ·refine z 2 4 ?_;intro a3 a4 c
    exact jx _ ⟨a,c⟩
   ·exact q 1 rfl (jx _ ⟨a,c⟩)
  ·refine q 2 rfl ?_
   cases c
   exact lx _ (a.fc)
 refine cI c (fun J c=>?_) fun J c=>?_
 ·exact q 6 rfl (jx (_,_,_,_) ⟨(a.facts (allC A (allC y allI))),c⟩)
 ·exact q 1 rfl (jx (_,_,_,_) ⟨(a.facts (allC y (allC A allI))),c⟩)
instance:CL prog 82 (type_of% @w_ce):=⟨@w_ce⟩
theorem w_cf {b:Bool} {r:LI} {f:Int} {d:Hdr} {out:Bool×LI×Int} (c:m_dx b r f=some out) (D:imm (rI .u32) d.v r∈ros) (a:St w0 ros rs w):
  Calls prog 34 #[.agg #[.bool b,d.v],iV f] w (fun e w=>∃ (s:Hdr),e=.returned (.tuple #[.agg #[.bool out.1,s.v],iV out.2.2])∧St w0 (imm (rI .u32) s.v out.2.1::ros) rs w):=by
 refine en func34 rfl ntmps34 fun Q j=>?_
 refine z 2 9 ?_;intro k w a m w a
 refine jW 3 [1,2,4] [(14,.bool ((decide (f < (-1048576))) || (decide ((1048576:Int) < f))))] (St w0 ros (box k 49 [.bool b,d.v]::box m 49 [.bool false,hnil.v]::rs)) rfl (fun t=>?_) ?_
 ·refine gB 11 rfl (fun o=>?_) fun o=>?_
  ·exact q 3 rfl (t _ _ (a.k16) (hasC (congrArg Value.bool (orT o)) rfl))
  ·exact q 3 rfl (t _ _ (a.k16) (hasC (congrArg Value.bool (orF o)) rfl))
 intro g w a
 refine q 2 rfl ?_
 refine cJ c (fun y c=>?_) fun y c=>?_
 ·refine z 2 5 ?_;intro w a
  cases c
  replace a:=a.immNh (rI .u32)
  exact j _ _ _ (fin2r results34 (rcs2 rfl rfl a R0 ST_49 rfl) ⟨rfl,rfl⟩ ⟨_,rfl,(a.k19)⟩)
 ·refine z 2 10 ?_;intro E F c G w a
  refine cI c (fun A c=>?_) fun A c=>?_
  ·refine q 1 rfl (bE c fun H I c=>bE c fun J K c=>dS [4,5,6,7] 4 folM ?_)
   replace a:=a.drew
   refine z 5 3 ?_;intro L w a N w a w a
   cases c
   exact j _ _ _ (fin2r results34 (rcs2 rfl rfl a R0 ST_49 rfl) ⟨rfl,rfl⟩ ⟨_,rfl,((a.k19).facts (allC F0 (allT (allT (allT allI)))))⟩)
  ·refine z 2 1 ?_;intro u O c B w a
   refine jW 2 [2,4,7] [(38,.bool (b && u.2))] (St w0 (imm (rI .u32) B.v u.1::ros) (box k 49 [.bool b,d.v]::box m 49 [.bool false,hnil.v]::rs)) rfl (fun x=>?_) ?_
   ·refine gB 36 rfl (fun p=>?_) fun p=>?_
    ·exact q 2 rfl (x _ _ (a.facts (allC F0 (allT (allT allI)))) (hasC (congrArg Value.bool (andT p)) rfl))
    ·exact q 2 rfl (x _ _ (a.facts (allC F0 (allT (allT allI)))) (hasC (congrArg Value.bool (andF p)) rfl))
   intro g w a
   refine q 2 rfl ?_
   refine jC (LI×Hdr) [2,4] (fun (h,i)=>[(7,i.v)]) (fun (h,i) w=>St w0 (imm (rI .u32) i.v h::ros) (box k 49 [.bool b,d.v]::box m 49 [.bool false,hnil.v]::rs) w∧m_dw b h=some out) rfl ?_ ?_
   ·rintro ⟨h,i⟩ g w ⟨a,c⟩
    refine z 3 4 ?_;intro R S c T w a w a
    cases c
    exact j _ _ _ (fin2r results34 (rcs2 rfl rfl a R0 ST_49 rfl) ⟨rfl,rfl⟩ ⟨_,rfl,((a.k19).facts (allC F0 (allT (allT allI))))⟩)
   refine cJ c (fun C c=>?_) fun C c=>?_
   ·refine q 2 rfl (yh (rLt (n:=1) (l:=[1]) a SL_47 [.int .u32 1] (bp1 rfl) rfl rfl (mks1 (cs:=[.int .u32 1]) rfl mkI mks0)) fun U w a=>?_)
    refine z 1 2 ?_;intro V W c X w a
    exact jx (_,_) ⟨(a.facts (allC F0 (allT (allT (allT allI))))),c⟩
   ·exact q 1 rfl (jx (_,_) ⟨a,c⟩)
instance:CL prog 34 (type_of% @w_cf):=⟨@w_cf⟩
theorem w_cg {j:Bool} {k:LI} {l:Int} {m:Hdr} {out:Bool×LI} (c:m_dz j k l=some out) (u:imm (rI .u32) m.v k∈ros) (a:St w0 ros rs w):
  Calls prog 127 #[.agg #[.bool j,m.v],iV l] w (fun e w=>∃ (n:Hdr),e=.returned (.agg #[.bool out.1,n.v])∧St w0 (imm (rI .u32) n.v out.2::ros) rs w):=by
 refine en func127 rfl ntmps127 fun Q x=>?_
 refine z 2 4 ?_;intro o w a p w a
 obtain ⟨⟨r,s,t⟩,y,c⟩:=bs c
 refine lpN Hdr Hdr y [2,4] (fun (d,f,h) b=>[(1,iV d)]) (fun (d,f,h) b=>St w0 (imm (rI .u32) b.v h::ros) (box o 49 [.bool f,b.v]::box p 49 [.bool false,hnil.v]::rs)) (fun | (r,s,t),i=>(.exit 0,[(1,iV r)],St w0 (imm (rI .u32) i.v t::ros) (box o 49 [.bool s,i.v]::box p 49 [.bool false,hnil.v]::rs))) rfl _ ((a.k16).facts (allC u allI)) rfl ?_ ?_
 ·clear a
  rintro i g w a
  refine z 5 3 ?_;intro B C c D w a w a w a
  cases c
  exact x _ _ _ (fin1r results127 (rcs2 rfl rfl a R0 ST_49 rfl) ⟨_,rfl,((a.k19).facts (allC F0 (allT (allT allI))))⟩)
 rintro ⟨d,f,h⟩ b g w E a c
 refine q 7 rfl (cI c (fun A c=>?_) fun A c=>?_)
 ·refine z 3 8 ?_;intro F G c H w a w a
  cases c
  exact ln _ (a.facts (allC F0 (allT (allT allI))))
 ·refine q 2 rfl ?_
  cases c
  exact lx _ a
instance:CL prog 127 (type_of% @w_cg):=⟨@w_cg⟩
theorem w_ch {m n:Bool} {s:LI} {b:Int} {o:Hdr} {out:Bool×Bool×LI×Int×Bool} (c:m_d0 m n s b=some out) (H:imm (rI .u32) o.v s∈ros) (I:globF∈ros) (a:St w0 ros rs w):
  Calls prog 76 #[.agg #[.bool m,.bool n,o.v,iV b]] w (fun e w=>∃ (t:Hdr),e=.returned (.tuple #[.agg #[.bool out.1,.bool out.2.1,t.v,iV out.2.2.2.1],.bool out.2.2.2.2])∧St w0 (imm (rI .u32) t.v out.2.2.1::ros) rs w):=by
 refine en func76 rfl ntmps76 fun Q i=>?_
 refine z 3 2 ?_;intro x w a y w a
 refine cJ c (fun A c=>?_) fun A c=>?_
 ·refine z 2 5 ?_;intro J K c w a w a
  cases c
  replace a:=a.immNh (rI .u32)
  exact i _ _ _ (fin2r results76 (rcs2 rfl rfl a R0 ST_63 rfl) ⟨rfl,rfl⟩ ⟨_,rfl,(a.k19)⟩)
 ·refine z 6 3 ?_;intro d L c f w a B w a w a N O c w a
  refine cI c (fun C c=>?_) fun C c=>?_
  ·refine z 2 5 ?_;intro w a
   cases c
   replace a:=a.immNh (rI .u32)
   exact i _ _ _ (fin2r results76 (rcs2 rfl rfl a R0 ST_63 rfl) ⟨rfl,rfl⟩ ⟨_,rfl,((a.k1b).facts (allC F0 (allT (allT allI))))⟩)
  ·refine z 2 5 ?_;intro j R c w a
   refine bE c fun S u c=>bE c fun p h c=>?_
   refine jN Unit [1,2,4,5] (fun _=>[(30,.bool p)]) (fun _=>St w0 (imm (rI .u32) f.v d.2::ros) (box x 63 [.bool m,.bool n,o.v,iV b]::box y 63 [.bool false,.bool false,hnil.v,iV 0]::box B 49 [.bool d.1,f.v]::rs)) rfl ?_ ?_
   ·rcases iteS h with ⟨r,h⟩ | ⟨r,h⟩
    ·have D:=someI h
     refine dS [3] 1 folM ?_
     replace a:=a.drew
     exact D1 7 0 3 rfl (qR 1 rfl (rQ rfl (lb_ (iV b) O_3 e0 a R2) (rQ rfl (lbs_ [.bool d.1,f.v] ST_49 e0 a R0) (Rn QSn (kZ (w_b8 u F0 a) fun w a=>dU (Dw 8176 3 (qR 3 rfl (rK 24 rfl (dT r) (qR 5 rfl (rQ rfl (pt_ (.bool p) e0 rfl (eqv D rfl)) (Rn (qS rfl (sY rfl (lb_ (iV b) O_3 e0 a R2) QSn)) (jr () (a.k18)))))))))))))
    ·have E:=someI h
     refine dS [3] 1 folM ?_
     replace a:=a.drew
     refine D1 7 0 3 rfl (qR 1 rfl (rQ rfl (lb_ (iV b) O_3 e0 a R2) (rQ rfl (lbs_ [.bool d.1,f.v] ST_49 e0 a R0) (Rn QSn (kZ (w_b8 u F0 a) fun w a=>dU (Dw 8176 3 (qR 3 rfl (rK 24 rfl (dF r) (qR 1 rfl (rQ rfl (lb_ (iV b) O_3 e0 a R2) (qR 3 rfl (rQ rfl (pf_ (.bool p) e0 rfl (eqv E e0)) ?_))))))))))))
     exact Rn (qS rfl (sY rfl (lb_ (iV b) O_3 e0 a R2) QSn)) (jr () (a.k18))
   rintro _ g w a
   refine q 1 rfl ?_
   refine cJ c (fun F c=>?_) fun F c=>?_
   ·refine z 2 5 ?_;intro T U c w a w a
    cases c
    replace a:=a.immNh (rI .u32)
    exact i _ _ _ (fin2r results76 (rcs2 rfl rfl a R0 ST_63 rfl) ⟨rfl,rfl⟩ ⟨_,rfl,((a.k1b).facts (allC F0 (allT (allT allI))))⟩)
   ·refine q 3 rfl (bE c fun k G c=>dS [2,8,9] 3 folM ?_)
    replace a:=a.drew
    refine D1 123 0 2 rfl (rQ rfl (lbs_ [.bool d.1,f.v] ST_49 e0 a R2) (qR 2 rfl (rQ rfl (lb_ (iV b) O_3 e0 a R0) (qR 2 rfl (Rn QSn (kO (w_cg G F0 a) fun l w a=>dU (D0 128 120 8 rfl (rQ rfl (ybuild (us:=[.bool false,.bool k.1,l.v,iV (wa .i64 b j)]) [(1,.agg #[.bool k.1,l.v]),(2,iV (wa .i64 b j))] SO_63 (bp2 e0 e0) rfl) (Rn (qS rfl (sY rfl (lb_ (iV b) O_3 e0 a R0) (qS rfl (qS rfl QSn)))) ?_)))))))))
    replace a:=a.k16
    refine LT wn (r_stbn (vals':=[.bool false,.bool k.1,l.v,iV (wa .i64 b j)]) (us:=[.bool false,.bool k.1,l.v,iV (wa .i64 b j)]) a ST_63 e0 e0 rfl rfl (one_of rfl) rfl) fun w a=>D1 0 0 9 rfl (Rn QSn (Ly wn (a_ (.bool true) rfl) (dU (Dw 0 0 (Rn QSn (qx 2 rfl ?_))))))
    cases c
    exact i _ _ _ (fin2r results76 (rcs2 rfl rfl a R0 ST_63 rfl) ⟨rfl,rfl⟩ ⟨_,rfl,((a.k1b).facts (allC F0 (allT (allT allI))))⟩)
instance:CL prog 76 (type_of% @w_ch):=⟨@w_ch⟩
theorem w_ci {b:Bool} {d:LI} {f:Int} {g:Hdr} {out:Bool×Bool×LI×Int} (c:m_d1 b d f=some out) (j:imm (rI .u32) g.v d∈ros) (k:globF∈ros) (a:St w0 ros rs w):
  Calls prog 75 #[.agg #[.bool b,g.v],iV f] w (fun e w=>∃ (h:Hdr),e=.returned (.agg #[.bool out.1,.bool out.2.1,h.v,iV out.2.2.2])∧St w0 (imm (rI .u32) h.v out.2.2.1::ros) rs w):=by
 refine en func75 rfl ntmps75 fun Q i=>?_
 refine z 9 3 ?_;intro l w a m w a n o c p w a q w a w a w a
 cases c
 exact i _ _ _ (fin1r results75 (rcs2 rfl rfl a R0 ST_63 rfl) ⟨_,rfl,(a.k1b)⟩)
instance:CL prog 75 (type_of% @w_ci):=⟨@w_ci⟩
theorem w_cj {j:Int} {out:Bool×Bool×LI×Int} (c:m_d4 j=some out) (s:globF∈ros) (a:St w0 ros rs w):
  Calls prog 31 #[.int .u64 j] w (fun e w=>∃ (k:Hdr),e=.returned (.agg #[.bool out.1,.bool out.2.1,k.v,iV out.2.2.2])∧St w0 (imm (rI .u32) k.v out.2.2.1::ros) rs w):=by
 refine en func31 rfl ntmps31 fun Q l=>?_
 refine z 2 20 ?_;intro m w a t u c w a
 refine cI c (fun n c=>?_) fun n c=>?_
 ·refine z 2 5 ?_;intro w a
  cases c
  replace a:=a.immNh (rI .u32)
  exact l _ _ _ (fin1r results31 (rcs2 rfl rfl a R0 ST_63 rfl) ⟨_,rfl,(a.k13)⟩)
 ·refine q 6 rfl ?_
  refine jC (Int×Int) [0,2] (fun (b,d)=>[(3,iV b),(4,.int .u64 d)]) (fun (b,d) w=>St w0 ros (box m 63 [.bool false,.bool false,hnil.v,iV 0]::rs) w∧m_d3 j b d=some out) rfl ?_ ?_
  ·rintro ⟨b,d⟩ g w ⟨a,c⟩
   refine z 4 2 ?_;intro x y c A w a o w a w a B C c w a
   refine jC (Bool×LI×Hdr) [2,3,5] (fun (f,h,i)=>[]) (fun (f,h,i) w=>St w0 (imm (rI .u32) i.v h::ros) (box m 63 [.bool false,.bool false,hnil.v,iV 0]::box o 49 [.bool f,i.v]::rs) w∧m_d2 b f h=some out) rfl ?_ ?_
   ·rintro ⟨f,h,i⟩ g w ⟨a,c⟩
    refine z 3 3 ?_;intro D E c F w a w a
    cases c
    exact l _ _ _ (fin1r results31 (rcs2 rfl rfl a R0 ST_63 rfl) ⟨_,rfl,((a.k19).facts (allC F0 (allT (allT allI))))⟩)
   refine cJ c (fun p c=>?_) fun p c=>?_
   ·refine z 3 1 ?_;intro G H c I w a w a
    exact jx (_,_,_) ⟨((a.k16).facts (allC F0 (allT (allT allI)))),c⟩
   ·exact q 1 rfl (jx (_,_,_) ⟨(a.k16),c⟩)
  refine cI c (fun r c=>?_) fun r c=>?_
  ·exact q 3 rfl (jx (_,_) ⟨a,c⟩)
  ·exact q 12 rfl (jx (_,_) ⟨a,c⟩)
instance:CL prog 31 (type_of% @w_cj):=⟨@w_cj⟩
theorem w_ck {b d:Bool} {f:LI} {g:Int} {h:Hdr} {out:Int} (c:m_d5 b d f g=some out) (j:imm (rI .u32) h.v f∈ros) (k:globF∈ros) (a:St w0 ros rs w):
  Calls prog 32 #[.agg #[.bool b,.bool d,h.v,iV g]] w (fun e w=>e=.returned (iV out)∧St w0 ros rs w):=by
 refine en func32 rfl ntmps32 fun Q i=>?_
 refine z 6 4 ?_;intro l w a m n c o w a w a p q c w a
 cases c
 exact za i results32 ⟨rfl,((a.k13).fc)⟩
instance:CL prog 32 (type_of% @w_ck):=⟨@w_ck⟩
theorem w_cl {d f:Int} {A B C:LI} {h i j:Hdr} {out:(List (Int×Int×Int))} (c:m_d8 d f A B C=some out) (L:imm I1 h.v A∈ros) (N:imm I1 i.v B∈ros) (O:imm (rI .u64) j.v C∈ros) (a:St w0 ros rs w):
  Calls prog 33 #[.agg #[iV d,iV f,h.v,i.v,j.v]] w (fun e w=>∃ (D:Hdr),e=.returned (D.v)∧St w0 ros (row 71 rTi64i64u64 D.v out::rs) w):=by
 refine en func33 rfl ntmps33 fun Q G=>?_
 refine z 2 4 ?_;intro o w a
 refine bE c fun E H c=>?_
 replace a:=a.rowNh 71 rTi64i64u64
 refine lpN Hdr Hdr H [1,7] (fun (p,b) k=>[(3,k.v),(8,iV b)]) (fun (p,b) k=>St w0 ros (box o 26 [iV d,iV f,h.v,i.v,j.v]::row 71 rTi64i64u64 k.v p::rs)) (fun | E,r=>(.exit 0,[(3,r.v)],St w0 ros (row 71 rTi64i64u64 r.v E::rs))) rfl _ (a.k16) rfl ?_ ?_
 ·clear a
  rintro r g w a
  refine q 9 rfl ?_
  cases c
  exact G _ _ _ (fin1r results33 ⟨rfl,rfl⟩ ⟨_,rfl,a⟩)
 rintro ⟨p,b⟩ k g w R a c
 refine q 6 rfl (cI c (fun I c=>?_) fun I c=>?_)
 ·refine z 3 4 ?_;intro S T c
  refine bE c fun F J c=>?_
  refine lpN Hdr Hdr J [1,4,7,8] (fun (s,t) m=>[(3,m.v),(5,iV t)]) (fun (s,t) m=>St w0 ros (box o 26 [iV d,iV f,h.v,i.v,j.v]::row 71 rTi64i64u64 m.v s::rs)) (fun | F,u=>(.exit 2,[(3,u.v)],St w0 ros (box o 26 [iV d,iV f,h.v,i.v,j.v]::row 71 rTi64i64u64 u.v F::rs))) rfl _ a rfl ?_ ?_
  ·clear a
   rintro u g w a
   refine q 7 rfl ?_
   cases c
   exact ln _ a
  rintro ⟨s,t⟩ m g w U a c
  refine z 3 3 ?_;intro V W c
  refine cI c (fun K c=>?_) fun K c=>?_
  ·refine q 4 rfl (bE c fun x X c=>bE c fun y Z c=>bE c fun a0 a1 c=>dS [13,14,15] 3 folM ?_)
   replace a:=a.drew
   refine z 7 0 ?_
   refine LH wn (rLt (n:=1) (l:=[(x,b,y)]) a SL_68 [.agg #[iV x,iV b,.int .u64 y]] (bp1 e0) rfl rfl (mks1 (cs:=[iV x,iV b,.int .u64 y]) rfl (mkF rfl) mks0)) fun a2 w a=>dU ?_
   refine z 2 7 ?_;intro a3 w a
   cases c
   exact ln _ (a.k1z)
  ·refine q 2 rfl ?_
   cases c
   exact lx _ a
 ·refine q 2 rfl ?_
  cases c
  exact lx _ (a.k11)
instance:CL prog 33 (type_of% @w_cl):=⟨@w_cl⟩
end Go.Proofs.YtcoaljcfifecgabGreatDoor
