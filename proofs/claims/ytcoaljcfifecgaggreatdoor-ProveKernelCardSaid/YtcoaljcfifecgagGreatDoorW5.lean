/- Walks: each function computes its model, printed. -/
import Derived.Test.YtcoaljcfifecgagGreatDoorW4
namespace Go.Proofs.YtcoaljcfifecgagGreatDoor
open Go Sx M Go.Proofs.Tryz
set_option maxRecDepth 100000
set_option maxHeartbeats 40000000
set_option linter.unusedVariables false
attribute [local irreducible] wpList Code.wp Calls DR QR QS LA LS St
variable {w0:World} {ros:List Fact} {rs:List Res} {w:World}
theorem integer_BitLen_ok {d:Bool} {f:LI} {c:Hdr} {out:Int} (b:integer_BitLen d f=some out) (g:imm (rI .u32) c.v f∈ros) (a:St w0 ros rs w):
  Calls prog 129 #[.agg #[.bool d,c.v]] w (fun e w=>e=.returned (iV out)∧St w0 ros rs w):=by
 refine en func129 rfl ntmps129 fun Q h=>q 2 rfl (yb (r_box (vals:=[.bool d,c.v]) a e0 rfl) fun k w a=>q 6 rfl (y (lb_ c.v O_38 e0 a R0) (bE b fun l i b=>cO (integer_trim_ok i g a) fun m w a=>bE b fun n j b=>cZ (integer_length_ok j F0 a) fun w a=>q 4 rfl ?_)))
 cases b
 exact za h results129 ⟨rfl,((a.k14).fc)⟩
theorem integer_up_ok {i:LI} {j:Int} {k:Hdr} {out:LI} (c:integer_up i j=some out) (d:imm (rI .u32) k.v i∈ros) (a:St w0 ros rs w):
  Calls prog 91 #[k.v,iV j] w (fun e w=>∃ (l:Hdr),e=.returned (l.v)∧St w0 (imm (rI .u32) l.v out::ros) rs w):=by
 refine en func91 rfl ntmps91 fun Q m=>q 9 rfl (y (yLen SL_38 e0 a (rdI d)) (q 3 rfl (cI c (fun x c=>?_) fun x c=>?_)))
 ·refine q 7 rfl ?_
  cases c
  replace a:=a.immNh (rI .u32)
  exact m _ _ _ (fin1r results91 ⟨rfl,rfl⟩ ⟨_,rfl,a⟩)
 ·refine q 17 rfl (y (yLen SL_38 e0 a (rdI d)) (bE c fun F z c=>q 2 rfl (yh (rMk a SL_38 e0 z) fun n w a=>q 7 rfl (y (yLen SL_38 e0 a (rdI d)) (bE c fun o A c=>q 4 rfl ?_)))))
  refine lp A [5,6,7,25,26] (fun (f,h)=>[(27,iV h)]) (fun (f,h)=>St w0 ros (row 96 (rI .u32) n.v f::rs)) (fun | o=>(.exit 0,[],St w0 ros (row 96 (rI .u32) n.v o::rs))) rfl a rfl ?_ ?_
  ·clear a
   intro g w a
   refine bE c fun G B c=>q 5 rfl ?_
   replace a:=a.fz
   refine cO (integer_trim_ok B F0 a) fun H w a=>q 4 rfl ?_
   cases c
   exact m _ _ _ (fin1r results91 ⟨rfl,rfl⟩ ⟨_,rfl,(a.facts (allC F0 (allT (allT allI))))⟩)
  rintro ⟨f,h⟩ g w I a b
  refine q 6 rfl (cI b (fun C b=>?_) fun C b=>?_)
  ·refine q 7 rfl (bE b fun J p b=>y (yIa SL_38 e0 e0 a (rdI d) p) (y (yI O_96 e0 a (rdI d) p) (bE b fun r D b=>q 9 rfl (y (yshl e0 e0 D) (bE b fun E s b=>q 9 rfl (y (yIa SL_38 e0 e0 a rO0 s) (y (yI O_96 e0 a rO0 s) (bE b fun K t b=>q 4 rfl (y (yIs SL_38 e0 e0 a rO0 t) ?_)))))))))
   refine yt (r_sti (cs:=[.int .u32 (wor .u32 E (wc .u32 (wand .u64 r 4294967295)))]) a O_96 rfl e0 e0 rfl mkI t) fun w a=>bE b fun L u b=>q 11 rfl (y (yIs SL_38 e0 e0 a rO0 u) (yt (r_sti (cs:=[.int .u32 (wc .u32 (wsrc .u64 r 32))]) a O_96 rfl e0 e0 rfl mkI u) fun w a=>q 7 rfl ?_))
   cases b
   exact lo a
  ·refine q 2 rfl ?_
   cases b
   exact xo a
theorem integer_down_1_ok {a:Int} {out:Bool} (b:integer_down_1 a=some out) (c:St w0 ros rs w):
  Calls prog 132 #[.int .u32 a] w (fun e w=>e=.returned (.bool out)∧St w0 ros rs w):=by
 refine en func132 rfl ntmps132 fun Q d=>q 13 rfl ?_
 cases b
 exact za d results132 ⟨rfl,c⟩
theorem slices_IndexFunc_uint32_ok {h:LI} {i:Hdr} {out:Int} (c:slices_IndexFunc_uint32 h=some out) (d:imm (rI .u32) i.v h∈ros) (a:St w0 ros rs w):
  Calls prog 153 #[i.v,.func (.func 132) #[] #[]] w (fun e w=>e=.returned (iV out)∧St w0 ros rs w):=by
 refine en func153 rfl ntmps153 fun Q j=>q 9 rfl (y (yLen SL_38 e0 a (rdI d)) (bE c fun m n c=>q 4 rfl ?_))
 refine lp n [0,1,7] (fun f=>[(8,iV f)]) (fun f=>St w0 ros rs) (fun | .inl ()=>(.exit 0,[],St w0 ros rs) | .inr k=>(.ret,[(4,iV k)],St w0 ros rs)) rfl a rfl ?_ ?_
 ·clear a
  intro g w a
  rcases m with ⟨⟩ | k
  ·refine q 8 rfl ?_
   cases c
   exact za j results153 ⟨rfl,a⟩
  ·refine q 2 rfl ?_
   cases c
   exact za j results153 ⟨rfl,a⟩
 rintro f g w s a b
 refine q 6 rfl (cI b (fun o b=>?_) fun o b=>?_)
 ·refine q 15 rfl (bE b fun t l b=>y (yIa SL_38 e0 e0 a (rdI d) l) (y (yI O_96 e0 a (rdI d) l) (bE b fun u p b=>yC (yCallw FN_132 e0 (a1 e0)) (integer_down_1_ok p a) ?_)))
  rintro _ w ⟨rfl,a⟩
  refine ⟨_,rfl,?_⟩
  refine nf (q 2 rfl ?_)
  refine cJ b (fun r b=>?_) fun r b=>?_
  ·refine q 9 rfl ?_
   cases b
   exact xo a
  ·refine q 7 rfl ?_
   cases b
   exact lo a
 ·refine q 2 rfl ?_
  cases b
  exact xo a
theorem slices_ContainsFunc_uint32_ok {c:LI} {d:Hdr} {out:Bool} (a:slices_ContainsFunc_uint32 c=some out) (f:imm (rI .u32) d.v c∈ros) (b:St w0 ros rs w):
  Calls prog 131 #[d.v,.func (.func 132) #[] #[]] w (fun e w=>e=.returned (.bool out)∧St w0 ros rs w):=by
 refine en func131 rfl ntmps131 fun Q g=>bE a fun i h a=>q 9 rfl (cZ (slices_IndexFunc_uint32_ok h f b) fun w b=>q 5 rfl ?_)
 cases a
 exact za g results131 ⟨rfl,b⟩
theorem integer_down_ok {m:LI} {k:Int} {n:Hdr} {out:LI×Bool} (b:integer_down m k=some out) (d:imm (rI .u32) n.v m∈ros) (a:St w0 ros rs w):
  Calls prog 92 #[n.v,iV k] w (fun e w=>∃ (o:Hdr),e=.returned (.tuple #[o.v,.bool out.2])∧St w0 (imm (rI .u32) o.v out.1::ros) rs w):=by
 refine en func92 rfl ntmps92 fun Q p=>q 22 rfl (y (yLen SL_38 e0 a (rdI d)) (q 3 rfl (cI b (fun B b=>?_) fun B b=>?_)))
 ·refine q 3 rfl (y (yLen SL_38 e0 a (rdI d)) (q 7 rfl ?_))
  cases b
  replace a:=a.immNh (rI .u32)
  exact p _ _ _ (fin2r results92 ⟨rfl,rfl⟩ ⟨rfl,rfl⟩ ⟨_,rfl,a⟩)
 ·refine q 6 rfl (bE b fun R r b=>y (ySl (k1:=.i64) SL_38 e0 a (rdI d) (.inr ⟨rfl,rfl⟩) (.inl (congrArg some e0)) r) ?_)
  replace a:=a.sub d r
  refine bE b fun S C b=>cZ (slices_ContainsFunc_uint32_ok C F0 a) fun w a=>bE b fun D f b=>q 1 rfl ?_
  refine jW 10 [0,6,7] [(38,.bool D)] (St w0 ros rs) rfl (fun s=>?_) ?_
  ·refine gJ 28 f rfl (fun E f=>?_) fun E f=>?_
   ·refine q 10 rfl ?_
    cases f
    exact s _ _ (a.fc) rfl
   ·refine q 2 rfl (bE f fun T t f=>y (yIa SL_38 e0 e0 a (rdI (mtF d)) t) (y (yI O_96 e0 a (rdI (mtF d)) t) (bE f fun U F f=>q 1 rfl (y (yshl rfl e0 F) (q 4 rfl ?_)))))
    cases f
    exact s _ _ (a.fc) rfl
  intro g w a
  refine q 6 rfl (y (yLen SL_38 e0 a (rdI d)) (bE b fun V G b=>q 2 rfl (yh (rMk a SL_38 e0 G) fun l w a=>q 7 rfl (y (yLen SL_38 e0 a rO0) (bE b fun u H b=>q 4 rfl ?_)))))
  refine lp H [0,6,7,8,9,45] (fun (h,i)=>[(46,iV i)]) (fun (h,i)=>St w0 ros (row 96 (rI .u32) l.v h::rs)) (fun | u=>(.exit 0,[],St w0 ros (row 96 (rI .u32) l.v u::rs))) rfl a rfl ?_ ?_
  ·clear a
   intro g w a
   refine bE b fun W I b=>q 5 rfl ?_
   replace a:=a.fz
   refine cO (integer_trim_ok I F0 a) fun X w a=>q 6 rfl ?_
   cases b
   exact p _ _ _ (fin2r results92 ⟨rfl,rfl⟩ ⟨rfl,rfl⟩ ⟨_,rfl,(a.facts (allC F0 (allT (allT allI))))⟩)
  rintro ⟨h,i⟩ g w J a c
  refine q 6 rfl (cI c (fun K c=>?_) fun K c=>?_)
  ·refine q 16 rfl (bE c fun Z x c=>y (yIa SL_38 e0 e0 a (rdI d) x) (y (yI O_96 e0 a (rdI d) x) (q 12 rfl (y (yLen SL_38 e0 a (rdI d)) (q 3 rfl ?_)))))
   refine jC Int [0,6,7,8,9,10,45,46] (fun j=>[(11,.int .u64 j)]) (fun j w=>St w0 ros (row 96 (rI .u32) l.v h::rs) w∧integer_down_j5 k h i j=some J) rfl ?_ ?_
   ·rintro j g w ⟨a,b⟩
    refine bE b fun L N b=>q 6 rfl (y (yshr e0 e0 N) (bE b fun a0 z b=>q 2 rfl (y (yIs SL_38 e0 e0 a rO0 z) (yt (r_sti (cs:=[.int .u32 (wc .u32 (wand .u64 L 4294967295))]) a O_96 rfl e0 e0 rfl mkI z) fun w a=>q 7 rfl ?_))))
    cases b
    exact lo a
   refine cI c (fun O c=>?_) fun O c=>?_
   ·exact q 7 rfl (bE c fun a1 A c=>y (yIa SL_38 e0 e0 a (rdI d) A) (y (yI O_96 e0 a (rdI d) A) (q 5 rfl (jx _ ⟨a,c⟩))))
   ·exact q 1 rfl (jx _ ⟨a,c⟩)
  ·refine q 2 rfl ?_
   cases c
   exact xo a
theorem integer_plus_ok {x z:LI} {A B:Hdr} {out:LI} (b:integer_plus x z=some out) (r:imm (rI .u32) A.v x∈ros) (s:imm (rI .u32) B.v z∈ros) (a:St w0 ros rs w):
  Calls prog 93 #[A.v,B.v] w (fun e w=>∃ (C:Hdr),e=.returned (C.v)∧St w0 (imm (rI .u32) C.v out::ros) rs w):=by
 refine en func93 rfl ntmps93 fun Q G=>q 9 rfl (y (yLen SL_38 e0 a (rdI r)) (q 1 rfl (y (yLen SL_38 e0 a (rdI s)) (q 3 rfl ?_))))
 refine jC (LI×LI×Hdr×Hdr) [] (fun (f,h,i,j)=>[(0,i.v),(1,j.v)]) (fun (f,h,i,j) w=>St w0 (imm (rI .u32) i.v f::imm (rI .u32) j.v h::ros) rs w∧integer_plus_j1 f h=some out) rfl ?_ ?_
 ·rintro ⟨f,h,i,j⟩ g w ⟨a,b⟩
  refine q 4 rfl (y (yLen SL_38 e0 a (rdI F0)) (bE b fun T H b=>q 1 rfl (yh (rMkc a SL_38 rfl e0 H) fun U w a=>q 12 rfl (y (yLen SL_38 e0 a (rdI F0)) (q 4 rfl ?_)))))
  obtain ⟨⟨D,k⟩,I,b⟩:=bs b
  refine lpN Hdr Hdr I [1,21,22] (fun (m,t,p) o=>[(5,o.v),(6,.int .u64 t),(23,iV p)]) (fun (m,t,p) o=>St w0 (imm (rI .u32) j.v h::imm (rI .u32) i.v f::ros) (row 96 (rI .u32) o.v m::rs)) (fun | (D,k),u=>(.exit 0,[(5,u.v),(6,.int .u64 k)],St w0 ros (row 96 (rI .u32) u.v D::rs))) rfl _ (a.facts (allC F1 (allC F0 (allT (allT allI))))) rfl ?_ ?_
  ·clear a
   rintro u g w a
   refine q 7 rfl (yh (rLt (n:=1) (l:=[wc .u32 k]) a SL_38 [.int .u32 (wc .u32 k)] (bp1 e0) rfl rfl (mks1 (cs:=[.int .u32 (wc .u32 k)]) rfl mkI mks0)) fun V w a=>bE b fun W J b=>?_)
   replace a:=a.k10
   refine yh (rAp a SL_38 e0 e0 rO1 J) fun X w a=>bE b fun Z K b=>?_
   replace a:=a.fz
   refine cO (integer_trim_ok K F0 a) fun a0 w a=>q 4 rfl ?_
   cases b
   exact G _ _ _ (fin1r results93 ⟨rfl,rfl⟩ ⟨_,rfl,((a.k14).facts (allC F0 (allT (allT allI))))⟩)
  rintro ⟨m,t,p⟩ o g w L a c
  refine q 6 rfl (cI c (fun N c=>?_) fun N c=>?_)
  ·refine q 7 rfl (bE c fun a1 E c=>y (yIa SL_38 e0 e0 a (rdI F1) E) (y (yI O_96 e0 a (rdI F1) E) (q 18 rfl (y (yLen SL_38 e0 a (rdI F0)) (q 3 rfl ?_)))))
   refine jC Int [1,5,21,22,23] (fun d=>[(9,.int .u64 d)]) (fun d w=>St w0 (imm (rI .u32) j.v h::imm (rI .u32) i.v f::ros) (row 96 (rI .u32) o.v m::rs) w∧integer_plus_j5 m p d=some L) rfl ?_ ?_
   ·rintro d g w ⟨a,b⟩
    refine q 7 rfl (yh (rLt (n:=1) (l:=[wc .u32 (wand .u64 d 4294967295)]) a SL_38 [.int .u32 (wc .u32 (wand .u64 d 4294967295))] (bp1 e0) rfl rfl (mks1 (cs:=[.int .u32 (wc .u32 (wand .u64 d 4294967295))]) rfl mkI mks0)) fun a2 w a=>bE b fun a3 O b=>?_)
    replace a:=a.k10
    refine yh (rAp a SL_38 e0 e0 rO1 O) fun a4 w a=>q 14 rfl ?_
    cases b
    exact ln _ (a.k11)
   refine cI c (fun R c=>?_) fun R c=>?_
   ·exact q 4 rfl (bE c fun a5 F c=>y (yIa SL_38 e0 e0 a (rdI F0) F) (y (yI O_96 e0 a (rdI F0) F) (q 4 rfl (jx _ ⟨a,c⟩))))
   ·exact q 1 rfl (jx _ ⟨a,c⟩)
  ·refine q 2 rfl ?_
   cases c
   exact lx _ (a.fc)
 refine cI b (fun S b=>?_) fun S b=>?_
 ·exact q 6 rfl (jx (_,_,_,_) ⟨(a.facts (allC s (allC r allI))),b⟩)
 ·exact q 1 rfl (jx (_,_,_,_) ⟨(a.facts (allC r (allC s allI))),b⟩)
theorem integer_Shift_ok {c:Bool} {r:LI} {f:Int} {d:Hdr} {out:Bool×LI×Int} (b:integer_Shift c r f=some out) (B:imm (rI .u32) d.v r∈ros) (a:St w0 ros rs w):
  Calls prog 42 #[.agg #[.bool c,d.v],iV f] w (fun e w=>∃ (s:Hdr),e=.returned (.tuple #[.agg #[.bool out.1,s.v],iV out.2.2])∧St w0 (imm (rI .u32) s.v out.2.1::ros) rs w):=by
 refine en func42 rfl ntmps42 fun Q j=>q 2 rfl (yb (r_box (vals:=[.bool c,d.v]) a e0 rfl) fun k w a=>yb (rAl a ZT_40) fun m w a=>q 9 rfl ?_)
 refine jW 3 [1,2,4] [(14,.bool ((decide (f < (-1048576))) || (decide ((1048576:Int) < f))))] (St w0 ros (box k 40 [.bool c,d.v]::box m 40 [.bool false,hnil.v]::rs)) rfl (fun t=>?_) ?_
 ·refine gB 11 rfl (fun o=>?_) fun o=>?_
  ·exact q 3 rfl (t _ _ (a.k10) (hasC (congrArg Value.bool (orT o)) rfl))
  ·exact q 3 rfl (t _ _ (a.k10) (hasC (congrArg Value.bool (orF o)) rfl))
 intro g w a
 refine q 2 rfl ?_
 refine cJ b (fun C b=>?_) fun C b=>?_
 ·refine q 2 rfl (y (ybuild (us:=[.bool false,hnil.v]) [] SO_40 bp0 rfl) ?_)
  replace a:=a.k10
  refine sB rfl a ST_40 fun w a=>q 5 rfl ?_
  cases b
  replace a:=a.immNh (rI .u32)
  exact j _ _ _ (fin2r results42 (rcs2 rfl rfl a R0 ST_40 rfl) ⟨rfl,rfl⟩ ⟨_,rfl,(a.k19)⟩)
 ·refine q 5 rfl (y (lb_ d.v O_38 e0 a R0) (bE b fun N D b=>cO (integer_trim_ok D B a) fun O w a=>q 10 rfl (cI b (fun E b=>?_) fun E b=>?_)))
  ·refine q 1 rfl (bE b fun R F b=>bE b fun u G b=>dR [0,1,0,0,12,31,63,127] [4,5,6,7] 4 folM ?_)
   replace a:=a.drew
   refine D1 [0,1,2,3] [] 4 rfl (qR 1 rfl (rQ rfl (lb_ (.bool c) O_4 e0 a R0) (qR 2 rfl (Rn QSn (kO (integer_up_ok F F0 a) fun S w a=>dU (D1 [] [0,1] 5 rfl (Rn (qS rfl (sY rfl (lb_ (.bool c) O_4 e0 a R0) QSn)) (kO (integer_big_ok G F0 a) fun x w a=>dU (D0 [] [] 6 rfl (Rn QSn ?_))))))))))
   replace a:=a.k10
   refine LT wn (r_stbn (vals':=[.bool u.1,x.v]) (us:=[.bool u.1,x.v]) a ST_40 e0 e0 rfl rfl (one_of rfl) rfl) fun w a=>D1 [] [] 7 rfl (Rn QSn (Ly wn (a_ (iV 0) rfl) (dU (Dz [] [] (Rn QSn (qx 3 rfl ?_))))))
   cases b
   exact j _ _ _ (fin2r results42 (rcs2 rfl rfl a R0 ST_40 rfl) ⟨rfl,rfl⟩ ⟨_,rfl,((a.k19).facts (allC F0 (allT (allT (allT allI)))))⟩)
  ·refine q 7 rfl (bE b fun z H b=>cO (integer_down_ok H F0 a) fun I w a=>q 11 rfl (y (lb_ (.bool c) O_4 e0 a R0) (q 1 rfl ?_)))
   refine jW 2 [2,4,7] [(38,.bool (c && z.2))] (St w0 (imm (rI .u32) I.v z.1::ros) (box k 40 [.bool c,d.v]::box m 40 [.bool false,hnil.v]::rs)) rfl (fun A=>?_) ?_
   ·refine gB 36 rfl (fun p=>?_) fun p=>?_
    ·exact q 2 rfl (A _ _ (a.facts (allC F0 (allT (allT allI)))) (hasC (congrArg Value.bool (andT p)) rfl))
    ·exact q 2 rfl (A _ _ (a.facts (allC F0 (allT (allT allI)))) (hasC (congrArg Value.bool (andF p)) rfl))
   intro g w a
   refine q 2 rfl ?_
   refine jC (LI×Hdr) [2,4] (fun (h,i)=>[(7,i.v)]) (fun (h,i) w=>St w0 (imm (rI .u32) i.v h::ros) (box k 40 [.bool c,d.v]::box m 40 [.bool false,hnil.v]::rs) w∧integer_Shift_j3 c h=some out) rfl ?_ ?_
   ·rintro ⟨h,i⟩ g w ⟨a,b⟩
    refine q 4 rfl (y (lb_ (.bool c) O_4 e0 a R0) (bE b fun T J b=>q 1 rfl (cO (integer_big_ok J F0 a) fun U w a=>?_)))
    replace a:=a.k10
    refine sB rfl a ST_40 fun w a=>q 4 rfl ?_
    cases b
    exact j _ _ _ (fin2r results42 (rcs2 rfl rfl a R0 ST_40 rfl) ⟨rfl,rfl⟩ ⟨_,rfl,((a.k19).facts (allC F0 (allT (allT allI))))⟩)
   refine cJ b (fun K b=>?_) fun K b=>?_
   ·refine q 2 rfl (yh (rLt (n:=1) (l:=[1]) a SL_38 [.int .u32 1] (bp1 rfl) rfl rfl (mks1 (cs:=[.int .u32 1]) rfl mkI mks0)) fun V w a=>bE b fun W L b=>?_)
    replace a:=a.fz
    exact cO (integer_plus_ok L F1 F0 a) fun X w a=>q 2 rfl (jx (_,_) ⟨(a.facts (allC F0 (allT (allT (allT allI))))),b⟩)
   ·exact q 1 rfl (jx (_,_) ⟨a,b⟩)
theorem dyad_right_ok {i:Bool} {n:LI} {o:Int} {j:Hdr} {out:Bool×LI} (c:dyad_right i n o=some out) (x:imm (rI .u32) j.v n∈ros) (a:St w0 ros rs w):
  Calls prog 130 #[.agg #[.bool i,j.v],iV o] w (fun e w=>∃ (p:Hdr),e=.returned (.agg #[.bool out.1,p.v])∧St w0 (imm (rI .u32) p.v out.2::ros) rs w):=by
 refine en func130 rfl ntmps130 fun Q z=>q 2 rfl (yb (r_box (vals:=[.bool i,j.v]) a e0 rfl) fun r w a=>yb (rAl a ZT_40) fun s w a=>q 4 rfl ?_)
 obtain ⟨⟨t,k,u⟩,A,c⟩:=bs c
 refine lpN Hdr Hdr A [2,4] (fun (l,f,m) d=>[(1,iV l)]) (fun (l,f,m) d=>St w0 (imm (rI .u32) d.v m::ros) (box r 40 [.bool f,d.v]::box s 40 [.bool false,hnil.v]::rs)) (fun | (t,k,u),h=>(.exit 0,[(1,iV t)],St w0 (imm (rI .u32) h.v u::ros) (box r 40 [.bool k,h.v]::box s 40 [.bool false,hnil.v]::rs))) rfl _ ((a.k10).facts (allC x allI)) rfl ?_ ?_
 ·clear a
  rintro h g w a
  refine q 4 rfl (y (lbs_ [.bool k,h.v] ST_40 e0 a R0) (bE c fun B C c=>q 2 rfl (cO (integer_Shift_ok C F0 a) fun D w a=>q 3 rfl (sB rfl a ST_40 fun w a=>q 4 rfl (y (lbs_ [.bool B.1,D.v] ST_40 e0 a R0) ?_)))))
  replace a:=a.k10
  refine sB rfl a ST_40 fun w a=>q 3 rfl ?_
  cases c
  exact z _ _ _ (fin1r results130 (rcs2 rfl rfl a R0 ST_40 rfl) ⟨_,rfl,((a.k19).facts (allC F0 (allT (allT allI))))⟩)
 rintro ⟨l,f,m⟩ d g w G a b
 refine q 7 rfl (cI b (fun E b=>?_) fun E b=>?_)
 ·refine q 5 rfl (y (lbs_ [.bool f,d.v] ST_40 e0 a R0) (bE b fun H F b=>cO (integer_Shift_ok F F0 a) fun I w a=>q 3 rfl (sB rfl a ST_40 fun w a=>q 8 rfl ?_)))
  cases b
  exact ln _ (a.facts (allC F0 (allT (allT allI))))
 ·refine q 2 rfl ?_
  cases b
  exact lx _ a
theorem dyad_norm_ok {h i:Bool} {s:LI} {c:Int} {j:Hdr} {out:Bool×Bool×LI×Int×Bool} (b:dyad_norm h i s c=some out) (x:imm (rI .u32) j.v s∈ros) (z:globF∈ros) (a:St w0 ros rs w):
  Calls prog 87 #[.agg #[.bool h,.bool i,j.v,iV c]] w (fun e w=>∃ (t:Hdr),e=.returned (.tuple #[.agg #[.bool out.1,.bool out.2.1,t.v,iV out.2.2.2.1],.bool out.2.2.2.2])∧St w0 (imm (rI .u32) t.v out.2.2.1::ros) rs w):=by
 refine en func87 rfl ntmps87 fun Q l=>q 2 rfl (yb (r_box (vals:=[.bool h,.bool i,j.v,iV c]) a e0 rfl) fun A w a=>yb (rAl a ZT_53) fun B w a=>q 7 rfl (y (lb_ (.bool h) O_4 e0 a R1) (q 2 rfl ?_)))
 refine cJ b (fun C b=>?_) fun C b=>?_
 ·refine q 2 rfl (bE b fun R D b=>cZ (dyad_bad_ok D a) fun w a=>sB rfl a ST_53 fun w a=>q 5 rfl ?_)
  cases b
  replace a:=a.immNh (rI .u32)
  exact l _ _ _ (fin2r results87 (rcs2 rfl rfl a R0 ST_53 rfl) ⟨rfl,rfl⟩ ⟨_,rfl,(a.k19)⟩)
 ·refine q 5 rfl (y (lbs_ [.bool i,j.v] ST_40 e0 a R1) (bE b fun d E b=>cO (integer_Norm_ok E x a) fun f w a=>yb (rAl a ZT_40) fun F w a=>sB rfl a ST_40 fun w a=>q 5 rfl (y (lbs_ [.bool d.1,f.v] ST_40 e0 a R0) (bE b fun S G b=>cZ (integer_Sign_ok G F0 a) fun w a=>q 3 rfl (cI b (fun H b=>?_) fun H b=>?_)))))
  ·refine q 2 rfl (y (ybuild (us:=[.bool false,.bool false,hnil.v,iV 0]) [] SO_53 bp0 rfl) ?_)
   replace a:=a.k10
   refine sB rfl a ST_53 fun w a=>q 5 rfl ?_
   cases b
   replace a:=a.immNh (rI .u32)
   exact l _ _ _ (fin2r results87 (rcs2 rfl rfl a R0 ST_53 rfl) ⟨rfl,rfl⟩ ⟨_,rfl,((a.k1b).facts (allC F0 (allT (allT allI))))⟩)
  ·refine q 4 rfl (y (lbs_ [.bool d.1,f.v] ST_40 e0 a R0) (bE b fun m I b=>cZ (integer_TrailingZeros_ok I F0 (mtF z) a) fun w a=>bE b fun T u b=>bE b fun p k b=>q 5 rfl ?_))
   refine jN Unit [1,2,4,5] (fun _=>[(30,.bool p)]) (fun _=>St w0 (imm (rI .u32) f.v d.2::ros) (box A 53 [.bool h,.bool i,j.v,iV c]::box B 53 [.bool false,.bool false,hnil.v,iV 0]::box F 40 [.bool d.1,f.v]::rs)) rfl ?_ ?_
   ·rcases iteS k with ⟨r,k⟩ | ⟨r,k⟩
    ·have J:=someI k
     refine dR [0,1,0,4,12,31,63,127,255,127,639,2047,4095] [3] 1 folM ?_
     replace a:=a.drew
     exact D1 [0,1,2] [] 3 rfl (qR 1 rfl (rQ rfl (lb_ (iV c) O_3 e0 a R2) (rQ rfl (lbs_ [.bool d.1,f.v] ST_40 e0 a R0) (Rn QSn (kZ (integer_BitLen_ok u F0 a) fun w a=>dU (Dz [4,5,6,7,8,9,10,11,12] [0,1] (qR 3 rfl (rK 24 rfl (dT r) (qR 5 rfl (rQ rfl (pt_ (.bool p) e0 rfl (eqv J rfl)) (Rn (qS rfl (sY rfl (lb_ (iV c) O_3 e0 a R2) QSn)) (jr () (a.k18)))))))))))))
    ·have K:=someI k
     refine dR [0,1,0,4,12,31,63,127,255,127,639,2047,4095] [3] 1 folM ?_
     replace a:=a.drew
     refine D1 [0,1,2] [] 3 rfl (qR 1 rfl (rQ rfl (lb_ (iV c) O_3 e0 a R2) (rQ rfl (lbs_ [.bool d.1,f.v] ST_40 e0 a R0) (Rn QSn (kZ (integer_BitLen_ok u F0 a) fun w a=>dU (Dz [4,5,6,7,8,9,10,11,12] [0,1] (qR 3 rfl (rK 24 rfl (dF r) (qR 1 rfl (rQ rfl (lb_ (iV c) O_3 e0 a R2) (qR 3 rfl (rQ rfl (pf_ (.bool p) e0 rfl (eqv K e0)) ?_))))))))))))
     exact Rn (qS rfl (sY rfl (lb_ (iV c) O_3 e0 a R2) QSn)) (jr () (a.k18))
   rintro _ g w a
   refine q 1 rfl ?_
   refine cJ b (fun L b=>?_) fun L b=>?_
   ·refine q 2 rfl (bE b fun U N b=>cZ (dyad_bad_ok N a) fun w a=>?_)
    replace a:=a.k10
    refine sB rfl a ST_53 fun w a=>q 5 rfl ?_
    cases b
    replace a:=a.immNh (rI .u32)
    exact l _ _ _ (fin2r results87 (rcs2 rfl rfl a R0 ST_53 rfl) ⟨rfl,rfl⟩ ⟨_,rfl,((a.k1b).facts (allC F0 (allT (allT allI))))⟩)
   ·refine q 3 rfl (bE b fun n O b=>dR [0,0,3,0,8,0,56,127,255,511] [2,8,9] 3 folM ?_)
    replace a:=a.drew
    refine D1 [0,1,3,4,5,6] [] 2 rfl (rQ rfl (lbs_ [.bool d.1,f.v] ST_40 e0 a R2) (qR 2 rfl (rQ rfl (lb_ (iV c) O_3 e0 a R0) (qR 2 rfl (Rn QSn (kO (dyad_right_ok O F0 a) fun o w a=>dU (D0 [7] [3,4,5,6] 8 rfl (rQ rfl (ybuild (us:=[.bool false,.bool n.1,o.v,iV (wa .i64 c m)]) [(1,.agg #[.bool n.1,o.v]),(2,iV (wa .i64 c m))] SO_53 (bp2 e0 e0) rfl) (Rn (qS rfl (sY rfl (lb_ (iV c) O_3 e0 a R0) (qS rfl (qS rfl QSn)))) ?_)))))))))
    replace a:=a.k10
    refine LT wn (r_stbn (vals':=[.bool false,.bool n.1,o.v,iV (wa .i64 c m)]) (us:=[.bool false,.bool n.1,o.v,iV (wa .i64 c m)]) a ST_53 e0 e0 rfl rfl (one_of rfl) rfl) fun w a=>D1 [] [] 9 rfl (Rn QSn (Ly wn (a_ (.bool true) rfl) (dU (Dz [] [] (Rn QSn (qx 2 rfl ?_))))))
    cases b
    exact l _ _ _ (fin2r results87 (rcs2 rfl rfl a R0 ST_53 rfl) ⟨rfl,rfl⟩ ⟨_,rfl,((a.k1b).facts (allC F0 (allT (allT allI))))⟩)
theorem dyad_Make_ok {b:Bool} {h:LI} {d:Int} {c:Hdr} {out:Bool×Bool×LI×Int} (f:dyad_Make b h d=some out) (j:imm (rI .u32) c.v h∈ros) (k:globF∈ros) (a:St w0 ros rs w):
  Calls prog 86 #[.agg #[.bool b,c.v],iV d] w (fun e w=>∃ (i:Hdr),e=.returned (.agg #[.bool out.1,.bool out.2.1,i.v,iV out.2.2.2])∧St w0 (imm (rI .u32) i.v out.2.2.1::ros) rs w):=by
 refine en func86 rfl ntmps86 fun Q l=>q 2 rfl (yb (r_box (vals:=[.bool b,c.v]) a e0 rfl) fun o w a=>yb (rAl a ZT_53) fun p w a=>q 4 rfl (y (lbs_ [.bool b,c.v] ST_40 e0 a R1) (q 1 rfl (y (ybuild (us:=[.bool false,.bool b,c.v,iV d]) [(1,.agg #[.bool b,c.v]),(2,iV d)] SO_53 (bp2 e0 e0) rfl) (bE f fun g m f=>cO (dyad_norm_ok m j k a) fun n w a=>q 3 rfl (yb (rAl a ZT_53) ?_))))))
 refine fun r w a=>sB rfl a ST_53 fun w a=>q 5 rfl (y (lbs_ [.bool g.1,.bool g.2.1,n.v,iV g.2.2.2.1] ST_53 e0 a R0) ?_)
 replace a:=a.k10
 refine sB rfl a ST_53 fun w a=>q 3 rfl ?_
 cases f
 exact l _ _ _ (fin1r results86 (rcs2 rfl rfl a R0 ST_53 rfl) ⟨_,rfl,(a.k1b)⟩)
theorem float_Of_ok {j:Int} {out:Bool×Bool×LI×Int} (b:float_Of j=some out) (n:globF∈ros) (a:St w0 ros rs w):
  Calls prog 39 #[.int .u64 j] w (fun e w=>∃ (k:Hdr),e=.returned (.agg #[.bool out.1,.bool out.2.1,k.v,iV out.2.2.2])∧St w0 (imm (rI .u32) k.v out.2.2.1::ros) rs w):=by
 refine en func39 rfl ntmps39 fun Q l=>q 2 rfl (yb (rAl a ZT_53) fun m w a=>bE b fun D o b=>q 5 rfl (cZ (float_parts_ok o a) fun w a=>q 20 rfl (cI b (fun p b=>?_) fun p b=>?_)))
 ·refine q 2 rfl (y (ybuild (us:=[.bool true,.bool false,hnil.v,iV 0]) [(0,.bool true)] SO_53 (bp1 rfl) rfl) (sB rfl a ST_53 fun w a=>q 5 rfl ?_))
  cases b
  replace a:=a.immNh (rI .u32)
  exact l _ _ _ (fin1r results39 (rcs2 rfl rfl a R0 ST_53 rfl) ⟨_,rfl,(a.k14)⟩)
 ·refine q 6 rfl ?_
  refine jC (Int×Int) [0,2] (fun (c,h)=>[(3,iV c),(4,.int .u64 h)]) (fun (c,h) w=>St w0 ros (box m 53 [.bool false,.bool false,hnil.v,iV 0]::rs) w∧float_Of_j1 j c h=some out) rfl ?_ ?_
  ·rintro ⟨c,h⟩ g w ⟨a,b⟩
   refine bE b fun r s b=>q 6 rfl (cO (integer_FromInt_ok s a) fun t w a=>yb (rAl a ZT_40) fun u w a=>sB rfl a ST_40 fun w a=>bE b fun E x b=>q 6 rfl (cZ (float_negative_ok x a) fun w a=>q 2 rfl ?_))
   refine jC (Bool×LI×Hdr) [2,3,5] (fun (d,i,f)=>[]) (fun (d,i,f) w=>St w0 (imm (rI .u32) f.v i::ros) (box m 53 [.bool false,.bool false,hnil.v,iV 0]::box u 40 [.bool d,f.v]::rs) w∧float_Of_j2 c d i=some out) rfl ?_ ?_
   ·rintro ⟨d,i,f⟩ g w ⟨a,b⟩
    refine q 3 rfl (y (lbs_ [.bool d,f.v] ST_40 e0 a R1) (bE b fun F z b=>q 1 rfl (cO (dyad_Make_ok z F0 (mtF n) a) fun G w a=>sB rfl a ST_53 fun w a=>q 3 rfl ?_)))
    cases b
    exact l _ _ _ (fin1r results39 (rcs2 rfl rfl a R0 ST_53 rfl) ⟨_,rfl,((a.k19).facts (allC F0 (allT (allT allI))))⟩)
   refine cJ b (fun A b=>?_) fun A b=>?_
   ·exact q 1 rfl (y (lbs_ [.bool r.1,t.v] ST_40 e0 a R0) (bE b fun H B b=>cO (integer_Neg_ok B F0 a) fun I w a=>sB rfl a ST_40 fun w a=>q 1 rfl (jx (_,_,_) ⟨((a.k10).facts (allC F0 (allT (allT allI)))),b⟩)))
   ·exact q 1 rfl (jx (_,_,_) ⟨(a.k10),b⟩)
  refine cI b (fun C b=>?_) fun C b=>?_
  ·exact q 3 rfl (jx (_,_) ⟨a,b⟩)
  ·exact q 12 rfl (jx (_,_) ⟨a,b⟩)
theorem dyad_Sign_ok {c d:Bool} {h:LI} {f:Int} {g:Hdr} {out:Int} (b:dyad_Sign c d h f=some out) (i:imm (rI .u32) g.v h∈ros) (j:globF∈ros) (a:St w0 ros rs w):
  Calls prog 40 #[.agg #[.bool c,.bool d,g.v,iV f]] w (fun e w=>e=.returned (iV out)∧St w0 ros rs w):=by
 refine en func40 rfl ntmps40 fun Q k=>q 2 rfl (yb (r_box (vals:=[.bool c,.bool d,g.v,iV f]) a e0 rfl) fun p w a=>q 5 rfl (y (lbs_ [.bool c,.bool d,g.v,iV f] ST_53 e0 a R0) (bE b fun l m b=>cO (dyad_norm_ok m i j a) fun n w a=>q 3 rfl (sB rfl a ST_53 fun w a=>q 5 rfl (y (lbs_ [.bool l.2.1,n.v] ST_40 e0 a R0) (bE b fun r o b=>?_))))))
 refine cZ (integer_Sign_ok o F0 a) fun w a=>q 4 rfl ?_
 cases b
 exact za k results40 ⟨rfl,((a.k14).fc)⟩
theorem matrix_entries_ok {k h:Int} {D E F:LI} {d i j:Hdr} {out:(List (Int×Int×Int))} (t:matrix_entries k h D E F=some out) (p:imm I1 d.v D∈ros) (G:imm I1 i.v E∈ros) (H:imm (rI .u64) j.v F∈ros) (a:St w0 ros rs w):
  Calls prog 41 #[.agg #[iV k,iV h,d.v,i.v,j.v]] w (fun e w=>∃ (I:Hdr),e=.returned (I.v)∧St w0 ros (row 85 rTi64i64u64 I.v out::rs) w):=by
 refine en func41 rfl ntmps41 fun Q S=>q 2 rfl (yb (r_box (vals:=[iV k,iV h,d.v,i.v,j.v]) a e0 rfl) fun u w a=>q 12 rfl (y (lb_ (iV h) O_3 e0 a R0) (bE t fun J T t=>q 4 rfl ?_)))
 replace a:=a.rowNh 85 rTi64i64u64
 refine lpN Hdr Hdr T [1,7] (fun (x,f) r=>[(3,r.v),(8,iV f)]) (fun (x,f) r=>St w0 ros (box u 26 [iV k,iV h,d.v,i.v,j.v]::row 85 rTi64i64u64 r.v x::rs)) (fun | J,z=>(.exit 0,[(3,z.v)],St w0 ros (row 85 rTi64i64u64 z.v J::rs))) rfl _ (a.k10) rfl ?_ ?_
 ·clear a
  rintro z g w a
  refine q 9 rfl ?_
  cases t
  exact S _ _ _ (fin1r results41 ⟨rfl,rfl⟩ ⟨_,rfl,a⟩)
 rintro ⟨x,f⟩ r g w a0 a c
 refine q 6 rfl (cI c (fun U c=>?_) fun U c=>?_)
 ·refine q 13 rfl (y (lb_ d.v O_23 e0 a R0) (bE c fun a1 K c=>q 1 rfl (y (yIa SL_23 e0 e0 a (rdI p) K) (y (yI O_3 e0 a (rdI p) K) (bE c fun L V c=>q 4 rfl ?_)))))
  refine lpN Hdr Hdr V [1,4,7,8] (fun (A,B) s=>[(3,s.v),(5,iV B)]) (fun (A,B) s=>St w0 ros (box u 26 [iV k,iV h,d.v,i.v,j.v]::row 85 rTi64i64u64 s.v A::rs)) (fun | L,C=>(.exit 2,[(3,C.v)],St w0 ros (box u 26 [iV k,iV h,d.v,i.v,j.v]::row 85 rTi64i64u64 C.v L::rs))) rfl _ a rfl ?_ ?_
  ·clear a
   rintro C g w a
   refine q 7 rfl ?_
   cases c
   exact ln _ a
  rintro ⟨A,B⟩ s g w a2 a b
  refine q 5 rfl (y (lb_ d.v O_23 e0 a R0) (bE b fun a3 N b=>q 2 rfl (y (yIa SL_23 e0 e0 a (rdI p) N) (y (yI O_3 e0 a (rdI p) N) (q 3 rfl (cI b (fun W b=>?_) fun W b=>?_))))))
  ·refine q 4 rfl (bE b fun m O b=>bE b fun o R b=>bE b fun a4 X b=>dR [0,0,2,0,14,30,0,0,128,0,896,1920,4094,8190,16383,32767] [13,14,15] 3 folM ?_)
   replace a:=a.drew
   refine D1 [0,1,2,3,4,5,6,7,8,9,10,11,12] [] 13 rfl (qR 2 rfl (rQ rfl (lb_ i.v O_23 e0 a R0) (qR 1 rfl (rQ rfl (yIa SL_23 e0 e0 a (rdI G) O) (rQ rfl (yI O_3 e0 a (rdI G) O) (qR 2 rfl (rQ rfl (lb_ j.v O_24 e0 a R0) (qR 1 rfl (rQ rfl (yIa SL_24 e0 e0 a (rdI H) R) (rQ rfl (yI O_47 e0 a (rdI H) R) (rQ rfl (ybuild (us:=[iV m,iV f,.int .u64 o]) [(0,iV m),(1,iV f),(2,.int .u64 o)] SO_85 (bp3 e0 e0 e0) rfl) (Rn QSn (LH wn (rLt (n:=1) (l:=[(m,f,o)]) a SL_82 [.agg #[iV m,iV f,.int .u64 o]] (bp1 e0) rfl rfl (mks1 (cs:=[iV m,iV f,.int .u64 o]) rfl (mkF rfl) mks0)) ?_)))))))))))))
   refine fun a5 w a=>dU (D1 [] [0] 14 rfl (Rn (qS rfl QSn) ?_))
   replace a:=a.k16
   refine LH wn (rAp a SL_82 e0 e0 rO1 X) fun Z w a=>dU (D1 [] [] 15 rfl (Rn QSn (Ly wn (a_ Z.v e0) (dU (Dz [] [] (Rn QSn (qx 7 rfl ?_)))))))
   cases b
   exact ln _ (a.k1y)
  ·refine q 2 rfl ?_
   cases b
   exact lx _ a
 ·refine q 2 rfl ?_
  cases c
  exact lx _ (a.k12)
end Go.Proofs.YtcoaljcfifecgagGreatDoor
