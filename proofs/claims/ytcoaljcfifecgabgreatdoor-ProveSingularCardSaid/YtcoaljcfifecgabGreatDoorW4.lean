/- Walks: each function computes its model, printed. -/
import Derived.Test.YtcoaljcfifecgabGreatDoorW3
namespace Go.Proofs.YtcoaljcfifecgabGreatDoor
open Go Sx M Go.Proofs.Tryz
set_option maxRecDepth 100000
set_option maxHeartbeats 40000000
set_option linter.unusedVariables false
attribute [local irreducible] wpList Code.wp Calls DR QR QS LA LS St row box fam imm rowS loop
variable {w0:World} {ros:List Fact} {rs:List Res} {w:World}
theorem w_bu {d:LI} {f:Hdr} {out:Int} (c:m_c1 d=some out) (o:imm (rI .u64) f.v d∈ros) (a:St w0 ros rs w):
  Calls prog 121 #[f.v,.func (.func 70) #[] #[]] w (fun e w=>e=.returned (iV out)∧St w0 ros rs w):=by
 refine en func121 rfl ntmps121 fun Q h=>?_
 refine z 1 4 ?_
 refine bE c fun j k c=>?_
 refine lp k [0,1,7] (fun b=>[(8,iV b)]) (fun b=>St w0 ros rs) (fun | .inl ()=>(.exit 0,[],St w0 ros rs) | .inr i=>(.ret,[(4,iV i)],St w0 ros rs)) rfl a rfl ?_ ?_
 ·clear a
  intro g w a
  rcases j with ⟨⟩ | i
  ·refine q 8 rfl ?_
   cases c
   exact za h results121 ⟨rfl,a⟩
  ·refine q 2 rfl ?_
   cases c
   exact za h results121 ⟨rfl,a⟩
 rintro b g w p a c
 refine q 6 rfl (cI c (fun l c=>?_) fun l c=>?_)
 ·refine z 2 0 ?_;intro r s c
  refine bE c fun t m c=>yC (yCallw FN_70 e0 (a1 e0)) (w_bt m a) ?_
  rintro _ w ⟨rfl,a⟩
  refine ⟨_,rfl,?_⟩
  refine nf (q 2 rfl ?_)
  refine cJ c (fun n c=>?_) fun n c=>?_
  ·refine q 9 rfl ?_
   cases c
   exact xo a
  ·refine q 7 rfl ?_
   cases c
   exact lo a
 ·refine q 2 rfl ?_
  cases c
  exact xo a
instance:CL prog 121 (type_of% @w_bu):=⟨@w_bu⟩
theorem w_bv {b:LI} {d:Hdr} {out:Bool} (c:m_c2 b=some out) (g:imm (rI .u64) d.v b∈ros) (a:St w0 ros rs w):
  Calls prog 69 #[d.v,.func (.func 70) #[] #[]] w (fun e w=>e=.returned (.bool out)∧St w0 ros rs w):=by
 refine en func69 rfl ntmps69 fun Q f=>?_
 refine z 1 5 ?_;intro h i c w a
 cases c
 exact za f results69 ⟨rfl,a⟩
instance:CL prog 69 (type_of% @w_bv):=⟨@w_bv⟩
theorem w_bw {d f:Int} {n l o:LI} {h i j:Hdr} {out:Int} (c:m_c3 d f n l o=some out) (B:imm I1 h.v n∈ros) (C:imm I1 i.v l∈ros) (D:imm (rI .u64) j.v o∈ros) (a:St w0 ros rs w):
  Calls prog 30 #[.agg #[iV d,iV f,h.v,i.v,j.v]] w (fun e w=>e=.returned (iV out)∧St w0 ros rs w):=by
 refine en func30 rfl ntmps30 fun Q k=>?_
 refine z 3 2 ?_;intro p w a E F c w a
 refine bE c fun r b c=>?_
 refine jW 5 [1] [(13,.bool r)] (St w0 ros (box p 26 [iV d,iV f,h.v,i.v,j.v]::rs)) rfl (fun s=>?_) ?_
 ·refine gJn 8 b rfl (fun u b=>?_) fun u b=>?_
  ·refine z 1 0 ?_
   refine bE b fun G H b=>?_
   refine z 1 2 ?_;intro w a
   cases b
   exact s _ _ a rfl
  ·refine q 5 rfl ?_
   cases b
   exact s _ _ a rfl
 intro g w a
 refine q 1 rfl ?_
 refine jW 5 [1] [(19,.bool (r || (decide ((10000:Int) < (l.length:Int)))))] (St w0 ros (box p 26 [iV d,iV f,h.v,i.v,j.v]::rs)) rfl (fun t=>?_) ?_
 ·refine gB 14 rfl (fun m=>?_) fun m=>?_
  ·exact q 5 rfl (t _ _ a (hasC (congrArg Value.bool (orT m)) rfl))
  ·refine z 2 2 ?_
   exact t _ _ a (hasC (congrArg Value.bool (orF m)) rfl)
 intro g w a
 refine q 3 rfl ?_
 refine cJ c (fun x c=>?_) fun x c=>?_
 ·refine q 8 rfl ?_
  cases c
  exact za k results30 ⟨rfl,(a.k13)⟩
 ·refine z 2 4 ?_;intro I J c w a
  refine cJn c (fun y c=>?_) fun y c=>?_
  ·refine z 2 3 ?_;intro K L c w a
   refine cJ c (fun A c=>?_) fun A c=>?_
   ·refine q 8 rfl ?_
    cases c
    exact za k results30 ⟨rfl,(a.k13)⟩
   ·refine q 9 rfl ?_
    cases c
    exact za k results30 ⟨rfl,(a.k13)⟩
  ·refine q 8 rfl ?_
   cases c
   exact za k results30 ⟨rfl,(a.k13)⟩
instance:CL prog 30 (type_of% @w_bw):=⟨@w_bw⟩
theorem w_bx {f:LI} {h:Hdr} {out:LI} (c:m_c5 f=some out) (i:imm (rI .u32) h.v f∈ros) (a:St w0 ros rs w):
  Calls prog 78 #[h.v] w (fun e w=>∃ (j:Hdr),e=.returned (j.v)∧St w0 (imm (rI .u32) j.v out::ros) rs w):=by
 refine en func78 rfl ntmps78 fun Q n=>?_
 refine z 1 5 ?_
 refine bE c fun k o c=>?_
 refine lp o [0] (fun d=>[(3,iV d)]) (fun d=>St w0 ros rs) (fun | k=>(.exit 0,[(3,iV k)],St w0 ros rs)) rfl a rfl ?_ ?_
 ·clear a
  intro g w a
  refine bE c fun t l c=>q 6 rfl (y (ySl (k1:=.i64) SL_47 e0 a (rdI i) (.inr ⟨rfl,rfl⟩) (.inl (congrArg some e0)) l) ?_)
  replace a:=a.sub i l
  refine q 4 rfl ?_
  cases c
  exact n _ _ _ (fin1r results78 ⟨rfl,rfl⟩ ⟨_,rfl,a⟩)
 rintro d g w u a c
 refine bE c fun p b c=>q 6 rfl ?_
 refine jW 7 [0,3] [(15,.bool p)] (St w0 ros rs) rfl (fun m=>?_) ?_
 ·refine gI 8 b rfl (fun r b=>?_) fun r b=>?_
  ·refine q 3 rfl (bE b fun x A b=>?_)
   refine z 2 2 ?_
   cases b
   exact m _ _ a rfl
  ·refine q 7 rfl ?_
   cases b
   exact m _ _ a rfl
 intro g w a
 refine q 2 rfl ?_
 refine cJ c (fun s c=>?_) fun s c=>?_
 ·refine q 9 rfl ?_
  cases c
  exact lo a
 ·refine q 2 rfl ?_
  cases c
  exact xo a
instance:CL prog 78 (type_of% @w_bx):=⟨@w_bx⟩
theorem w_by {b:Bool} {d:LI} {f:Hdr} {out:Bool×LI} (c:m_c6 b d=some out) (j:imm (rI .u32) f.v d∈ros) (a:St w0 ros rs w):
  Calls prog 79 #[.bool b,f.v] w (fun e w=>∃ (g:Hdr),e=.returned (.agg #[.bool out.1,g.v])∧St w0 (imm (rI .u32) g.v out.2::ros) rs w):=by
 refine en func79 rfl ntmps79 fun Q h=>?_
 refine z 3 3 ?_;intro k w a l m c n w a
 refine cI c (fun i c=>?_) fun i c=>?_
 ·refine z 2 4 ?_;intro w a
  cases c
  replace a:=a.immNh (rI .u32)
  exact h _ _ _ (fin1r results79 (rcs2 rfl rfl a R0 ST_49 rfl) ⟨_,rfl,((a.k13).facts (allC F0 (allT (allT allI))))⟩)
 ·refine z 2 3 ?_;intro w a
  cases c
  exact h _ _ _ (fin1r results79 (rcs2 rfl rfl a R0 ST_49 rfl) ⟨_,rfl,(a.k13)⟩)
instance:CL prog 79 (type_of% @w_by):=⟨@w_by⟩
theorem w_bz {d:Int} {out:Bool×LI} (c:m_c8 d=some out) (a:St w0 ros rs w):
  Calls prog 37 #[iV d] w (fun e w=>∃ (f:Hdr),e=.returned (.agg #[.bool out.1,f.v])∧St w0 (imm (rI .u32) f.v out.2::ros) rs w):=by
 refine en func37 rfl ntmps37 fun Q h=>?_
 refine z 1 16 ?_;intro i w a
 refine jC Int [0,2] (fun b=>[(3,.int .u64 b)]) (fun b w=>St w0 ros (box i 49 [.bool false,hnil.v]::rs) w∧m_c7 d b=some out) rfl ?_ ?_
 ·rintro b g w ⟨a,c⟩
  refine q 11 rfl (yh (rLt (n:=2) (l:=[wc .u32 (wand .u64 b 4294967295),wc .u32 (wsrc .u64 b 32)]) a SL_47 [.int .u32 (wc .u32 (wand .u64 b 4294967295)),.int .u32 (wc .u32 (wsrc .u64 b 32))] (bp2 e0 e0) rfl rfl (mks1 (cs:=[.int .u32 (wc .u32 (wand .u64 b 4294967295))]) rfl mkI (mks1 (cs:=[.int .u32 (wc .u32 (wsrc .u64 b 32))]) rfl mkI mks0))) fun k w a=>?_)
  refine z 2 3 ?_;intro m o c p w a w a
  cases c
  exact h _ _ _ (fin1r results37 (rcs2 rfl rfl a R0 ST_49 rfl) ⟨_,rfl,((a.k13).facts (allC F0 (allT (allT allI))))⟩)
 refine cI c (fun j c=>?_) fun j c=>?_
 ·exact q 5 rfl (jx _ ⟨a,c⟩)
 ·exact q 1 rfl (jx _ ⟨a,c⟩)
instance:CL prog 37 (type_of% @w_bz):=⟨@w_bz⟩
theorem w_b0 {b:Int} {out:Bool} (c:m_c9 b=some out) (a:St w0 ros rs w):
  Calls prog 73 #[.int .u64 b] w (fun e w=>e=.returned (.bool out)∧St w0 ros rs w):=by
 refine en func73 rfl ntmps73 fun Q d=>q 14 rfl ?_
 cases c
 exact za d results73 ⟨rfl,a⟩
instance:CL prog 73 (type_of% @w_b0):=⟨@w_b0⟩
theorem w_b1 {f:LI} {d:Hdr} {out:LI} (c:m_da f=some out) (i:imm (rI .u32) d.v f∈ros) (a:St w0 ros rs w):
  Calls prog 122 #[d.v] w (fun e w=>∃ (g:Hdr),e=.returned (g.v)∧St w0 ros (row 94 (rI .u32) g.v out::rs) w):=by
 refine en func122 rfl ntmps122 fun Q h=>q 9 rfl (y (yenil SL_47 e0 rfl) (q 2 rfl ?_))
 rcases nilS d with b | b
 ·refine kT b ?_
  obtain rfl:=nilE b i a
  replace c:=nilM c
  refine q 7 rfl ?_
  cases c
  replace a:=a.rowNh 94 (rI .u32)
  exact h _ _ _ (fin1r results122 ⟨rfl,rfl⟩ ⟨_,rfl,a⟩)
 ·refine kF b (q 4 rfl (yh (rLt (n:=0) (l:=[]) a SL_47 [] bp0 rfl rfl mks0) fun j w a=>?_))
  refine z 1 4 ?_;intro k m c o w a
  cases c
  exact h _ _ _ (fin1r results122 ⟨rfl,rfl⟩ ⟨_,rfl,a⟩)
instance:CL prog 122 (type_of% @w_b1):=⟨@w_b1⟩
theorem w_b2 {b:Bool} {d:LI} {f:Hdr} {out:Bool×LI} (c:m_db b d=some out) (i:imm (rI .u32) f.v d∈ros) (a:St w0 ros rs w):
  Calls prog 74 #[.agg #[.bool b,f.v]] w (fun e w=>∃ (g:Hdr),e=.returned (.agg #[.bool out.1,g.v])∧St w0 (imm (rI .u32) g.v out.2::ros) rs w):=by
 refine en func74 rfl ntmps74 fun Q h=>?_
 refine z 2 3 ?_;intro j w a k w a
 refine bE c fun l m c=>bE c fun n o c=>dS [5,6,7] 3 folM ?_
 replace a:=a.drew
 refine z 5 2 ?_;intro p w a q w a w a
 cases c
 exact h _ _ _ (fin1r results74 (rcs2 rfl rfl a R0 ST_49 rfl) ⟨_,rfl,((a.k19).facts (allC F0 (allT (allT allI))))⟩)
instance:CL prog 74 (type_of% @w_b2):=⟨@w_b2⟩
theorem w_b3 {out:Bool×Bool×Int} (c:m_dc=some out) (a:St w0 ros rs w):
  Calls prog 123 #[] w (fun e w=>e=.returned (.agg #[.bool out.1,.bool out.2.1,hnil.v,iV out.2.2])∧St w0 ros rs w):=by
 refine en func123 rfl ntmps123 fun Q b=>?_
 refine z 3 3 ?_;intro d w a w a
 cases c
 exact b _ _ _ (fin1r results123 (rcs2 rfl rfl a R0 ST_63 rfl) ⟨rfl,(a.k13)⟩)
instance:CL prog 123 (type_of% @w_b3):=⟨@w_b3⟩
theorem w_b4 {b:Bool} {d:LI} {f:Hdr} {out:Bool×LI} (c:m_dd b d=some out) (i:imm (rI .u32) f.v d∈ros) (a:St w0 ros rs w):
  Calls prog 124 #[.agg #[.bool b,f.v]] w (fun e w=>∃ (g:Hdr),e=.returned (.agg #[.bool out.1,g.v])∧St w0 (imm (rI .u32) g.v out.2::ros) rs w):=by
 refine en func124 rfl ntmps124 fun Q h=>?_
 refine z 2 3 ?_;intro j w a k w a
 refine bE c fun l m c=>bE c fun n o c=>dS [4,5,6] 3 folM ?_
 replace a:=a.drew
 refine z 5 2 ?_;intro p w a q w a w a
 cases c
 exact h _ _ _ (fin1r results124 (rcs2 rfl rfl a R0 ST_49 rfl) ⟨_,rfl,((a.k19).facts (allC F0 (allT (allT allI))))⟩)
instance:CL prog 124 (type_of% @w_b4):=⟨@w_b4⟩
theorem w_b5 {d:Bool} {f:LI} {g:Hdr} {out:Int} (c:m_de d f=some out) (j:imm (rI .u32) g.v f∈ros) (a:St w0 ros rs w):
  Calls prog 77 #[.agg #[.bool d,g.v]] w (fun e w=>e=.returned (iV out)∧St w0 ros rs w):=by
 refine en func77 rfl ntmps77 fun Q b=>?_
 refine z 4 4 ?_;intro k w a l m c n w a
 refine cI c (fun h c=>?_) fun h c=>?_
 ·refine q 8 rfl ?_
  cases c
  exact za b results77 ⟨rfl,((a.k13).fc)⟩
 ·refine z 1 3 ?_
  refine cJ c (fun i c=>?_) fun i c=>?_
  ·refine q 8 rfl ?_
   cases c
   exact za b results77 ⟨rfl,((a.k13).fc)⟩
  ·refine q 9 rfl ?_
   cases c
   exact za b results77 ⟨rfl,((a.k13).fc)⟩
instance:CL prog 77 (type_of% @w_b5):=⟨@w_b5⟩
theorem w_b6 {d:Bool} {f:LI} {h:Hdr} {out:Int} (c:m_dg d f=some out) (r:imm (rI .u32) h.v f∈ros) (k:globF∈ros) (a:St w0 ros rs w):
  Calls prog 125 #[.agg #[.bool d,h.v]] w (fun e w=>e=.returned (iV out)∧St w0 ros rs w):=by
 refine en func125 rfl ntmps125 fun Q i=>?_
 refine z 3 4 ?_;intro s w a
 refine bE c fun l m c=>?_
 refine lp m [6,7] (fun b=>[(8,iV b)]) (fun b=>St w0 ros rs) (fun | .inl ()=>(.exit 0,[],St w0 ros rs) | .inr j=>(.ret,[(2,iV j)],St w0 ros rs)) rfl (a.k13) rfl ?_ ?_
 ·clear a
  intro g w a
  rcases l with ⟨⟩ | j
  ·refine q 8 rfl ?_
   cases c
   exact za i results125 ⟨rfl,a⟩
  ·refine q 2 rfl ?_
   cases c
   exact za i results125 ⟨rfl,a⟩
 rintro b g w t a c
 refine q 6 rfl (cI c (fun n c=>?_) fun n c=>?_)
 ·refine z 2 10 ?_;intro u x c
  refine cIn c (fun o c=>?_) fun o c=>?_
  ·refine q 7 rfl ?_
   cases c
   exact lo a
  ·refine q 5 rfl (bE c fun y p c=>cZ (tz32_ok p k a) fun w a=>q 7 rfl ?_)
   cases c
   exact xo a
 ·refine q 2 rfl ?_
  cases c
  exact xo a
instance:CL prog 125 (type_of% @w_b6):=⟨@w_b6⟩
theorem w_b7 {b:LI} {d:Hdr} {out:Int} (c:m_dh b=some out) (h:imm (rI .u32) d.v b∈ros) (a:St w0 ros rs w):
  Calls prog 153 #[d.v] w (fun e w=>e=.returned (iV out)∧St w0 ros rs w):=by
 refine en func153 rfl ntmps153 fun Q f=>?_
 refine z 1 3 ?_
 refine cI c (fun g c=>?_) fun g c=>?_
 ·refine q 7 rfl ?_
  cases c
  exact za f results153 ⟨rfl,a⟩
 ·refine z 5 5 ?_;intro i j c k l c w a
  cases c
  exact za f results153 ⟨rfl,a⟩
instance:CL prog 153 (type_of% @w_b7):=⟨@w_b7⟩
end Go.Proofs.YtcoaljcfifecgabGreatDoor
