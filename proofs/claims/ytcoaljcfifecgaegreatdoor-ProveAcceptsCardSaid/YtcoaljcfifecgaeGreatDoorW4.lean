/- Walks: each function computes its model, printed. -/
import Derived.Test.YtcoaljcfifecgaeGreatDoorW3
namespace Go.Proofs.YtcoaljcfifecgaeGreatDoor
open Go Sx M Go.Proofs.Tryz
set_option maxRecDepth 100000
set_option maxHeartbeats 40000000
set_option linter.unusedVariables false
attribute [local irreducible] wpList Code.wp Calls DR QR QS LA LS St row box fam imm rowS loop
variable {w0:World} {ros:List Fact} {rs:List Res} {w:World}
theorem w_bu {d:LI} {e:Hdr} {out:Int} (c:m_c1 d=some out) (k:imm (rI .u64) e.v d∈ros) (a:St w0 ros rs w):
  Calls prog 131 #[e.v,.func (.func 89) #[] #[]] w (rv w0 ros rs (iV out)):=by
 refine en func131 rfl ntmps131 fun Q l=>?_
 refine z 1 4 ?_
 refine bE c fun h i c=>?_
 refine lp i [0,1,7] (fun b=>[(8,iV b)]) (fun b=>St w0 ros rs) (fun | .inl ()=>(.exit 0,[],St w0 ros rs) | .inr f=>(.ret,[(4,iV f)],St w0 ros rs)) rfl a rfl ?_ ?_
 ·clear a
  intro g w a
  rcases h with ⟨⟩ | f
  ·exact vx
  ·exact vx
 rintro b g w m a c
 refine v 0 ?_
 refine ⟨fun _ _ _ _ c=>?_,vt⟩
 refine bE c fun n j c=>yC (yCallw FN_89 e0 (a1 e0)) (w_bt j a) ?_
 rintro _ w ⟨rfl,a⟩
 refine ⟨_,rfl,?_⟩
 exact nf vx
instance:CL prog 131 (type_of% @w_bu):=⟨@w_bu⟩
theorem w_bv {b:LI} {d:Hdr} {out:Bool} (c:m_c2 b=some out) (e:imm (rI .u64) d.v b∈ros) (a:St w0 ros rs w):
  Calls prog 88 #[d.v,.func (.func 89) #[] #[]] w (rv w0 ros rs (.bool out)):=by
 exact en func88 rfl ntmps88 fun Q f=>vx
instance:CL prog 88 (type_of% @w_bv):=⟨@w_bv⟩
theorem w_bw {b d:Int} {e f g:LI} {h i j:Hdr} {out:Int} (c:m_c3 b d e f g=some out) (k:imm I1 h.v e∈ros) (l:imm I1 i.v f∈ros) (m:imm (rI .u64) j.v g∈ros) (a:St w0 ros rs w):
  Calls prog 43 #[.agg #[iV b,iV d,h.v,i.v,j.v]] w (rv w0 ros rs (iV out)):=by
 exact en func43 rfl ntmps43 fun Q n=>vx
instance:CL prog 43 (type_of% @w_bw):=⟨@w_bw⟩
theorem w_bx {d:LI} {e:Hdr} {out:LI} (c:m_c5 d=some out) (f:imm (rI .u32) e.v d∈ros) (a:St w0 ros rs w):
  Calls prog 96 #[e.v] w (ri w0 ros rs (rI .u32) out):=by
 refine en func96 rfl ntmps96 fun Q k=>?_
 refine z 1 5 ?_
 refine bE c fun h j c=>?_
 refine lp j [0] (fun b=>[(3,iV b)]) (fun b=>St w0 ros rs) (fun | h=>(.exit 0,[(3,iV h)],St w0 ros rs)) rfl a rfl ?_ ?_
 ·clear a
  intro g w a
  refine bE c fun l i c=>q 6 rfl (y (ySl (k1:=.i64) SL_58 e0 a (rdI f) (.inr ⟨rfl,rfl⟩) (.inl (congrArg some e0)) i) ?_)
  replace a:=a.sub f i
  exact vx
 rintro b g w m a c
 exact vx
instance:CL prog 96 (type_of% @w_bx):=⟨@w_bx⟩
theorem w_by {b:Bool} {d:LI} {e:Hdr} {out:Bool×LI} (c:m_c6 b d=some out) (g:imm (rI .u32) e.v d∈ros) (a:St w0 ros rs w):
  Calls prog 97 #[.bool b,e.v] w (rb w0 ros rs out):=by
 refine en func97 rfl ntmps97 fun Q f=>?_
 refine v 0 ?_
 refine fun _ _ _ _ _ _ _ _ a=>⟨fun _ c _ a=>?_,vt⟩
 cases c
 replace a:=a.immNh (rI .u32)
 exact f _ _ _ (fin1r results97 (rcs2 rfl rfl a R0 ST_60 rfl) ⟨_,rfl,((a.k14).facts (allC F0 (allT (allT allI))))⟩)
instance:CL prog 97 (type_of% @w_by):=⟨@w_by⟩
theorem w_bz {d:Int} {out:Bool×LI} (c:m_c8 d=some out) (a:St w0 ros rs w):
  Calls prog 50 #[iV d] w (rb w0 ros rs out):=by
 refine en func50 rfl ntmps50 fun Q f=>?_
 refine z 1 16 ?_;intro e w a
 refine jC Int [0,2] (fun b=>[(3,.int .u64 b)]) (fun b w=>St w0 ros (box e 60 [.bool false,hnil.v]::rs) w∧m_c7 d b=some out) rfl ?_ ?_
 ·rintro b g w ⟨a,c⟩
  exact q 11 rfl (yh (rLt (n:=2) (l:=[wc .u32 (wand .u64 b 4294967295),wc .u32 (wsrc .u64 b 32)]) a SL_58 [.int .u32 (wc .u32 (wand .u64 b 4294967295)),.int .u32 (wc .u32 (wsrc .u64 b 32))] (bp2 e0 e0) rfl rfl (mks1 (cs:=[.int .u32 (wc .u32 (wand .u64 b 4294967295))]) rfl mkI (mks1 (cs:=[.int .u32 (wc .u32 (wsrc .u64 b 32))]) rfl mkI mks0))) fun h w a=>vx)
 exact vx
instance:CL prog 50 (type_of% @w_bz):=⟨@w_bz⟩
theorem w_b0 {b:Int} {out:Bool} (c:m_c9 b=some out) (a:St w0 ros rs w):
  Calls prog 92 #[.int .u64 b] w (rv w0 ros rs (.bool out)):=by
 exact en func92 rfl ntmps92 fun Q d=>vx
instance:CL prog 92 (type_of% @w_b0):=⟨@w_b0⟩
theorem w_b1 {e:LI} {d:Hdr} {out:LI} (c:m_da e=some out) (f:imm (rI .u32) d.v e∈ros) (a:St w0 ros rs w):
  Calls prog 132 #[d.v] w (ro w0 ros rs 106 (rI .u32) out):=by
 refine en func132 rfl ntmps132 fun Q g=>q 9 rfl (y (yenil SL_58 e0 rfl) (q 2 rfl ?_))
 rcases nilS d with b | b
 ·refine kT b ?_
  obtain rfl:=nilE b f a
  replace c:=nilM c
  refine q 7 rfl ?_
  cases c
  replace a:=a.rowNh 106 (rI .u32)
  exact g _ _ _ (fin1r results132 ⟨rfl,rfl⟩ ⟨_,rfl,a⟩)
 ·exact kF b (q 4 rfl (yh (rLt (n:=0) (l:=[]) a SL_58 [] bp0 rfl rfl mks0) fun h w a=>vx))
instance:CL prog 132 (type_of% @w_b1):=⟨@w_b1⟩
theorem w_b2 {b:Bool} {d:LI} {e:Hdr} {out:Bool×LI} (c:m_db b d=some out) (f:imm (rI .u32) e.v d∈ros) (a:St w0 ros rs w):
  Calls prog 93 #[.agg #[.bool b,e.v]] w (rb w0 ros rs out):=by
 exact en func93 rfl ntmps93 fun Q g=>vx
instance:CL prog 93 (type_of% @w_b2):=⟨@w_b2⟩
theorem w_b3 {out:Bool×Bool×Int} (c:m_dc=some out) (a:St w0 ros rs w):
  Calls prog 133 #[] w (rv w0 ros rs (.agg #[.bool out.1,.bool out.2.1,hnil.v,iV out.2.2])):=by
 exact en func133 rfl ntmps133 fun Q b=>vx
instance:CL prog 133 (type_of% @w_b3):=⟨@w_b3⟩
theorem w_b4 {b:Bool} {d:LI} {e:Hdr} {out:Bool×LI} (c:m_dd b d=some out) (f:imm (rI .u32) e.v d∈ros) (a:St w0 ros rs w):
  Calls prog 125 #[.agg #[.bool b,e.v]] w (rb w0 ros rs out):=by
 exact en func125 rfl ntmps125 fun Q g=>vx
instance:CL prog 125 (type_of% @w_b4):=⟨@w_b4⟩
theorem w_b5 {b:Bool} {d:LI} {e:Hdr} {out:Int} (c:m_de b d=some out) (f:imm (rI .u32) e.v d∈ros) (a:St w0 ros rs w):
  Calls prog 78 #[.agg #[.bool b,e.v]] w (rv w0 ros rs (iV out)):=by
 exact en func78 rfl ntmps78 fun Q g=>vx
instance:CL prog 78 (type_of% @w_b5):=⟨@w_b5⟩
theorem w_b6 {d:Bool} {e:LI} {f:Hdr} {out:Int} (c:m_dg d e=some out) (m:imm (rI .u32) f.v e∈ros) (i:globF∈ros) (a:St w0 ros rs w):
  Calls prog 134 #[.agg #[.bool d,f.v]] w (rv w0 ros rs (iV out)):=by
 refine en func134 rfl ntmps134 fun Q n=>?_
 refine z 3 4 ?_;intro o w a
 refine bE c fun j k c=>?_
 refine lp k [6,7] (fun b=>[(8,iV b)]) (fun b=>St w0 ros rs) (fun | .inl ()=>(.exit 0,[],St w0 ros rs) | .inr h=>(.ret,[(2,iV h)],St w0 ros rs)) rfl (a.k14) rfl ?_ ?_
 ·clear a
  intro g w a
  rcases j with ⟨⟩ | h
  ·exact vx
  ·exact vx
 rintro b g w p a c
 refine v 0 ?_
 refine ⟨fun _ _ _ _ _=>⟨vt,fun _ c=>?_⟩,vt⟩
 exact bE c fun q l c=>cZ (tz32_ok l i a) fun w a=>vx
instance:CL prog 134 (type_of% @w_b6):=⟨@w_b6⟩
theorem w_b7 {b:LI} {d:Hdr} {out:Int} (c:m_dh b=some out) (e:imm (rI .u32) d.v b∈ros) (a:St w0 ros rs w):
  Calls prog 163 #[d.v] w (rv w0 ros rs (iV out)):=by
 exact en func163 rfl ntmps163 fun Q f=>vx
instance:CL prog 163 (type_of% @w_b7):=⟨@w_b7⟩
end Go.Proofs.YtcoaljcfifecgaeGreatDoor
