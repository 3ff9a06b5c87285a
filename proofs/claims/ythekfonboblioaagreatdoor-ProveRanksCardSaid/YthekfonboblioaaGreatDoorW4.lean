/- Walks: each function computes its model, printed. -/
import Derived.Test.YthekfonboblioaaGreatDoorW3
namespace Go.Proofs.YthekfonboblioaaGreatDoor
open Go Sx M Go.Proofs.Tryz
set_option maxRecDepth 100000
set_option maxHeartbeats 40000000
set_option linter.unusedVariables false
attribute [local irreducible] wpList Code.wp Calls DR QR QS LA LS St row box fam imm rowS loop
variable {w0:World} {ros:List Fact} {rs:List Res} {w:World}
theorem On {d:LI} {e:Hdr} {out:Int} (c:m_c1 d=some out) (k:imm (rI .u64) e.v d∈ros) (a:St w0 ros rs w):
  Calls prog 139 #[e.v,.func (.func 85) #[] #[]] w (rv w0 ros rs (iV out)):=by
 refine en func139 rfl ntmps139 fun Q l=>?_
 refine z 1 4 ?_
 refine bE c fun h i c=>?_
 refine lp i [0,1,7] (fun b=>[(8,iV b)]) (fun b=>St w0 ros rs) (fun | .inl ()=>(.exit 0,[],St w0 ros rs) | .inr f=>(.ret,[(4,iV f)],St w0 ros rs)) rfl a rfl ?_ ?_
 ·clear a
  intro g w a
  rcases h with ⟨⟩ | f
  ·exact vx
  ·exact vx
 rintro b g w m a c
 refine v 0 ?_
 refine ⟨fun _ _ _ _ c=>?_,vt⟩
 refine bE c fun n j c=>yC (td lD e0 (a1 e0)) (Zh j a) ?_
 rintro _ w ⟨rfl,a⟩
 refine ⟨_,rfl,?_⟩
 exact nf vx
instance:CL prog 139 (type_of% @On):=⟨@On⟩
theorem Nn {b:LI} {d:Hdr} {out:Bool} (c:m_c2 b=some out) (e:imm (rI .u64) d.v b∈ros) (a:St w0 ros rs w):
  Calls prog 84 #[d.v,.func (.func 85) #[] #[]] w (rv w0 ros rs (.bool out)):=by
 exact en func84 rfl ntmps84 fun Q f=>vx
instance:CL prog 84 (type_of% @Nn):=⟨@Nn⟩
theorem Jn {b d:Int} {e f g:LI} {h i j:Hdr} {out:Int} (c:m_c3 b d e f g=some out) (k:imm I1 h.v e∈ros) (l:imm I1 i.v f∈ros) (m:imm (rI .u64) j.v g∈ros) (a:St w0 ros rs w):
  Calls prog 40 #[.agg #[iV b,iV d,h.v,i.v,j.v]] w (rv w0 ros rs (iV out)):=by
 exact en func40 rfl ntmps40 fun Q n=>vx
instance:CL prog 40 (type_of% @Jn):=⟨@Jn⟩
theorem q00 {d:LI} {e:Hdr} {out:LI} (c:m_c5 d=some out) (f:imm (rI .u32) e.v d∈ros) (a:St w0 ros rs w):
  Calls prog 93 #[e.v] w (ri w0 ros rs (rI .u32) out):=by
 refine en func93 rfl ntmps93 fun Q k=>?_
 refine z 1 5 ?_
 refine bE c fun h j c=>?_
 refine lp j [0] (fun b=>[(3,iV b)]) (fun b=>St w0 ros rs) (fun | h=>(.exit 0,[(3,iV h)],St w0 ros rs)) rfl a rfl ?_ ?_
 ·clear a
  intro g w a
  refine bE c fun l i c=>q 6 rfl (y (ySl (k1:=.i64) Q1 e0 a (rdI f) (.inr ⟨rfl,rfl⟩) (.inl (Z0 some e0)) i) ?_)
  replace a:=a.sub f i
  exact vx
 rintro b g w m a c
 exact vx
instance:CL prog 93 (type_of% @q00):=⟨@q00⟩
theorem Hn {b:Bool} {d:LI} {e:Hdr} {out:Bool×LI} (c:m_c6 b d=some out) (g:imm (rI .u32) e.v d∈ros) (a:St w0 ros rs w):
  Calls prog 94 #[.bool b,e.v] w (rb w0 ros rs out):=by
 refine en func94 rfl ntmps94 fun Q f=>?_
 refine v 0 ?_
 refine fun _ _ _ _ _ _ _ _ a=>⟨fun _ c _ a=>?_,vt⟩
 cases c
 replace a:=a.immNh (rI .u32)
 exact f _ _ _ (V2 results94 (I3 rfl rfl a R0 P0 rfl) ⟨_,rfl,((a.k14).facts (Q0 F0 (N0 (N0 A1))))⟩)
instance:CL prog 94 (type_of% @Hn):=⟨@Hn⟩
theorem Yh {d:Int} {out:Bool×LI} (c:m_c8 d=some out) (a:St w0 ros rs w):
  Calls prog 47 #[iV d] w (rb w0 ros rs out):=by
 refine en func47 rfl ntmps47 fun Q f=>?_
 refine z 1 16 ?_;intro e w a
 refine jC Int [0,2] (fun b=>[(3,.int .u64 b)]) (fun b w=>St w0 ros (box e 62 [.bool false,hnil.v]::rs) w∧m_c7 d b=some out) rfl ?_ ?_
 ·rintro b g w ⟨a,c⟩
  exact q 11 rfl (yh (rLt (n:=2) (l:=[wc .u32 (wand .u64 b 4294967295),wc .u32 (wsrc .u64 b 32)]) a Q1 [.int .u32 (wc .u32 (wand .u64 b 4294967295)),.int .u32 (wc .u32 (wsrc .u64 b 32))] (bp2 e0 e0) rfl rfl (N1 (cs:=[.int .u32 (wc .u32 (wand .u64 b 4294967295))]) rfl mkI (N1 (cs:=[.int .u32 (wc .u32 (wsrc .u64 b 32))]) rfl mkI X1))) fun h w a=>vx)
 exact vx
instance:CL prog 47 (type_of% @Yh):=⟨@Yh⟩
theorem Ao {b:Int} {out:Bool} (c:m_c9 b=some out) (a:St w0 ros rs w):
  Calls prog 88 #[.int .u64 b] w (rv w0 ros rs (.bool out)):=by
 exact en func88 rfl ntmps88 fun Q d=>vx
instance:CL prog 88 (type_of% @Ao):=⟨@Ao⟩
theorem zo {e:LI} {d:Hdr} {out:LI} (c:m_da e=some out) (f:imm (rI .u32) d.v e∈ros) (a:St w0 ros rs w):
  Calls prog 140 #[d.v] w (ro w0 ros rs 107 (rI .u32) out):=by
 refine en func140 rfl ntmps140 fun Q g=>q 9 rfl (y (Sk Q1 e0 rfl) (q 2 rfl ?_))
 rcases Jq d with b | b
 ·refine kT b ?_
  obtain rfl:=Lq b f a
  replace c:=Kq c
  refine q 7 rfl ?_
  cases c
  replace a:=a.rowNh 107 (rI .u32)
  exact g _ _ _ (V2 results140 ⟨rfl,rfl⟩ ⟨_,rfl,a⟩)
 ·exact kF b (q 4 rfl (yh (rLt (n:=0) (l:=[]) a Q1 [] bp0 rfl rfl X1) fun h w a=>vx))
instance:CL prog 140 (type_of% @zo):=⟨@zo⟩
theorem yo {b:Bool} {d:LI} {e:Hdr} {out:Bool×LI} (c:m_db b d=some out) (f:imm (rI .u32) e.v d∈ros) (a:St w0 ros rs w):
  Calls prog 89 #[.agg #[.bool b,e.v]] w (rb w0 ros rs out):=by
 exact en func89 rfl ntmps89 fun Q g=>vx
instance:CL prog 89 (type_of% @yo):=⟨@yo⟩
theorem wo {out:Bool×Bool×Int} (c:m_dc=some out) (a:St w0 ros rs w):
  Calls prog 141 #[] w (rv w0 ros rs (.agg #[.bool out.1,.bool out.2.1,hnil.v,iV out.2.2])):=by
 exact en func141 rfl ntmps141 fun Q b=>vx
instance:CL prog 141 (type_of% @wo):=⟨@wo⟩
theorem vo {b:Bool} {d:LI} {e:Hdr} {out:Bool×LI} (c:m_dd b d=some out) (f:imm (rI .u32) e.v d∈ros) (a:St w0 ros rs w):
  Calls prog 142 #[.agg #[.bool b,e.v]] w (rb w0 ros rs out):=by
 exact en func142 rfl ntmps142 fun Q g=>vx
instance:CL prog 142 (type_of% @vo):=⟨@vo⟩
theorem uo {b:Bool} {d:LI} {e:Hdr} {out:Int} (c:m_de b d=some out) (f:imm (rI .u32) e.v d∈ros) (a:St w0 ros rs w):
  Calls prog 92 #[.agg #[.bool b,e.v]] w (rv w0 ros rs (iV out)):=by
 exact en func92 rfl ntmps92 fun Q g=>vx
instance:CL prog 92 (type_of% @uo):=⟨@uo⟩
theorem so {d:Bool} {e:LI} {f:Hdr} {out:Int} (c:m_dg d e=some out) (m:imm (rI .u32) f.v e∈ros) (i:globF∈ros) (a:St w0 ros rs w):
  Calls prog 143 #[.agg #[.bool d,f.v]] w (rv w0 ros rs (iV out)):=by
 refine en func143 rfl ntmps143 fun Q n=>?_
 refine z 3 4 ?_;intro o w a
 refine bE c fun j k c=>?_
 refine lp k [6,7] (fun b=>[(8,iV b)]) (fun b=>St w0 ros rs) (fun | .inl ()=>(.exit 0,[],St w0 ros rs) | .inr h=>(.ret,[(2,iV h)],St w0 ros rs)) rfl (a.k14) rfl ?_ ?_
 ·clear a
  intro g w a
  rcases j with ⟨⟩ | h
  ·exact vx
  ·exact vx
 rintro b g w p a c
 refine v 0 ?_
 refine ⟨fun _ _ _ _ _=>⟨vt,fun _ c=>?_⟩,vt⟩
 exact bE c fun q l c=>cZ (Jo l i a) fun w a=>vx
instance:CL prog 143 (type_of% @so):=⟨@so⟩
theorem qo {b:LI} {d:Hdr} {out:Int} (c:m_dh b=some out) (e:imm (rI .u32) d.v b∈ros) (a:St w0 ros rs w):
  Calls prog 179 #[d.v] w (rv w0 ros rs (iV out)):=by
 exact en func179 rfl ntmps179 fun Q f=>vx
instance:CL prog 179 (type_of% @qo):=⟨@qo⟩
end Go.Proofs.YthekfonboblioaaGreatDoor
