/- Walks: each function computes its model, printed. -/
import Derived.Test.YthekfonboblioacGreatDoorW6
namespace Go.Proofs.YthekfonboblioacGreatDoor
open Go Sx M Go.Proofs.Tryz
set_option maxRecDepth 100000
set_option maxHeartbeats 40000000
set_option linter.unusedVariables false
attribute [local irreducible] wpList Code.wp Calls DR QR QS LA LS St row box fam imm rowS loop
variable {w0:World} {ros:List Fact} {rs:List Res} {w:World}
theorem Po {b:Bool} {d:LI} {e:Hdr} {out:Bool×LI} (c:m_f2 b d=some out) (g:imm (rI .u32) e.v d∈ros) (a:St w0 ros rs w):
  Calls prog 117 #[.bool b,e.v] w (rb w0 ros rs out):=by
 refine en func117 rfl ntmps117 fun Q f=>?_
 refine v 0 ?_
 refine fun _ _ _ _ _ _ _ _ a=>⟨fun _ c _ a=>?_,vt⟩
 cases c
 replace a:=a.immNh (rI .u32)
 exact f _ _ _ (I3 results117 (A4 rfl rfl a R0 P0 rfl) ⟨_,rfl,((a.k14).facts (S0 F0 (N0 (N0 E1))))⟩)
instance:CL prog 117 (type_of% @Po):=⟨@Po⟩
theorem mi {d:Int} {out:Bool×LI} (c:m_f4 d=some out) (a:St w0 ros rs w):
  Calls prog 77 #[iV d] w (rb w0 ros rs out):=by
 refine en func77 rfl ntmps77 fun Q f=>?_
 refine z 1 16 ?_;intro e w a
 refine jC Int [0,2] (fun b=>[(3,.int .u64 b)]) (fun b w=>St w0 ros (box e 52 [.bool false,hnil.v]::rs) w∧m_f3 d b=some out) rfl ?_ ?_
 ·rintro b g w ⟨a,c⟩
  exact q 11 rfl (yh (rLt (n:=2) (l:=[wc .u32 (wand .u64 b 4294967295),wc .u32 (wsrc .u64 b 32)]) a Z1 [.int .u32 (wc .u32 (wand .u64 b 4294967295)),.int .u32 (wc .u32 (wsrc .u64 b 32))] (bp2 e0 e0) rfl rfl (N1 (cs:=[.int .u32 (wc .u32 (wand .u64 b 4294967295))]) rfl mkI (N1 (cs:=[.int .u32 (wc .u32 (wsrc .u64 b 32))]) rfl mkI Y1))) fun h w a=>vx)
 exact vx
instance:CL prog 77 (type_of% @mi):=⟨@mi⟩
theorem Oo {b:Int} {out:Bool} (c:m_f5 b=some out) (a:St w0 ros rs w):
  Calls prog 112 #[.int .u64 b] w (rv w0 ros rs (.bool out)):=by
 exact en func112 rfl ntmps112 fun Q d=>vx
instance:CL prog 112 (type_of% @Oo):=⟨@Oo⟩
theorem No {e:LI} {d:Hdr} {out:LI} (c:m_f6 e=some out) (f:imm (rI .u32) d.v e∈ros) (a:St w0 ros rs w):
  Calls prog 151 #[d.v] w (ro w0 ros rs 93 (rI .u32) out):=by
 refine en func151 rfl ntmps151 fun Q g=>q 9 rfl (y (Ol Z1 e0 rfl) (q 2 rfl ?_))
 rcases Sr d with b | b
 ·refine kT b ?_
  obtain rfl:=Vr b f a
  replace c:=Ur c
  refine q 7 rfl ?_
  cases c
  replace a:=a.rowNh 93 (rI .u32)
  exact g _ _ _ (I3 results151 ⟨rfl,rfl⟩ ⟨_,rfl,a⟩)
 ·exact kF b (q 4 rfl (yh (rLt (n:=0) (l:=[]) a Z1 [] bp0 rfl rfl Y1) fun h w a=>vx))
instance:CL prog 151 (type_of% @No):=⟨@No⟩
theorem Ko {b:Bool} {d:LI} {e:Hdr} {out:Bool×LI} (c:m_f7 b d=some out) (f:imm (rI .u32) e.v d∈ros) (a:St w0 ros rs w):
  Calls prog 113 #[.agg #[.bool b,e.v]] w (rb w0 ros rs out):=by
 exact en func113 rfl ntmps113 fun Q g=>vx
instance:CL prog 113 (type_of% @Ko):=⟨@Ko⟩
theorem Jo {out:Bool×Bool×Int} (c:m_f8=some out) (a:St w0 ros rs w):
  Calls prog 152 #[] w (rv w0 ros rs (.agg #[.bool out.1,.bool out.2.1,hnil.v,iV out.2.2])):=by
 exact en func152 rfl ntmps152 fun Q b=>vx
instance:CL prog 152 (type_of% @Jo):=⟨@Jo⟩
theorem Io {b:Bool} {d:LI} {e:Hdr} {out:Bool×LI} (c:m_f9 b d=some out) (f:imm (rI .u32) e.v d∈ros) (a:St w0 ros rs w):
  Calls prog 131 #[.agg #[.bool b,e.v]] w (rb w0 ros rs out):=by
 exact en func131 rfl ntmps131 fun Q g=>vx
instance:CL prog 131 (type_of% @Io):=⟨@Io⟩
theorem Ho {b:Bool} {d:LI} {e:Hdr} {out:Int} (c:m_ga b d=some out) (f:imm (rI .u32) e.v d∈ros) (a:St w0 ros rs w):
  Calls prog 80 #[.agg #[.bool b,e.v]] w (rv w0 ros rs (iV out)):=by
 exact en func80 rfl ntmps80 fun Q g=>vx
instance:CL prog 80 (type_of% @Ho):=⟨@Ho⟩
theorem Fo {d:Bool} {e:LI} {f:Hdr} {out:Int} (c:m_gc d e=some out) (m:imm (rI .u32) f.v e∈ros) (i:globF∈ros) (a:St w0 ros rs w):
  Calls prog 153 #[.agg #[.bool d,f.v]] w (rv w0 ros rs (iV out)):=by
 refine en func153 rfl ntmps153 fun Q n=>?_
 refine z 3 4 ?_;intro o w a
 refine bE c fun j k c=>?_
 refine lp k [6,7] (fun b=>[(8,iV b)]) (fun b=>St w0 ros rs) (fun | .inl ()=>(.exit 0,[],St w0 ros rs) | .inr h=>(.ret,[(2,iV h)],St w0 ros rs)) rfl (a.k14) rfl ?_ ?_
 ·clear a
  intro g w a
  rcases j with ⟨⟩ | h
  ·exact vx
  ·exact vx
 rintro b g w p a c
 refine v 0 ?_
 refine ⟨fun _ _ _ _ _=>⟨vt,fun _ c=>?_⟩,vt⟩
 exact bE c fun q l c=>cZ (Mp l i a) fun w a=>vx
instance:CL prog 153 (type_of% @Fo):=⟨@Fo⟩
theorem Eo {b:LI} {d:Hdr} {out:Int} (c:m_gd b=some out) (e:imm (rI .u32) d.v b∈ros) (a:St w0 ros rs w):
  Calls prog 182 #[d.v] w (rv w0 ros rs (iV out)):=by
 exact en func182 rfl ntmps182 fun Q f=>vx
instance:CL prog 182 (type_of% @Eo):=⟨@Eo⟩
theorem Zn {b:Bool} {d:LI} {e:Hdr} {out:Int} (c:m_ge b d=some out) (f:imm (rI .u32) e.v d∈ros) (a:St w0 ros rs w):
  Calls prog 154 #[.agg #[.bool b,e.v]] w (rv w0 ros rs (iV out)):=by
 exact en func154 rfl ntmps154 fun Q g=>vx
instance:CL prog 154 (type_of% @Zn):=⟨@Zn⟩
theorem Yn {e:LI} {f:Int} {h:Hdr} {out:LI} (c:m_gg e f=some out) (u:imm (rI .u32) h.v e∈ros) (a:St w0 ros rs w):
  Calls prog 118 #[h.v,iV f] w (ri w0 ros rs (rI .u32) out):=by
 refine en func118 rfl ntmps118 fun Q i=>?_
 refine z 1 3 ?_
 refine cI c (fun o c=>?_) fun o c=>?_
 ·refine q 7 rfl ?_
  cases c
  replace a:=a.immNh (rI .u32)
  exact i _ _ _ (I3 results118 ⟨rfl,rfl⟩ ⟨_,rfl,a⟩)
 ·refine z 1 2 ?_
  refine bE c fun x p c=>yh (rMk a Z1 e0 p) fun j w a=>?_
  refine z 1 4 ?_
  refine bE c fun k r c=>?_
  refine lp r [5,6,7,25,26] (fun (b,d)=>[(27,iV d)]) (fun (b,d)=>St w0 ros (row 93 (rI .u32) j.v b::rs)) (fun | k=>(.exit 0,[],St w0 ros (row 93 (rI .u32) j.v k::rs))) rfl a rfl ?_ ?_
  ·clear a
   intro g w a
   refine z 1 4 ?_;intro A B c C w a
   cases c
   exact i _ _ _ (I3 results118 ⟨rfl,rfl⟩ ⟨_,rfl,(a.facts (S0 F0 (N0 (N0 E1))))⟩)
  rintro ⟨b,d⟩ g w D a c
  refine q 6 rfl (cI c (fun s c=>?_) fun s c=>?_)
  ·refine z 5 4 ?_;intro E F c l G c t H c
   refine bE c fun I m c=>y (yIs Z1 e0 e0 a rO0 m) (yt (W3 (cs:=[.int .u32 (wor .u32 t (wc .u32 (wand .u64 l 4294967295)))]) a Y3 rfl e0 e0 rfl mkI m) fun w a=>bE c fun J n c=>q 11 rfl (y (yIs Z1 e0 e0 a rO0 n) (yt (W3 (cs:=[.int .u32 (wc .u32 (wsrc .u64 l 32))]) a Y3 rfl e0 e0 rfl mkI n) fun w a=>q 7 rfl ?_)))
   cases c
   exact lo a
  ·refine q 2 rfl ?_
   cases c
   exact xo a
instance:CL prog 118 (type_of% @Yn):=⟨@Yn⟩
theorem Qh {b:Int} {out:Bool} (c:m_gh b=some out) (a:St w0 ros rs w):
  Calls prog 157 #[.int .u32 b] w (rv w0 ros rs (.bool out)):=by
 exact en func157 rfl ntmps157 fun Q d=>vx
instance:CL prog 157 (type_of% @Qh):=⟨@Qh⟩
theorem Xn {d:LI} {e:Hdr} {out:Int} (c:m_gj d=some out) (k:imm (rI .u32) e.v d∈ros) (a:St w0 ros rs w):
  Calls prog 183 #[e.v,.func (.func 157) #[] #[]] w (rv w0 ros rs (iV out)):=by
 refine en func183 rfl ntmps183 fun Q l=>?_
 refine z 1 4 ?_
 refine bE c fun h i c=>?_
 refine lp i [0,1,7] (fun b=>[(8,iV b)]) (fun b=>St w0 ros rs) (fun | .inl ()=>(.exit 0,[],St w0 ros rs) | .inr f=>(.ret,[(4,iV f)],St w0 ros rs)) rfl a rfl ?_ ?_
 ·clear a
  intro g w a
  rcases h with ⟨⟩ | f
  ·exact vx
  ·exact vx
 rintro b g w m a c
 refine v 0 ?_
 refine ⟨fun _ _ _ _ c=>?_,vt⟩
 refine bE c fun n j c=>yC (Kd gE e0 (a1 e0)) (Qh j a) ?_
 rintro _ w ⟨rfl,a⟩
 refine ⟨_,rfl,?_⟩
 exact nf vx
instance:CL prog 183 (type_of% @Xn):=⟨@Xn⟩
end Go.Proofs.YthekfonboblioacGreatDoor
