/- Walks: each function computes its model, printed. -/
import Derived.Test.YthekfonboblioacGreatDoorW10
namespace Go.Proofs.YthekfonboblioacGreatDoor
open Go Sx M Go.Proofs.Tryz
set_option maxRecDepth 100000
set_option maxHeartbeats 40000000
set_option linter.unusedVariables false
attribute [local irreducible] wpList Code.wp Calls DR QR QS LA LS St row box fam imm rowS loop
variable {w0:World} {ros:List Fact} {rs:List Res} {w:World}
theorem kf {b:Bool} {d:LI} {e:Bool} {f:LI} {g h:Hdr} {out:Bool×LI} (c:m_i0 b d e f=some out) (i:imm (rI .u32) g.v d∈ros) (j:imm (rI .u32) h.v f∈ros) (a:St w0 ros rs w):
  Calls prog 79 #[.agg #[.bool b,g.v],.agg #[.bool e,h.v]] w (rb w0 ros rs out):=by
 exact en func79 rfl ntmps79 fun Q k=>vx
instance:CL prog 79 (type_of% @kf):=⟨@kf⟩
theorem Im {b:Bool} {d:LI} {e:Bool} {f:LI} {g h:Hdr} {out:Bool×LI} (c:m_i1 b d e f=some out) (i:imm (rI .u32) g.v d∈ros) (j:imm (rI .u32) h.v f∈ros) (a:St w0 ros rs w):
  Calls prog 78 #[.agg #[.bool b,g.v],.agg #[.bool e,h.v]] w (rb w0 ros rs out):=by
 refine en func78 rfl ntmps78 fun Q k=>?_
 refine z 3 3 ?_;intro l w a m w a n w a
 refine bE c fun o p c=>bE c fun q r c=>dS [2,5,6,7] 4 C1 ?_
 replace a:=a.drew
 refine z 9 0 ?_;intro s w a t w a
 exact y (We I0 e0 e0) vx
instance:CL prog 78 (type_of% @Im):=⟨@Im⟩
theorem Hm {j:List (List (Bool×LI))} {k:List (Bool×LI)} {l m:Hdr} {out:Bool} (c:m_i4 j k=some out) (A:imm (rS (rP rB (rS (rI .u32)))) l.v j∈ros) (n:imm (rP rB (rS (rI .u32))) m.v k∈ros) (a:St w0 ros rs w):
  Calls prog 32 #[l.v,m.v] w (rv w0 ros rs (.bool out)):=by
 refine en func32 rfl ntmps32 fun Q o=>?_
 refine z 1 4 ?_
 refine bE c fun B C c=>?_
 refine lp C [1,10,11] (fun e=>[(12,iV e)]) (fun e=>St w0 ros rs) (fun | .inl ()=>(.exit 0,[],St w0 ros rs) | .inr ()=>(.ret,[(4,.bool false)],St w0 ros rs)) rfl a rfl ?_ ?_
 ·clear a
  intro g w a
  rcases B with ⟨⟩ | ⟨⟩
  ·refine q 8 rfl ?_
   cases c
   exact za o results32 ⟨rfl,a⟩
  ·refine q 2 rfl ?_
   cases c
   exact za o results32 ⟨rfl,a⟩
 rintro e g w R a c
 refine q 6 rfl (cI c (fun D c=>?_) fun D c=>?_)
 ·refine z 1 0 ?_;intro E F c
  obtain ⟨G,a⟩:=iLs a A F
  refine y (yCt W4 e0 a F1 rfl) ?_
  refine z 4 4 ?_;intro S T c U w a p w a w a
  obtain ⟨⟨r,s⟩,H,c⟩:=bs c
  refine lpN Hdr Hdr H [1,7,10,11,12,17,18] (fun (d,f,h) b=>[(19,iV h)]) (fun (d,f,h) b=>St w0 (imm (rI .u32) b.v f::imm (rP rB (rS (rI .u32))) G.v E::ros) (box p 52 [.bool d,b.v]::rs)) (fun | (r,s),i=>(.exit 2,[],St w0 (imm (rI .u32) i.v s::ros) (box p 52 [.bool r,i.v]::rs))) rfl _ (a.facts (S0 F0 (S0 F1 (N0 (N0 (N0 E1)))))) rfl ?_ ?_
  ·clear a
   rintro i g w a
   refine z 2 3 ?_;intro V W c w a
   refine cIn c (fun I c=>?_) fun I c=>?_
   ·refine q 7 rfl ?_
    cases c
    exact lo ((a.k14).fc)
   ·refine q 8 rfl ?_
    cases c
    exact xo ((a.k14).fc)
  rintro ⟨d,f,h⟩ b g w X a c
  refine q 6 rfl (cI c (fun J c=>?_) fun J c=>?_)
  ·refine z 1 0 ?_;intro t K c
   obtain ⟨Z,a0,a⟩:=iLd a F1 K
   obtain ⟨a1,a2,rfl,a⟩:=a.eltP
   obtain ⟨rfl,a⟩:=a.eltB
   obtain ⟨u,rfl,a⟩:=a.eltS
   refine y (V6 (cs:=[.bool t.1,u.v]) P0 rfl e0 a F1) ?_
   refine z 2 2 ?_;intro a3 w a w a
   refine bE c fun L x c=>bE c fun a4 N c=>bE c fun a5 a6 c=>dS [6,7,8] 3 C1 ?_
   replace a:=a.drew
   refine D1 63 0 6 rfl (rQ rfl (J2 [.bool d,b.v] P0 e0 a R1) (rQ rfl (J2 [.bool t.1,u.v] P0 e0 a R0) (qR 2 rfl (rQ rfl (yIa D3 e0 e0 a (rdI (F_4 n)) x) ?_))))
   obtain ⟨a7,a8,a⟩:=iLd a (F_4 n) x
   obtain ⟨a9,b0,rfl,a⟩:=a.eltP
   obtain ⟨rfl,a⟩:=a.eltB
   obtain ⟨O,rfl,a⟩:=a.eltS
   refine rQ rfl (V6 (cs:=[.bool L.1,O.v]) P0 rfl e0 a F1) (Rn QSn (kO (kf N F2 F0 a) fun b1 w a=>dU ?_))
   refine z 3 6 ?_;intro b2 w a w a
   cases c
   exact ln _ ((a.k11).facts (S0 F0 (S0 F7 (N0 (N0 (N0 (N0 (N0 (N0 (N0 (N0 E1)))))))))))
  ·refine q 2 rfl ?_
   cases c
   exact lx _ (a.facts (S0 F0 (N0 (N0 E1))))
 ·refine q 2 rfl ?_
  cases c
  exact xo a
instance:CL prog 32 (type_of% @Hm):=⟨@Hm⟩
theorem Fm {b:List (List (Bool×LI))} {d:Hdr} {out:Int} (c:m_i5 b=some out) (e:imm (rS (rP rB (rS (rI .u32)))) d.v b∈ros) (a:St w0 ros rs w):
  Calls prog 84 #[d.v] w (rv w0 ros rs (iV out)):=by
 refine en func84 rfl ntmps84 fun Q g=>?_
 refine v 0 ?_
 refine ⟨vt,fun _ _ _ f c=>?_⟩
 obtain ⟨h,a⟩:=iLs a e f
 exact vx
instance:CL prog 84 (type_of% @Fm):=⟨@Fm⟩
theorem Fh {f:List (Bool×LI)} {b:Int} {g:Hdr} {d:Nat} {out:Bool} (c:m_i6 f b=some out) (h:imm (rP rB (rS (rI .u32))) g.v f∈ros) (a:St w0 ros (box d 3 [iV b]::rs) w):
  Calls prog 129 #[g.v,(pB d)] w (fun e w=>e=.returned (.bool out)∧St w0 ros (box d 3 [iV b]::rs) w):=by
 exact en func129 rfl ntmps129 fun Q i=>vx
instance:CL prog 129 (type_of% @Fh):=⟨@Fh⟩
theorem Cm {h:List (List (Bool×LI))} {b:Int} {i:Hdr} {d:Nat} {out:Int} (c:m_i8 h b=some out) (k:imm (rS (rP rB (rS (rI .u32)))) i.v h∈ros) (a:St w0 ros (box d 3 [iV b]::rs) w):
  Calls prog 169 #[i.v,.func (.func 129) #[] #[(pB d)]] w (fun e w=>e=.returned (iV out)∧St w0 ros (box d 3 [iV b]::rs) w):=by
 refine en func169 rfl ntmps169 fun Q p=>?_
 refine z 1 4 ?_
 refine bE c fun l m c=>?_
 refine lp m [0,1,7] (fun f=>[(8,iV f)]) (fun f=>St w0 ros (box d 3 [iV b]::rs)) (fun | .inl ()=>(.exit 0,[],St w0 ros (box d 3 [iV b]::rs)) | .inr j=>(.ret,[(4,iV j)],St w0 ros (box d 3 [iV b]::rs))) rfl a rfl ?_ ?_
 ·clear a
  intro g w a
  rcases l with ⟨⟩ | j
  ·exact vx
  ·exact vx
 rintro f g w q a c
 refine v 0 ?_
 refine ⟨fun _ _ _ n c=>?_,vt⟩
 obtain ⟨r,a⟩:=iLs a k n
 refine y (yCt W4 e0 a F1 rfl) (bE c fun s o c=>yC (Kd kE e0 (a1 e0)) (Fh o F0 a) ?_)
 rintro _ w ⟨rfl,a⟩
 refine ⟨_,rfl,?_⟩
 exact nf vx
instance:CL prog 169 (type_of% @Cm):=⟨@Cm⟩
theorem Bm {f:List (List (Bool×LI))} {b:Int} {g:Hdr} {d:Nat} {out:Bool} (c:m_i9 f b=some out) (h:imm (rS (rP rB (rS (rI .u32)))) g.v f∈ros) (a:St w0 ros (box d 3 [iV b]::rs) w):
  Calls prog 128 #[g.v,.func (.func 129) #[] #[(pB d)]] w (fun e w=>e=.returned (.bool out)∧St w0 ros (box d 3 [iV b]::rs) w):=by
 exact en func128 rfl ntmps128 fun Q i=>vx
instance:CL prog 128 (type_of% @Bm):=⟨@Bm⟩
theorem zm {b:List (List (Bool×LI))} {d:Hdr} {out:Int} (c:m_ja b=some out) (f:imm (rS (rP rB (rS (rI .u32)))) d.v b∈ros) (a:St w0 ros rs w):
  Calls prog 81 #[d.v] w (rv w0 ros rs (iV out)):=by
 refine en func81 rfl ntmps81 fun Q g=>?_
 refine z 3 7 ?_;intro h i c w a e w a w a
 exact y (ymf (vf:=#[]) (vc:=#[(pB e)]) a0 (a1 e0)) vx
instance:CL prog 81 (type_of% @zm):=⟨@zm⟩
theorem jf {x:List (List (Bool×LI))} {A:List (Bool×LI)} {B C:Hdr} {out:(List (List (Bool×LI)))} (c:m_je x A=some out) (K:imm (rS (rP rB (rS (rI .u32)))) B.v x∈ros) (L:imm (rP rB (rS (rI .u32))) C.v A∈ros) (a:St w0 ros rs w):
  Calls prog 83 #[B.v,C.v] w (fun e w=>∃ (D:Hdr) (E:List Hdr),e=.returned (D.v)∧St w0 ros (row 39 rH D.v E::fam 52 (rP rB (rS (rI .u32))) E out::rs) w):=by
 refine en func83 rfl ntmps83 fun Q N=>?_
 refine z 1 4 ?_
 refine bE c fun F O c=>?_
 replace a:=((a.rowNh 39 rH).fNew 52 (rP rB (rS (rI .u32)))).k10
 refine lpN (Hdr×(List Hdr)) (Hdr×(List Hdr)) O [1,11,12] (fun (d,j) (f,b)=>[(5,f.v),(13,iV j)]) (fun (d,j) (f,b)=>St w0 ros (row 39 rH f.v b::fam 52 (rP rB (rS (rI .u32))) b d::rs)) (fun | F,(p,r)=>(.exit 0,[(5,p.v)],St w0 ros (row 39 rH p.v r::fam 52 (rP rB (rS (rI .u32))) r F::rs))) rfl (_,_) a rfl ?_ ?_
 ·clear a
  rintro ⟨p,r⟩ g w a
  refine q 9 rfl ?_
  cases c
  exact N _ _ _ (I3 results83 ⟨rfl,rfl⟩ ⟨_,_,rfl,a⟩)
 rintro ⟨d,j⟩ ⟨f,b⟩ g w R a c
 refine q 6 rfl (cI c (fun S c=>?_) fun S c=>?_)
 ·refine z 1 0 ?_;intro T U c
  obtain ⟨V,a⟩:=iLs a K U
  refine y (yCt W4 e0 a F1 rfl) ?_
  refine z 1 4 ?_
  refine bE c fun G W c=>?_
  replace a:=a.rowNh 52 (rP rB (rS (rI .u32)))
  refine lpN Hdr Hdr W [1,5,6,11,12,13,18,19] (fun (s,t) k=>[(8,k.v),(20,iV t)]) (fun (s,t) k=>St w0 (imm (rP rB (rS (rI .u32))) V.v T::ros) (row 39 rH f.v b::fam 52 (rP rB (rS (rI .u32))) b d::row 52 (rP rB (rS (rI .u32))) k.v s::rs)) (fun | G,u=>(.exit 2,[(8,u.v)],St w0 ros (row 39 rH f.v b::fam 52 (rP rB (rS (rI .u32))) b d::row 52 (rP rB (rS (rI .u32))) u.v G::rs))) rfl _ ((a.k1c).facts (S0 F0 (N0 (N0 E1)))) rfl ?_ ?_
  ·clear a
   rintro u g w a
   refine z 1 3 ?_
   refine jC ((List (Bool×LI))×Hdr) [1,5,11,12,13] (fun (i,h)=>[(8,h.v)]) (fun (i,h) w=>St w0 ros (row 39 rH f.v b::fam 52 (rP rB (rS (rI .u32))) b d::row 52 (rP rB (rS (rI .u32))) h.v i::rs) w∧m_jb d j i=some R) rfl ?_ ?_
   ·rintro ⟨i,h⟩ g w ⟨a,c⟩
    refine q 4 rfl (yh (rLt (n:=1) (l:=[h]) a O4 [h.v] (bp1 e0) rfl rfl (N1 rfl (mkF rfl) Y1)) fun a7 w a=>bE c fun a8 H c=>?_)
    replace a:=a.k10
    obtain ⟨a9,ey217,X⟩:=mc H (a.famL R2) (show [h].length=[i].length from rfl)
    refine yh (rAp a O4 e0 e0 rO1 X) fun b0 w a=>?_
    replace a:=(a.k1d).fPush
    rw [← ey217,← (ga H).1] at a
    refine q 8 rfl ?_
    cases c
    exact ln (_,_) (a.k1e)
   refine cI c (fun Z c=>?_) fun Z c=>?_
   ·refine z 1 0 ?_;intro a0 a1 c
    obtain ⟨b1,b2,a⟩:=iLd a L a1
    obtain ⟨b3,b4,rfl,a⟩:=a.eltP
    obtain ⟨rfl,a⟩:=a.eltB
    obtain ⟨a2,rfl,a⟩:=a.eltS
    refine y (V6 (cs:=[.bool a0.1,a2.v]) P0 rfl e0 a F1) ?_
    refine z 1 0 ?_;intro m b5 c I w a
    refine yh (rLt (n:=1) (l:=[(m.1,m.2)]) a D3 [.agg #[.bool m.1,I.v]] (bp1 e0) rfl rfl (N1 (cs:=[.bool m.1,I.v]) rfl (mkP mkB (mkS F0)) Y1)) fun b6 w a=>?_
    refine z 1 2 ?_;intro b7 b8 c b9 w a
    exact jx (_,_) ⟨((a.k1g).fc),c⟩
   ·exact q 1 rfl (jx (_,_) ⟨a,c⟩)
  rintro ⟨s,t⟩ k g w c0 a c
  refine q 6 rfl (cI c (fun a3 c=>?_) fun a3 c=>?_)
  ·refine z 1 0 ?_;intro a4 a5 c
   obtain ⟨c1,c2,a⟩:=iLd a F0 a5
   obtain ⟨c3,c4,rfl,a⟩:=a.eltP
   obtain ⟨rfl,a⟩:=a.eltB
   obtain ⟨a6,rfl,a⟩:=a.eltS
   refine y (V6 (cs:=[.bool a4.1,a6.v]) P0 rfl e0 a F1) ?_
   refine z 4 0 ?_;intro c5 w a w a o c6 c J w a
   refine yh (rLt (n:=1) (l:=[(o.1,o.2)]) a D3 [.agg #[.bool o.1,J.v]] (bp1 e0) rfl rfl (N1 (cs:=[.bool o.1,J.v]) rfl (mkP mkB (mkS F0)) Y1)) fun c7 w a=>?_
   refine z 1 8 ?_;intro c8 c9 c d0 w a
   cases c
   exact ln _ ((a.k1o).facts (S0 F3 (N0 (N0 (N0 (N0 E1))))))
  ·refine q 2 rfl ?_
   cases c
   exact lx _ (a.fc)
 ·refine q 2 rfl ?_
  cases c
  exact lx (_,_) a
instance:CL prog 83 (type_of% @jf):=⟨@jf⟩
theorem xm {b:Bool} {d:LI} {e:Bool} {f:LI} {g h:Hdr} {out:Bool×LI} (c:m_jf b d e f=some out) (i:imm (rI .u32) g.v d∈ros) (j:imm (rI .u32) h.v f∈ros) (a:St w0 ros rs w):
  Calls prog 190 #[.agg #[.bool b,g.v],.agg #[.bool e,h.v]] w (rb w0 ros rs out):=by
 exact en func190 rfl ntmps190 fun Q k=>vx
instance:CL prog 190 (type_of% @xm):=⟨@xm⟩
theorem Eh {f:Bool} {h:LI} {i:Bool} {j:LI} {k l:Hdr} {out:Bool×LI×Int} (c:m_jg f h i j=some out) (t:imm (rI .u32) k.v h∈ros) (u:imm (rI .u32) l.v j∈ros) (a:St w0 ros rs w):
  Calls prog 175 #[.agg #[.bool f,k.v],.agg #[.bool i,l.v]] w (fun e w=>∃ (m:Hdr),e=.returned (.tuple #[.agg #[.bool out.1,m.v],iV out.2.2])∧St w0 (imm (rI .u32) m.v out.2.1::ros) rs w):=by
 refine en func175 rfl ntmps175 fun Q p=>?_
 refine z 10 9 ?_;intro x w a y w a r w a b A c n B w a s w a C w a w a w a
 refine jW 5 [4,6,8] [(23,.bool ((decide (b.2.2.2.2=0)) && (decide ((0:Int) < (b.2.2.2.1.length:Int)))))] (St w0 (imm (rI .u32) n.v b.2.1::ros) (box r 52 [.bool false,hnil.v]::box s 52 [.bool b.1,n.v]::rs)) rfl (fun o=>?_) ?_
 ·refine gB 18 rfl (fun d=>?_) fun d=>?_
  ·refine z 2 2 ?_
   exact o _ _ ((a.k1p).facts (S0 F0 (N0 (N0 E1)))) (J1 (Z0 Value.bool (J5 d)) rfl)
  ·exact q 5 rfl (o _ _ ((a.k1p).facts (S0 F0 (N0 (N0 E1)))) (J1 (Z0 Value.bool (K5 d)) rfl))
 intro g w a
 refine v 0 ?_
 refine ⟨fun _ c _ a=>?_,vt⟩
 cases c
 replace a:=a.immNh (rI .u32)
 exact p _ _ _ (G4 results175 (A4 rfl rfl a R0 P0 rfl) ⟨rfl,rfl⟩ ⟨_,rfl,((a.k19).facts (S0 F0 (N0 (N0 E1))))⟩)
instance:CL prog 175 (type_of% @Eh):=⟨@Eh⟩
theorem Dh {p b:List (Bool×LI)} {h:Bool} {r:LI} {i:Bool} {s:LI} {j:Bool} {t:LI} {d f k l m:Hdr} {out:(List (Bool×LI))} (c:m_ji p b h r i s j t=some out) (S:imm (rI .u32) k.v r∈ros) (D:imm (rI .u32) l.v s∈ros) (T:imm (rI .u32) m.v t∈ros) (a:St w0 ros (row 52 (rP rB (rS (rI .u32))) d.v p::row 52 (rP rB (rS (rI .u32))) f.v b::rs) w):
  Calls prog 170 #[d.v,f.v,.agg #[.bool h,k.v],.agg #[.bool i,l.v],.agg #[.bool j,m.v]] w (fun e w=>e=.returned (.tuple #[])∧St w0 ros (row 52 (rP rB (rS (rI .u32))) d.v out::row 52 (rP rB (rS (rI .u32))) f.v b::rs) w):=by
 refine en func170 rfl ntmps170 fun Q E=>?_
 refine z 4 4 ?_;intro F w a G w a H w a
 refine bE c fun u I c=>?_
 refine lp I [0,7,8,9,12,13] (fun (n,o)=>[(14,iV o)]) (fun (n,o)=>St w0 ros (row 52 (rP rB (rS (rI .u32))) d.v n::row 52 (rP rB (rS (rI .u32))) f.v b::box F 52 [.bool h,k.v]::box G 52 [.bool i,l.v]::box H 52 [.bool j,m.v]::rs)) (fun | u=>(.exit 0,[],St w0 ros (row 52 (rP rB (rS (rI .u32))) d.v u::row 52 (rP rB (rS (rI .u32))) f.v b::rs))) rfl (a.k1q) rfl ?_ ?_
 ·clear a
  intro g w a
  refine q 1 rfl ?_
  cases c
  exact E _ _ _ (Nj results170 ⟨rfl,a⟩)
 rintro ⟨n,o⟩ g w U a c
 refine v 0 ?_
 refine ⟨fun _ _ x J c=>?_,vt⟩
 obtain ⟨V,W,cc67,a⟩:=a.ld rO1 J
 replace a:=a.eltP
 obtain ⟨X,Z,rfl,a⟩:=a
 replace a:=a.eltB
 obtain ⟨rfl,a⟩:=a
 replace a:=a.eltS
 obtain ⟨A,rfl,a⟩:=a
 refine y (yCn (cs:=[.bool x.1,A.v]) P0 rfl e0 cc67) ?_
 refine z 2 2 ?_;intro a0 w a w a
 refine bE c fun K B c=>bE c fun a1 L c=>bE c fun a2 a3 c=>bE c fun a4 a5 c=>bE c fun N a6 c=>bE c fun a7 C c=>dS [7,10,11,13,18] 5 C1 ?_
 replace a:=a.drew
 refine D1 4991 0 7 rfl (qR 2 rfl (rQ rfl (J2 [.bool i,l.v] P0 e0 a R4) (qR 2 rfl (rQ rfl (yIa D3 e0 e0 a rO1 B) ?_))))
 obtain ⟨a8,a9,cc82,a⟩:=a.ld rO1 B
 replace a:=a.eltP
 obtain ⟨b0,b1,rfl,a⟩:=a
 replace a:=a.eltB
 obtain ⟨rfl,a⟩:=a
 replace a:=a.eltS
 obtain ⟨O,rfl,a⟩:=a
 refine rQ rfl (yCn (cs:=[.bool K.1,O.v]) P0 rfl e0 cc82) (rQ rfl (J2 [.bool h,k.v] P0 e0 a R3) (rQ rfl (J2 [.bool x.1,A.v] P0 e0 a R0) (rQ rfl (J2 [.bool j,m.v] P0 e0 a R5) (Rn QSn (kO (kf L (F_2 D) F0 a) fun b2 w a=>dU ?_)))))
 refine z 3 0 ?_;intro b3 w a b4 w a R w a
 refine dU (D0 245760 3 18 rfl (qR 3 rfl (rQ rfl (yIs D3 e0 e0 a rO1 C) (Rn (qS rfl (qS rfl QSn)) ?_))))
 replace a:=a.k10
 exact LT wn (w8 (cs:=[.bool N.1,R.v]) a P0 e0 e0 rfl (mkP mkB (mkS F0)) C) fun w a=>vx
instance:CL prog 170 (type_of% @Dh):=⟨@Dh⟩
theorem vm {S:List (List (Bool×LI))} {k:LI} {j:Bool} {F:LI} {T r G U:Int} {m:Nat} {b:Hdr} {V:List Hdr} {d o:Hdr} {out:(List (List (Bool×LI)))×LI×Bool×LI×Int} (c:m_jm S k j F T r G U=some out) (a8:imm (rI .u32) o.v F∈ros) (a:St w0 ros (box m 123 [b.v,d.v,.bool j,o.v,iV T]::row 39 rH b.v V::fam 52 (rP rB (rS (rI .u32))) V S::row 3 I1 d.v k::rs) w):
  Calls prog 130 #[(pB m),iV r,iV G,iV U] w (fun e w=>∃ (W:List Hdr) (X Z:Hdr),e=.returned (.tuple #[])∧St w0 (imm (rI .u32) Z.v out.2.2.2.1::ros) (row 39 rH b.v W::fam 52 (rP rB (rS (rI .u32))) W out.1::row 3 I1 X.v out.2.1::box m 123 [b.v,X.v,.bool out.2.2.1,Z.v,iV out.2.2.2.2]::rs) w):=by
 refine en func130 rfl ntmps130 fun Q a9=>q 8 rfl ?_
 refine jC ((List (List (Bool×LI)))×Int×(List Hdr)) [0,1,2] (fun (t,p,f)=>[]) (fun (t,p,f) w=>St w0 ros (row 39 rH b.v f::fam 52 (rP rB (rS (rI .u32))) f t::row 3 I1 d.v k::box m 123 [b.v,d.v,.bool j,o.v,iV p]::rs) w∧m_jl G r j F k t p=some out) rfl ?_ ?_
 ·rintro ⟨t,p,f⟩ g w ⟨a,c⟩
  refine z 1 1 ?_
  refine bE c fun c0 H c=>?_
  obtain ⟨c1,x⟩:=a.famI R1 H
  refine y (yIa O4 e0 e0 a rO0 x) (y (yF1 W4 e0 a rO0 x rfl) (bE c fun h a0 c=>q 1 rfl (y (yIa D3 e0 e0 a (rdF R1 x H) a0) ?_)))
  obtain ⟨c2,c3,cc29,a⟩:=a.ld (rdF R1 x H) a0
  replace a:=a.eltP
  obtain ⟨c4,c5,rfl,a⟩:=a
  replace a:=a.eltB
  obtain ⟨rfl,a⟩:=a
  replace a:=a.eltS
  obtain ⟨i,rfl,a⟩:=a
  refine y (yCn (cs:=[.bool h.1,i.v]) P0 rfl e0 cc29) ?_
  refine z 3 0 ?_;intro I w a w a
  refine y (J6 O4 e0 a rO1 R2) (bE c fun a1 b0 c=>q 4 rfl ?_)
  refine lp b0 [0,1,2,8,61,62] (fun (J,A)=>[(63,iV A)]) (fun (J,A)=>St w0 (imm (rI .u32) i.v h.2::ros) (row 39 rH b.v f::fam 52 (rP rB (rS (rI .u32))) f J::row 3 I1 d.v k::box m 123 [b.v,d.v,.bool j,o.v,iV p]::box I 52 [.bool h.1,i.v]::rs)) (fun | a1=>(.exit 0,[],St w0 (imm (rI .u32) i.v h.2::ros) (row 39 rH b.v f::fam 52 (rP rB (rS (rI .u32))) f a1::row 3 I1 d.v k::box m 123 [b.v,d.v,.bool j,o.v,iV p]::box I 52 [.bool h.1,i.v]::rs))) rfl (a.k1t) rfl ?_ ?_
  ·clear a
   intro g w a
   refine bE c fun c6 c7 c=>q 2 rfl (dS [7,8,12,15] 4 C1 ?_)
   replace a:=a.drew
   refine D1 639 0 7 rfl (qR 5 rfl (rQ rfl (lb_ d.v M1 e0 a R3) (qR 1 rfl (rQ rfl (J2 [.bool h.1,i.v] P0 e0 a R4) (Rn QSn (LH wn (rLt (n:=1) (l:=[r]) a W0 [iV r] (bp1 e0) rfl rfl (N1 (cs:=[iV r]) rfl mkI Y1)) fun c8 w a=>dU ?_))))))
   refine z 4 0 ?_;intro c9 w a w a w a
   cases c
   exact a9 _ _ _ (Nj results130 ⟨_,_,_,rfl,(a.k1u)⟩)
  rintro ⟨J,A⟩ g w b2 a c
  refine q 6 rfl (cI c (fun b3 c=>?_) fun b3 c=>?_)
  ·refine q 7 rfl (bE c fun d0 B c=>?_)
   obtain ⟨d1,s⟩:=a.famI R1 B
   refine y (yIa O4 e0 e0 a rO0 s) (y (yF1 W4 e0 a rO0 s rfl) (q 11 rfl ?_))
   refine jC (List (List (Bool×LI))) [0,1,2,8,61,62,63] (fun C=>[]) (fun C w=>St w0 (imm (rI .u32) i.v h.2::ros) (row 39 rH b.v f::fam 52 (rP rB (rS (rI .u32))) f C::row 3 I1 d.v k::box m 123 [b.v,d.v,.bool j,o.v,iV p]::box I 52 [.bool h.1,i.v]::rs) w∧m_jj A C=some b2) rfl ?_ ?_
   ·rintro C g w ⟨a,c⟩
    refine q 6 rfl ?_
    cases c
    exact lo a
   refine cIn c (fun b4 c=>?_) fun b4 c=>?_
   ·exact q 1 rfl (jx _ ⟨a,c⟩)
   ·refine bE c fun d2 K c=>bE c fun b5 a2 c=>bE c fun u110 gu110 c=>bE c fun d3 b6 c=>bE c fun d4 b7 c=>dS [17] 1 C1 ?_
    replace a:=a.drew
    refine D1 131071 0 17 rfl (qR 4 rfl (rQ rfl (lb_ b.v V5 e0 a R3) (qR 1 rfl ?_)))
    obtain ⟨d5,D⟩:=a.famI R1 K
    refine rQ rfl (yIa O4 e0 e0 a rO0 D) (rQ rfl (yF1 W4 e0 a rO0 D rfl) (qR 2 rfl (rQ rfl (yIa D3 e0 e0 a (rdF R1 s B) a2) ?_)))
    obtain ⟨d6,d7,cc113,a⟩:=a.ld (rdF R1 s B) a2
    replace a:=a.eltP
    obtain ⟨d8,d9,rfl,a⟩:=a
    replace a:=a.eltB
    obtain ⟨rfl,a⟩:=a
    replace a:=a.eltS
    obtain ⟨b8,rfl,a⟩:=a
    refine rQ rfl (yCn (cs:=[.bool b5.1,b8.v]) P0 rfl e0 cc113) (rQ rfl (J2 [.bool h.1,i.v] P0 e0 a R4) (qR 3 rfl (rQ rfl (J2 [.bool j,o.v] P0 e0 a R3) (Rn QSn ?_))))
    replace a:=(a.k10).foc2 gu110 s B D K
    refine kZ (Dh b6 F0 F1 (F_2 a8) a) fun w a=>?_
    replace a:=a.unfoc2 gu110 s D K b7
    refine dU ?_
    refine z 1 0 ?_
    exact jx _ ⟨((a.k1v).facts (S0 F1 (N0 (N0 E1)))),c⟩
  ·refine q 2 rfl ?_
   cases c
   exact xo a
 refine cI c (fun b9 c=>?_) fun b9 c=>?_
 ·refine q 1 rfl (bE c fun e1 a3 c=>bE c fun e2 a4 c=>bE c fun e3 L c=>bE c fun e4 a5 c=>dS [25,27] 2 C1 ?_)
  replace a:=a.drew
  refine D0 33554431 0 25 rfl (qR 3 rfl (rQ rfl (lb_ b.v V5 e0 a R0) (qR 4 rfl (rQ rfl (lb_ b.v V5 e0 a R0) (qR 4 rfl (rQ rfl (lb_ b.v V5 e0 a R0) (qR 1 rfl ?_)))))))
  obtain ⟨a6,N⟩:=a.famI R2 a3
  refine rQ rfl (yIa O4 e0 e0 a rO1 N) (rQ rfl (yF1 W4 e0 a rO1 N rfl) (qR 3 rfl (rQ rfl (lb_ b.v V5 e0 a R0) (qR 1 rfl ?_))))
  obtain ⟨a7,O⟩:=a.famI R2 a4
  refine rQ rfl (yIa O4 e0 e0 a rO1 O) (rQ rfl (yF1 W4 e0 a rO1 O rfl) ?_)
  obtain ⟨e5,E⟩:=H9 (u:=a6) L (a.famL (mtR (mtR mhR)))
  refine rQ rfl (yIs O4 e0 e0 a rO1 E) (Rn QSn ?_)
  replace a:=a.k10
  refine LT wn (W3 (cs:=[a6.v]) a W4 rfl e0 e0 rfl (mkF rfl) E) fun w a=>D0 67108864 512 27 rfl ?_
  obtain ⟨e6,R⟩:=H9 (u:=a7) a5 (Bf L E (a.famL (mtR (mtR mhR))))
  refine rQ rfl (yIs O4 e0 e0 a rO0 R) (Rn (qS rfl QSn) (LT wn (W3 (cs:=[a7.v]) a W4 rfl e0 e0 rfl (mkF rfl) R) fun w a=>?_))
  replace a:=(a.k16).fswap N a3 O a4 E L R a5
  refine z 3 1 ?_;intro w a
  exact jx (_,_,_) ⟨(a.k1w),c⟩
 ·exact q 1 rfl (jx (_,_,_) ⟨(a.k1l),c⟩)
instance:CL prog 130 (type_of% @vm):=⟨@vm⟩
theorem um {N:List (List (Bool×LI))} {O:Int} {b:Hdr} {R:List Hdr} {out:(List (List (Bool×LI)))×LI×Bool×LI×Int} (c:m_jq N O=some out) (a:St w0 ros (row 39 rH b.v R::fam 52 (rP rB (rS (rI .u32))) R N::rs) w):
  Calls prog 82 #[b.v,iV O] w (fun e w=>∃ (S:List Hdr) (T U:Hdr),e=.returned (.agg #[b.v,T.v,.bool out.2.2.1,U.v,iV out.2.2.2.2])∧St w0 (imm (rI .u32) U.v out.2.2.2.1::ros) (row 39 rH b.v S::fam 52 (rP rB (rS (rI .u32))) S out.1::row 3 I1 T.v out.2.1::rs) w):=by
 refine en func82 rfl ntmps82 fun Q a7=>?_
 refine z 5 13 ?_;intro i w a b9 c0 c c1 w a j w a w a
 obtain ⟨⟨V,W,X,Z,a0⟩,a8,c⟩:=bs c
 replace a:=a.rowNh 3 I1
 refine lpN ((List Hdr)×Hdr×Hdr) ((List Hdr)×Hdr×Hdr) a8 [0,4,5,12] (fun (k,l,m,n,o,p) (d,f,h)=>[(13,iV p)]) (fun (k,l,m,n,o,p) (d,f,h)=>St w0 (imm (rI .u32) h.v n::ros) (row 39 rH b.v d::fam 52 (rP rB (rS (rI .u32))) d k::box i 123 [hnil.v,hnil.v,.bool false,hnil.v,iV 0]::row 3 I1 f.v l::box j 123 [b.v,f.v,.bool m,h.v,iV o]::rs)) (fun | (V,W,X,Z,a0),(E,F,G)=>(.exit 0,[],St w0 (imm (rI .u32) G.v Z::ros) (row 39 rH b.v E::fam 52 (rP rB (rS (rI .u32))) E V::box i 123 [hnil.v,hnil.v,.bool false,hnil.v,iV 0]::row 3 I1 F.v W::box j 123 [b.v,F.v,.bool X,G.v,iV a0]::rs))) rfl (_,_,_) (a.k1x) rfl ?_ ?_
 ·clear a
  rintro ⟨E,F,G⟩ g w a
  refine z 2 4 ?_;intro w a
  cases c
  exact a7 _ _ _ (I3 results82 (A4 rfl rfl a R0 nk rfl) ⟨_,_,_,rfl,(a.k1y)⟩)
 rintro ⟨k,l,m,n,o,p⟩ ⟨d,f,h⟩ g w a9 a c
 refine q 6 rfl (cI c (fun b0 c=>?_) fun b0 c=>?_)
 ·refine q 3 rfl ?_
  refine jC ((List (List (Bool×LI)))×LI×Bool×LI×Int×(List Hdr)×Hdr×Hdr) [0,4,5,12,13] (fun (r,s,t,u,x,A,B,C)=>[]) (fun (r,s,t,u,x,A,B,C) w=>St w0 (imm (rI .u32) C.v u::ros) (row 39 rH b.v A::fam 52 (rP rB (rS (rI .u32))) A r::box i 123 [hnil.v,hnil.v,.bool false,hnil.v,iV 0]::row 3 I1 B.v s::box j 123 [b.v,B.v,.bool t,C.v,iV x]::rs) w∧m_jn p r s t u x=some a9) rfl ?_ ?_
  ·rintro ⟨r,s,t,u,x,A,B,C⟩ g w ⟨a,c⟩
   refine q 5 rfl ?_
   cases c
   exact ln (_,_,_) a
  refine z 2 10 ?_
  refine bE c fun b1 b2 c=>?_
  refine lpN Unit ((List Hdr)×Hdr×Hdr) b2 [0,4,5,6,7,12,13] (fun H _=>[(8,iV H)]) (fun H _=>St w0 (imm (rI .u32) h.v n::ros) (row 39 rH b.v d::fam 52 (rP rB (rS (rI .u32))) d k::box i 123 [hnil.v,hnil.v,.bool false,hnil.v,iV 0]::row 3 I1 f.v l::box j 123 [b.v,f.v,.bool m,h.v,iV o]::rs)) (fun | .inl (a1,a2,a3,a4,a5),(I,J,K)=>(.exit 1,[],St w0 (imm (rI .u32) K.v a4::ros) (row 39 rH b.v I::fam 52 (rP rB (rS (rI .u32))) I a1::box i 123 [hnil.v,hnil.v,.bool false,hnil.v,iV 0]::row 3 I1 J.v a2::box j 123 [b.v,J.v,.bool a3,K.v,iV a5]::rs)) | .inr (),(_,_,_)=>(.exit 2,[],St w0 (imm (rI .u32) h.v n::ros) (row 39 rH b.v d::fam 52 (rP rB (rS (rI .u32))) d k::box i 123 [hnil.v,hnil.v,.bool false,hnil.v,iV 0]::row 3 I1 f.v l::box j 123 [b.v,f.v,.bool m,h.v,iV o]::rs))) rfl () a rfl ?_ ?_
  ·clear a
   rintro ⟨I,J,K⟩ g w a
   rcases b1 with ⟨a1,a2,a3,a4,a5⟩ | ⟨⟩
   ·exact q 2 rfl (jx (_,_,_,_,_,_,_,_) ⟨a,c⟩)
   ·exact q 2 rfl (jx (_,_,_,_,_,_,_,_) ⟨a,c⟩)
  rintro H _ g w c2 a c
  refine q 5 rfl (y (J6 O4 e0 a rO0 R1) (q 3 rfl (cI c (fun b3 c=>?_) fun b3 c=>?_)))
  ·refine q 8 rfl (bE c fun c3 L c=>?_)
   obtain ⟨c4,D⟩:=a.famI R1 L
   refine y (yIa O4 e0 e0 a rO0 D) (y (yF1 W4 e0 a rO0 D rfl) (bE c fun b4 a6 c=>q 1 rfl (y (yIa D3 e0 e0 a (rdF R1 D L) a6) ?_)))
   obtain ⟨c5,c6,cc521,a⟩:=a.ld (rdF R1 D L) a6
   replace a:=a.eltP
   obtain ⟨c7,c8,rfl,a⟩:=a
   replace a:=a.eltB
   obtain ⟨rfl,a⟩:=a
   replace a:=a.eltS
   obtain ⟨b6,rfl,a⟩:=a
   refine y (yCn (cs:=[.bool b4.1,b6.v]) P0 rfl e0 cc521) ?_
   refine z 1 3 ?_;intro c9 d0 c w a
   refine cIn c (fun b7 c=>?_) fun b7 c=>?_
   ·refine q 8 rfl ?_
    cases c
    exact ln () (a.facts (S0 F1 (N0 (N0 E1))))
   ·refine z 1 5 ?_;intro d1 d2 c d3 d4 d5 w a
    cases c
    exact lx (_,_,_) ((a.k20).facts (S0 F0 (N0 (N0 (N0 E1)))))
  ·refine q 2 rfl ?_
   cases c
   exact lx ([],hnil,hnil) a
 ·refine q 2 rfl ?_
  cases c
  exact lx (_,_,_) a
instance:CL prog 82 (type_of% @um):=⟨@um⟩
end Go.Proofs.YthekfonboblioacGreatDoor
