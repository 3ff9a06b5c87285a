/- Walks: each function computes its model, printed. -/
import Derived.Test.YthekfonboblioabGreatDoorW7
namespace Go.Proofs.YthekfonboblioabGreatDoor
open Go Sx M Go.Proofs.Tryz
set_option maxRecDepth 100000
set_option maxHeartbeats 40000000
set_option linter.unusedVariables false
attribute [local irreducible] wpList Code.wp Calls DR QR QS LA LS St row box fam imm rowS loop
variable {w0:World} {ax:List Fact} {rs:List Res} {w:World}
theorem Jf {b:Bool} {d:LI} {e:Int} {f:Hdr} {out:Int×Int} (c:m_fz b d e=some out) (g:imm xw f.v d∈ax) (a:St w0 ax rs w):
  Calls prog 57 #[.agg #[.bool b,f.v],iV e] w (rv w0 ax rs (.tuple #[iV out.1,iV out.2])):=by
 exact en func57 rfl ntmps57 fun Q h=>vx
instance:CL prog 57 (type_of% @Jf):=⟨@Jf⟩
theorem Ao {x:List (List (Bool×LI))} {z:Int} {A:Hdr} {out:L2} (c:m_f2 x z=some out) (b:imm (rS Cw) A.v x∈ax) (a:St w0 ax rs w):
  Calls prog 20 #[A.v,iV z] w (fun e w=>∃ (B:Hdr) (C:List Hdr),e=.returned (B.v)∧St w0 ax (row 23 rH B.v C::fam 3 I1 C out::rs) w):=by
 refine en func20 rfl ntmps20 fun Q N=>q 8 rfl (y (O2 A5 e0 a (rdI b)) (bE c fun a2 O c=>?_))
 obtain ⟨R,em5,S⟩:=Vj O hnil
 refine yh (rMk a G3 e0 S) fun d w a=>?_
 replace a:=(a.fReps 3 I1 R).k10
 rw [← em5] at a
 refine q 7 rfl (y (O2 A5 e0 a (rdI b)) (bE c fun D T c=>q 4 rfl ?_))
 refine lpN (List Hdr) (List Hdr) T [1,5,15,16] (fun (j,k) f=>[(17,iV k)]) (fun (j,k) f=>St w0 ax (row 23 rH d.v f::fam 3 I1 f j::rs)) (fun | D,m=>(.exit 0,[],St w0 ax (row 23 rH d.v m::fam 3 I1 m D::rs))) rfl _ a rfl ?_ ?_
 ·clear a
  rintro m g w a
  refine q 9 rfl ?_
  cases c
  exact N _ _ _ (M3 results20 ⟨rfl,rfl⟩ ⟨_,_,rfl,a⟩)
 rintro ⟨j,k⟩ f g w a3 a c
 refine q 6 rfl (cI c (fun U c=>?_) fun U c=>?_)
 ·refine q 7 rfl (bE c fun V E c=>y (yIa A5 e0 e0 a (rdI b) E) ?_)
  obtain ⟨W,a⟩:=iLs a b E
  refine y (yCt D4 e0 a F1 rfl) (q 7 rfl (y (O2 V2 e0 a (rdI F0)) (bE c fun F X c=>q 4 rfl ?_)))
  refine lpN (List Hdr) (List Hdr) X [1,5,6,15,16,17,22,23] (fun (o,p) h=>[(24,iV p)]) (fun (o,p) h=>St w0 (imm Cw W.v V::ax) (row 23 rH d.v h::fam 3 I1 h o::rs)) (fun | F,r=>(.exit 2,[],St w0 ax (row 23 rH d.v r::fam 3 I1 r F::rs))) rfl _ (a.facts (S0 F0 (N0 (N0 E1)))) rfl ?_ ?_
  ·clear a
   rintro r g w a
   refine q 7 rfl ?_
   cases c
   exact ln _ a
  rintro ⟨o,p⟩ h g w a4 a c
  refine q 6 rfl (cI c (fun Z c=>?_) fun Z c=>?_)
  ·refine q 6 rfl (bE c fun G H c=>y (yIa V2 e0 e0 a (rdI F0) H) ?_)
   obtain ⟨a5,a6,a⟩:=iLd a F0 H
   obtain ⟨a7,a8,rfl,a⟩:=a.eltP
   obtain ⟨rfl,a⟩:=a.eltB
   obtain ⟨I,rfl,a⟩:=a.eltS
   refine y (Z5 (cs:=[.bool G.1,I.v]) P0 rfl e0 a F1) (yb (rAl a J4) fun a9 w a=>sB rfl a P0 fun w a=>q 4 rfl (y (W1 [.bool G.1,I.v] P0 e0 a R0) (bE c fun s a0 c=>q 1 rfl (cZ (Jf a0 F0 a) fun w a=>bE c fun b0 J c=>q 12 rfl ?_))))
   obtain ⟨b1,i⟩:=a.famI R2 J
   refine y (yIa G3 e0 e0 a rO1 i) (y (yF1 L1 e0 a rO1 i rfl) (q 1 rfl (yh (rLt (n:=1) (l:=[s.1]) a V0 [iV s.1] (bp1 e0) rfl rfl (U1 (cs:=[iV s.1]) rfl mkI E2)) fun b2 w a=>bE c fun b3 a1 c=>?_)))
   replace a:=(a.k1g).foc i J
   refine yh (rAp a V0 e0 e0 rO2 a1) fun K w a=>bE c fun b4 L c=>?_
   obtain ⟨b5,t⟩:=H9 (u:=K) L (a.famLx (mtR mhR))
   refine y (yIs G3 e0 e0 a rO4 t) ?_
   replace a:=a.k1m
   refine yt (S3 (cs:=[K.v]) a L1 rfl e0 e0 rfl (mkF rfl) t) fun w a=>?_
   replace a:=(a.k1d).unfS i t L
   refine q 7 rfl ?_
   cases c
   exact ln _ ((a.k3v).facts (S0 F2 (N0 (N0 (N0 E1)))))
  ·refine q 2 rfl ?_
   cases c
   exact lx _ (a.fc)
 ·refine q 2 rfl ?_
  cases c
  exact lx _ a
instance:CL prog 20 (type_of% @Ao):=⟨@Ao⟩
theorem zo {d:L2} {b:Hdr} {out:Unit} (c:m_f3 d=some out) (e:imm S1 b.v d∈ax) (a:St w0 ax rs w):
  Calls prog 58 #[b.v] w (rv w0 ax rs ((clH b).v)):=by
 refine en func58 rfl ntmps58 fun Q f=>?_
 refine z 2 0 ?_
 exact y (ySl3 N9 e0 a (rdI e) e0 e0 rfl rfl) vx
instance:CL prog 58 (type_of% @zo):=⟨@zo⟩
theorem Si {b:L2} {d:Hdr} {out:Int} (c:m_f4 b=some out) (e:imm S1 d.v b∈ax) (a:St w0 ax rs w):
  Calls prog 158 #[d.v] w (rv w0 ax rs (iV out)):=by
 refine en func158 rfl ntmps158 fun Q g=>?_
 refine v 0 ?_
 refine ⟨vt,fun _ _ _ f c=>?_⟩
 obtain ⟨h,a⟩:=iLs a e f
 exact vx
instance:CL prog 158 (type_of% @Si):=⟨@Si⟩
theorem Ri {f:LI} {b:Int} {g:Hdr} {d:Nat} {out:Bool} (c:m_f5 f b=some out) (h:imm I1 g.v f∈ax) (a:St w0 ax (box d 3 [iV b]::rs) w):
  Calls prog 160 #[g.v,(pB d)] w (fun e w=>e=.returned (.bool out)∧St w0 ax (box d 3 [iV b]::rs) w):=by
 exact en func160 rfl ntmps160 fun Q i=>vx
instance:CL prog 160 (type_of% @Ri):=⟨@Ri⟩
theorem w_dj {h:L2} {b:Int} {i:Hdr} {d:Nat} {out:Int} (c:m_f7 h b=some out) (k:imm S1 i.v h∈ax) (a:St w0 ax (box d 3 [iV b]::rs) w):
  Calls prog 161 #[i.v,.func (.func 160) #[] #[(pB d)]] w (fun e w=>e=.returned (iV out)∧St w0 ax (box d 3 [iV b]::rs) w):=by
 refine en func161 rfl ntmps161 fun Q p=>?_
 refine z 1 4 ?_
 refine bE c fun l m c=>?_
 refine lp m [0,1,7] (fun f=>[(8,iV f)]) (fun f=>St w0 ax (box d 3 [iV b]::rs)) (fun | .inl ()=>(.exit 0,[],St w0 ax (box d 3 [iV b]::rs)) | .inr j=>(.ret,[(4,iV j)],St w0 ax (box d 3 [iV b]::rs))) rfl a rfl ?_ ?_
 ·clear a
  intro g w a
  rcases l with ⟨⟩ | j
  ·exact vx
  ·exact vx
 rintro f g w q a c
 refine v 0 ?_
 refine ⟨fun _ _ _ n c=>?_,vt⟩
 obtain ⟨r,a⟩:=iLs a k n
 refine y (yCt L1 e0 a F1 rfl) (bE c fun s o c=>yC (ae gG e0 (a1 e0)) (Ri o F0 a) ?_)
 rintro _ w ⟨rfl,a⟩
 refine ⟨_,rfl,?_⟩
 exact nf vx
theorem yo {f:L2} {b:Int} {g:Hdr} {d:Nat} {out:Bool} (c:m_f8 f b=some out) (h:imm S1 g.v f∈ax) (a:St w0 ax (box d 3 [iV b]::rs) w):
  Calls prog 159 #[g.v,.func (.func 160) #[] #[(pB d)]] w (fun e w=>e=.returned (.bool out)∧St w0 ax (box d 3 [iV b]::rs) w):=by
 exact en func159 rfl ntmps159 fun Q j=>bE c fun k i c=>q 9 rfl (cZ (w_dj i h a) fun w a=>vx)
instance:CL prog 159 (type_of% @yo):=⟨@yo⟩
theorem Qi {b:L2} {d:Int} {e:Hdr} {out:Int} (c:m_f9 b d=some out) (g:imm S1 e.v b∈ax) (a:St w0 ax rs w):
  Calls prog 110 #[e.v,iV d] w (rv w0 ax rs (iV out)):=by
 refine en func110 rfl ntmps110 fun Q h=>?_
 refine v 0 ?_
 refine fun i _ _ _ _ f _ _ _ _ _ _ _ w a=>⟨fun _ c=>?_,vt⟩
 exact y (ymf (vf:=#[]) (vc:=#[(pB f)]) a0 (a1 e0)) vx
instance:CL prog 110 (type_of% @Qi):=⟨@Qi⟩
theorem Pi {b d out:Int} (c:m_gb b d=some out) (a:St w0 ax rs w):
  Calls prog 163 #[iV b,iV d] w (rv w0 ax rs (iV out)):=by
 exact en func163 rfl ntmps163 fun Q e=>vx
instance:CL prog 163 (type_of% @Pi):=⟨@Pi⟩
theorem If {t:L2} {u:Int} {x:Hdr} {out:L2} (c:m_ge t u=some out) (E:imm S1 x.v t∈ax) (a:St w0 ax rs w):
  Calls prog 112 #[x.v,iV u] w (fun e w=>∃ (A:Hdr) (B:List Hdr),e=.returned (A.v)∧St w0 ax (row 23 rH A.v B::fam 3 I1 B out::rs) w):=by
 refine en func112 rfl ntmps112 fun Q F=>?_
 refine z 1 4 ?_
 refine bE c fun C G c=>?_
 replace a:=((a.rowNh 23 rH).fNew 3 I1).k10
 refine lpN (Hdr×(List Hdr)) (Hdr×(List Hdr)) G [1,11,12] (fun (h,j) (d,b)=>[(5,d.v),(13,iV j)]) (fun (h,j) (d,b)=>St w0 ax (row 23 rH d.v b::fam 3 I1 b h::rs)) (fun | C,(k,m)=>(.exit 0,[(5,k.v)],St w0 ax (row 23 rH k.v m::fam 3 I1 m C::rs))) rfl (_,_) a rfl ?_ ?_
 ·clear a
  rintro ⟨k,m⟩ g w a
  refine q 9 rfl ?_
  cases c
  exact F _ _ _ (M3 results112 ⟨rfl,rfl⟩ ⟨_,_,rfl,a⟩)
 rintro ⟨h,j⟩ ⟨d,b⟩ g w R a c
 refine q 6 rfl (cI c (fun H c=>?_) fun H c=>?_)
 ·refine z 1 0 ?_;intro I J c
  obtain ⟨K,a⟩:=iLs a E J
  refine y (yCt L1 e0 a F1 rfl) ?_
  refine z 1 4 ?_
  refine bE c fun o L c=>?_
  replace a:=a.rowNh 3 I1
  refine lpN Hdr Hdr L [1,5,11,12,13,17,18] (fun (p,r) i=>[(8,i.v),(19,iV r)]) (fun (p,r) i=>St w0 (imm I1 K.v I::ax) (row 23 rH d.v b::fam 3 I1 b h::row 3 I1 i.v p::rs)) (fun | o,f=>(.exit 2,[(8,f.v)],St w0 ax (row 23 rH d.v b::fam 3 I1 b h::row 3 I1 f.v o::rs))) rfl _ ((a.k1d).facts (S0 F0 (N0 (N0 E1)))) rfl ?_ ?_
  ·clear a
   rintro f g w a
   refine q 5 rfl (yh (rLt (n:=1) (l:=[f]) a G3 [f.v] (bp1 e0) rfl rfl (U1 rfl (mkF rfl) E2)) fun S w a=>bE c fun T D c=>?_)
   replace a:=a.k10
   obtain ⟨U,ey110,N⟩:=Bc D (a.famL R2) (show [f].length=[o].length from rfl)
   refine yh (rAp a G3 e0 e0 rO1 N) fun V w a=>?_
   replace a:=(a.k1e).fPush
   rw [← ey110,← (Ma D).1] at a
   refine q 8 rfl ?_
   cases c
   exact ln (_,_) (a.k1f)
  rintro ⟨p,r⟩ i g w W a c
  refine q 6 rfl (cI c (fun O c=>?_) fun O c=>?_)
  ·refine z 3 0 ?_;intro X Z c s a0 c w a
   refine yh (rLt (n:=1) (l:=[s]) a V0 [iV s] (bp1 e0) rfl rfl (U1 (cs:=[iV s]) rfl mkI E2)) fun a1 w a=>?_
   refine z 1 8 ?_;intro a2 a3 c a4 w a
   cases c
   exact ln _ (a.k1h)
  ·refine q 2 rfl ?_
   cases c
   exact lx _ (a.fc)
 ·refine q 2 rfl ?_
  cases c
  exact lx (_,_) a
instance:CL prog 112 (type_of% @If):=⟨@If⟩
theorem Oi {f:LI} {b:Int} {g:Hdr} {d:Nat} {out:Bool} (c:m_gf f b=some out) (h:imm I1 g.v f∈ax) (a:St w0 ax (box d 3 [iV b]::rs) w):
  Calls prog 162 #[g.v,(pB d)] w (fun e w=>e=.returned (.bool out)∧St w0 ax (box d 3 [iV b]::rs) w):=by
 exact en func162 rfl ntmps162 fun Q i=>vx
instance:CL prog 162 (type_of% @Oi):=⟨@Oi⟩
theorem w_dp {h:L2} {b:Int} {i:Hdr} {d:Nat} {out:Int} (c:m_gh h b=some out) (k:imm S1 i.v h∈ax) (a:St w0 ax (box d 3 [iV b]::rs) w):
  Calls prog 161 #[i.v,.func (.func 162) #[] #[(pB d)]] w (fun e w=>e=.returned (iV out)∧St w0 ax (box d 3 [iV b]::rs) w):=by
 refine en func161 rfl ntmps161 fun Q p=>?_
 refine z 1 4 ?_
 refine bE c fun l m c=>?_
 refine lp m [0,1,7] (fun f=>[(8,iV f)]) (fun f=>St w0 ax (box d 3 [iV b]::rs)) (fun | .inl ()=>(.exit 0,[],St w0 ax (box d 3 [iV b]::rs)) | .inr j=>(.ret,[(4,iV j)],St w0 ax (box d 3 [iV b]::rs))) rfl a rfl ?_ ?_
 ·clear a
  intro g w a
  rcases l with ⟨⟩ | j
  ·exact vx
  ·exact vx
 rintro f g w q a c
 refine v 0 ?_
 refine ⟨fun _ _ _ n c=>?_,vt⟩
 obtain ⟨r,a⟩:=iLs a k n
 refine y (yCt L1 e0 a F1 rfl) (bE c fun s o c=>yC (ae eG e0 (a1 e0)) (Oi o F0 a) ?_)
 rintro _ w ⟨rfl,a⟩
 refine ⟨_,rfl,?_⟩
 exact nf vx
theorem wo {f h i out:Int} (c:m_gk f h i=some out) (a:St w0 ax rs w):
  Calls prog 189 #[iV f,iV h,iV i] w (rv w0 ax rs (iV out)):=by
 refine en func189 rfl ntmps189 fun Q l=>bE c fun j k c=>q 12 rfl ?_
 refine lp k [2] (fun (b,d,e)=>[(0,iV b),(1,iV d),(7,iV e)]) (fun (b,d,e)=>St w0 ax rs) (fun | j=>(.exit 0,[(7,iV j)],St w0 ax rs)) rfl a rfl ?_ ?_
 ·clear a
  intro g w a
  exact vx
 rintro ⟨b,d,e⟩ g w m a c
 exact vx
instance:CL prog 189 (type_of% @wo):=⟨@wo⟩
theorem Ni {b d out:Int} (c:m_gl b d=some out) (a:St w0 ax rs w):
  Calls prog 164 #[iV b,iV d] w (rv w0 ax rs (iV out)):=by
 exact en func164 rfl ntmps164 fun Q e=>vx
instance:CL prog 164 (type_of% @Ni):=⟨@Ni⟩
end Go.Proofs.YthekfonboblioabGreatDoor
