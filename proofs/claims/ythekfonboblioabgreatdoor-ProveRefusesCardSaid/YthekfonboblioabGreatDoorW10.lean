/- Walks: each function computes its model, printed. -/
import Derived.Test.YthekfonboblioabGreatDoorW9
namespace Go.Proofs.YthekfonboblioabGreatDoor
open Go Sx M Go.Proofs.Tryz
set_option maxRecDepth 100000
set_option maxHeartbeats 40000000
set_option linter.unusedVariables false
attribute [local irreducible] wpList Code.wp Calls DR QR QS LA LS St row box fam imm rowS loop
variable {w0:World} {ax:List Fact} {rs:List Res} {w:World}
theorem Ho {s:List (List (Bool×LI))} {t:LI} {u x:Hdr} {out:(List (List (Bool×LI)))} (c:m_hs s t=some out) (y:imm (rS Cw) u.v s∈ax) (A:imm I1 x.v t∈ax) (a:St w0 ax rs w):
  Calls prog 66 #[u.v,x.v] w (fun e w=>∃ (B:Hdr),e=.returned (B.v)∧St w0 ax (row 37 (rS Cw) B.v out::rs) w):=by
 refine en func66 rfl ntmps66 fun Q G=>bE c fun C H c=>q 17 rfl ?_
 replace a:=a.rowNh 37 (rS Cw)
 refine lpN Hdr Hdr H [0,1] (fun (d,j) b=>[(5,b.v),(6,iV j)]) (fun (d,j) b=>St w0 ax (row 37 (rS Cw) b.v d::rs)) (fun | C,k=>(.exit 0,[(5,k.v)],St w0 ax (row 37 (rS Cw) k.v C::rs))) rfl _ a rfl ?_ ?_
 ·clear a
  rintro k g w a
  refine q 9 rfl ?_
  cases c
  exact G _ _ _ (M3 results66 ⟨rfl,rfl⟩ ⟨_,rfl,a⟩)
 rintro ⟨d,j⟩ b g w L a c
 refine z 1 3 ?_
 refine cI c (fun I c=>?_) fun I c=>?_
 ·refine q 16 rfl (bE c fun m J c=>?_)
  replace a:=a.rowNh 62 Cw
  refine lpN Hdr Hdr J [0,1,5,6] (fun (o,p) i=>[(7,i.v),(8,iV p)]) (fun (o,p) i=>St w0 ax (row 37 (rS Cw) b.v d::row 62 Cw i.v o::rs)) (fun | m,f=>(.exit 2,[(7,f.v)],St w0 ax (row 37 (rS Cw) b.v d::row 62 Cw f.v m::rs))) rfl _ (a.k10) rfl ?_ ?_
  ·clear a
   rintro f g w a
   refine q 5 rfl ?_
   replace a:=(a.k10).fz
   refine yh (rLt (n:=1) (l:=[m]) a A5 [f.v] (bp1 e0) rfl rfl (U1 (cs:=[f.v]) rfl (mkS F0) E2)) fun N w a=>?_
   refine z 1 9 ?_;intro O R c S w a
   cases c
   exact ln _ ((a.k11).fc)
  rintro ⟨o,p⟩ i g w T a c
  refine z 1 3 ?_
  refine cI c (fun K c=>?_) fun K c=>?_
  ·refine q 4 rfl (bE c fun U D c=>bE c fun V E c=>bE c fun h F c=>bE c fun W X c=>dS [11,12,13] 3 A1 ?_)
   replace a:=a.drew
   refine D1 2047 0 11 rfl (qR 3 rfl (rQ rfl (yIa A5 e0 e0 a (rdI y) D) ?_))
   obtain ⟨Z,a⟩:=iLs a y D
   refine rQ rfl (yCt D4 e0 a F1 rfl) (qR 2 rfl (rQ rfl (yIa V0 e0 e0 a (rdI (F_2 A)) E) (rQ rfl (yI O_3 e0 a (rdI (F_2 A)) E) (rQ rfl (yIa V2 e0 e0 a (rdI F0) F) ?_))))
   obtain ⟨a0,a1,a⟩:=iLd a F0 F
   obtain ⟨a2,a3,rfl,a⟩:=a.eltP
   obtain ⟨rfl,a⟩:=a.eltB
   obtain ⟨r,rfl,a⟩:=a.eltS
   refine rQ rfl (Z5 (cs:=[.bool h.1,r.v]) P0 rfl e0 a F1) (Rn QSn (LH wn (rLt (n:=1) (l:=[(h.1,h.2)]) a V2 [.agg #[.bool h.1,r.v]] (bp1 e0) rfl rfl (U1 (cs:=[.bool h.1,r.v]) rfl (mkP mkB (mkS F0)) E2)) fun a4 w a=>dU ?_))
   refine z 3 7 ?_;intro a5 w a
   cases c
   exact ln _ ((a.k1c).fc)
  ·refine q 2 rfl ?_
   cases c
   exact lx _ a
 ·refine q 2 rfl ?_
  cases c
  exact lx _ a
instance:CL prog 66 (type_of% @Ho):=⟨@Ho⟩
theorem Mf {u:List (List (Bool×LI))} {x:Hdr} {out:(List (List (Bool×LI×Bool×LI)))} (c:m_hv u=some out) (A:imm (rS Cw) x.v u∈ax) (a:St w0 ax rs w):
  Calls prog 84 #[x.v] w (fun e w=>∃ (B:Hdr) (C:List Hdr),e=.returned (B.v)∧St w0 ax (row 147 rH B.v C::fam 118 (rP rB (rP (rS xw) Cw)) C out::rs) w):=by
 refine en func84 rfl ntmps84 fun Q H=>bE c fun D I c=>q 17 rfl ?_
 replace a:=((a.rowNh 147 rH).fNew 118 (rP rB (rP (rS xw) Cw))).k10
 refine lpN (Hdr×(List Hdr)) (Hdr×(List Hdr)) I [0] (fun (h,m) (d,b)=>[(3,d.v),(4,iV m)]) (fun (h,m) (d,b)=>St w0 ax (row 147 rH d.v b::fam 118 (rP rB (rP (rS xw) Cw)) b h::rs)) (fun | D,(o,p)=>(.exit 0,[(3,o.v)],St w0 ax (row 147 rH o.v p::fam 118 (rP rB (rP (rS xw) Cw)) p D::rs))) rfl (_,_) a rfl ?_ ?_
 ·clear a
  rintro ⟨o,p⟩ g w a
  refine q 9 rfl ?_
  cases c
  exact H _ _ _ (M3 results84 ⟨rfl,rfl⟩ ⟨_,_,rfl,a⟩)
 rintro ⟨h,m⟩ ⟨d,b⟩ g w V a c
 refine z 1 3 ?_
 refine cI c (fun J c=>?_) fun J c=>?_
 ·refine q 16 rfl (bE c fun r K c=>?_)
  replace a:=a.rowNh 118 (rP rB (rP (rS xw) Cw))
  refine lpN Hdr Hdr K [0,3,4] (fun (s,t) i=>[(5,i.v),(6,iV t)]) (fun (s,t) i=>St w0 ax (row 147 rH d.v b::fam 118 (rP rB (rP (rS xw) Cw)) b h::row 118 (rP rB (rP (rS xw) Cw)) i.v s::rs)) (fun | r,f=>(.exit 2,[(5,f.v)],St w0 ax (row 147 rH d.v b::fam 118 (rP rB (rP (rS xw) Cw)) b h::row 118 (rP rB (rP (rS xw) Cw)) f.v r::rs))) rfl _ (a.k1d) rfl ?_ ?_
  ·clear a
   rintro f g w a
   refine q 5 rfl (yh (rLt (n:=1) (l:=[f]) a L5 [f.v] (bp1 e0) rfl rfl (U1 rfl (mkF rfl) E2)) fun W w a=>bE c fun X E c=>?_)
   replace a:=a.k10
   obtain ⟨Z,ey191,L⟩:=Bc E (a.famL R2) (show [f].length=[r].length from rfl)
   refine yh (rAp a L5 e0 e0 rO1 L) fun a0 w a=>?_
   replace a:=(a.k1e).fPush
   rw [← ey191,← (Ma E).1] at a
   refine q 9 rfl ?_
   cases c
   exact ln (_,_) (a.k1f)
  rintro ⟨s,t⟩ i g w a1 a c
  refine z 1 0 ?_;intro a2 N c
  obtain ⟨a3,a⟩:=iLs a A N
  refine y (yCt D4 e0 a F1 rfl) ?_
  refine z 1 3 ?_
  refine cI c (fun O c=>?_) fun O c=>?_
  ·refine z 1 0 ?_;intro a4 R c
   obtain ⟨a5,a⟩:=iLs a (F_2 A) R
   refine y (yCt D4 e0 a F1 rfl) ?_
   refine z 1 0 ?_;intro S T c
   obtain ⟨a6,a7,a⟩:=iLd a F0 T
   obtain ⟨a8,a9,rfl,a⟩:=a.eltP
   obtain ⟨rfl,a⟩:=a.eltB
   obtain ⟨U,rfl,a⟩:=a.eltS
   refine y (Z5 (cs:=[.bool S.1,U.v]) P0 rfl e0 a F1) ?_
   refine z 3 0 ?_;intro j b0 c F w a k b1 c G w a
   replace a:=((a.k10).fz).fz
   refine yh (rLt (n:=1) (l:=[(j.1,j.2,k.1,k.2)]) a Y3 [.agg #[.bool j.1,F.v,.bool k.1,G.v]] (bp1 e0) rfl rfl (U1 (cs:=[.bool j.1,F.v,.bool k.1,G.v]) rfl (mkP mkB (mkP (mkS F1) (mkP mkB (mkS F0)))) E2)) fun b2 w a=>?_
   refine z 1 9 ?_;intro b3 b4 c b5 w a
   cases c
   exact ln _ ((a.k1h).fc)
  ·refine q 2 rfl ?_
   cases c
   exact lx _ (a.fc)
 ·refine q 2 rfl ?_
  cases c
  exact lx (_,_) a
instance:CL prog 84 (type_of% @Mf):=⟨@Mf⟩
theorem Kf {b:List (List (Bool×LI))} {d:Hdr} {out:Int} (c:m_hw b=some out) (e:imm (rS Cw) d.v b∈ax) (a:St w0 ax rs w):
  Calls prog 85 #[d.v] w (rv w0 ax rs (iV out)):=by
 refine en func85 rfl ntmps85 fun Q g=>?_
 refine v 0 ?_
 refine ⟨vt,fun _ _ _ f c=>?_⟩
 obtain ⟨h,a⟩:=iLs a e f
 exact vx
instance:CL prog 85 (type_of% @Kf):=⟨@Kf⟩
theorem Fo {b:Bool} {d:LI} {e:Bool} {f:LI} {g h:Hdr} {out:Bool} (c:m_hx b d e f=some out) (i:imm xw g.v d∈ax) (j:imm xw h.v f∈ax) (a:St w0 ax rs w):
  Calls prog 141 #[.agg #[.bool b,g.v,.bool e,h.v]] w (rv w0 ax rs (.bool out)):=by
 exact en func141 rfl ntmps141 fun Q k=>vx
instance:CL prog 141 (type_of% @Fo):=⟨@Fo⟩
theorem jo {k l:LI} {m n:Hdr} {out:LI} (c:m_h0 k l=some out) (G:imm xw m.v k∈ax) (H:imm xw n.v l∈ax) (a:St w0 ax rs w):
  Calls prog 169 #[m.v,n.v] w (ro w0 ax rs 126 xw out):=by
 refine en func169 rfl ntmps169 fun Q t=>?_
 refine z 2 1 ?_
 refine bE c fun I u c=>yh (rMk a X1 e0 u) fun b w a=>bE c fun o x c=>q 10 rfl ?_
 refine lp x [0,1,5] (fun (e,f)=>[(6,iV f)]) (fun (e,f)=>St w0 ax (row 126 xw b.v e::rs)) (fun | o=>(.exit 0,[],St w0 ax (row 126 xw b.v o::rs))) rfl a rfl ?_ ?_
 ·clear a
  intro g w a
  refine q 9 rfl ?_
  cases c
  exact t _ _ _ (M3 results169 ⟨rfl,rfl⟩ ⟨_,rfl,a⟩)
 rintro ⟨e,f⟩ g w J a c
 refine z 1 3 ?_
 refine cI c (fun A c=>?_) fun A c=>?_
 ·refine q 16 rfl ?_
  obtain ⟨⟨p,h⟩,B,c⟩:=bs c
  refine lp B [0,1,5,6] (fun (i,d,j)=>[(7,.int .u64 d),(8,iV j)]) (fun (i,d,j)=>St w0 ax (row 126 xw b.v i::rs)) (fun | (p,h)=>(.exit 2,[(7,.int .u64 h)],St w0 ax (row 126 xw b.v p::rs))) rfl a rfl ?_ ?_
  ·clear a
   intro g w a
   refine z 1 3 ?_
   refine bE c fun K r c=>y (yIs X1 e0 e0 a rO0 r) (yt (S3 (cs:=[.int .u32 (wc .u32 h)]) a Z3 rfl e0 e0 rfl mkI r) fun w a=>q 8 rfl ?_)
   cases c
   exact lo a
  rintro ⟨i,d,j⟩ g w L a c
  refine z 1 3 ?_
  refine cI c (fun C c=>?_) fun C c=>?_
  ·refine q 5 rfl (bE c fun D N c=>bE c fun E O c=>bE c fun F R c=>dS [21] 1 A1 ?_)
   replace a:=a.drew
   refine z 8 9 ?_
   refine bE c fun S s c=>y (yIs X1 e0 e0 a rO0 s) (yt (S3 (cs:=[.int .u32 (wc .u32 (wa .u64 (wa .u64 d (wm .u64 (wc .u64 D) (wc .u64 E))) (wc .u64 F)))]) a Z3 rfl e0 e0 rfl mkI s) fun w a=>q 14 rfl ?_)
   cases c
   exact lo a
  ·refine q 2 rfl ?_
   cases c
   exact xo a
 ·refine q 2 rfl ?_
  cases c
  exact xo a
instance:CL prog 169 (type_of% @jo):=⟨@jo⟩
theorem aa {b:Bool} {d:LI} {e:Bool} {f:LI} {g h:Hdr} {out:Bool×LI} (c:m_h1 b d e f=some out) (i:imm xw g.v d∈ax) (j:imm xw h.v f∈ax) (a:St w0 ax rs w):
  Calls prog 124 #[.agg #[.bool b,g.v],.agg #[.bool e,h.v]] w (rc w0 ax rs 126 out):=by
 exact en func124 rfl ntmps124 fun Q k=>vx
instance:CL prog 124 (type_of% @aa):=⟨@aa⟩
theorem Gi {d r:LI} {l s:Int} {b t:Hdr} {out:LI×Bool} (c:m_h5 d r l s=some out) (O:imm xw t.v r∈ax) (a:St w0 ax (row 126 xw b.v d::rs) w):
  Calls prog 191 #[b.v,t.v,iV l,.int .u64 s] w (fun e w=>e=.returned (.bool out.2)∧St w0 ax (row 126 xw b.v out.1::rs) w):=by
 refine en func191 rfl ntmps191 fun Q u=>?_
 refine z 1 7 ?_
 refine bE c fun R D c=>yh (rMk a X1 e0 D) fun j w a=>q 16 rfl ?_
 obtain ⟨⟨m,x⟩,E,c⟩:=bs c
 refine lp E [0,1,2,3,9,10] (fun (f,h,n,k)=>[(11,.int .u64 h),(12,.int .u64 n),(13,iV k)]) (fun (f,h,n,k)=>St w0 ax (row 126 xw b.v d::row 126 xw j.v f::rs)) (fun | (m,x)=>(.exit 0,[(11,.int .u64 x)],St w0 ax (row 126 xw b.v d::row 126 xw j.v m::rs))) rfl (a.k10) rfl ?_ ?_
 ·clear a
  intro g w a
  refine q 9 rfl ?_
  refine cIn c (fun F c=>?_) fun F c=>?_
  ·refine q 9 rfl (bE c fun A G c=>?_)
   refine lp G [0,2,9,10] (fun (o,p)=>[(15,iV p)]) (fun (o,p)=>St w0 ax (row 126 xw b.v o::row 126 xw j.v m::rs)) (fun | A=>(.exit 2,[],St w0 ax (row 126 xw b.v A::rs))) rfl a rfl ?_ ?_
   ·clear a
    intro g w a
    refine q 8 rfl ?_
    cases c
    exact za u results191 ⟨rfl,a⟩
   rintro ⟨o,p⟩ g w S a c
   refine q 8 rfl (cI c (fun H c=>?_) fun H c=>?_)
   ·refine z 2 0 ?_;intro I T c
    refine bE c fun U B c=>y (yIs X1 e0 e0 a rO0 B) (yt (S3 (cs:=[.int .u32 I]) a Z3 rfl e0 e0 rfl mkI B) fun w a=>q 8 rfl ?_)
    cases c
    exact lo a
   ·refine q 2 rfl ?_
    cases c
    exact xo (a.k11)
  ·refine q 7 rfl ?_
   cases c
   exact za u results191 ⟨rfl,(a.k11)⟩
 rintro ⟨f,h,n,k⟩ g w J a c
 refine q 8 rfl (cI c (fun K c=>?_) fun K c=>?_)
 ·refine q 12 rfl ?_
  refine jC Int [0,1,2,3,9,10,11,13] (fun i=>[(12,.int .u64 i)]) (fun i w=>St w0 ax (row 126 xw b.v d::row 126 xw j.v f::rs) w∧m_h3 d k l f h i=some J) rfl ?_ ?_
  ·rintro i g w ⟨a,c⟩
   refine z 2 22 ?_;intro L V c
   refine bE c fun W C c=>y (yIs X1 e0 e0 a rO1 C) ?_
   replace a:=a.k10
   refine yt (S3 (cs:=[.int .u32 (wc .u32 (ws .u64 (ws .u64 (wc .u64 L) h) (wand .u64 i 4294967295)))]) a Z3 rfl e0 e0 rfl mkI C) fun w a=>q 14 rfl ?_
   cases c
   exact lo (a.k10)
  refine cI c (fun N c=>?_) fun N c=>?_
  ·refine z 2 5 ?_;intro X Z c
   exact jx _ ⟨a,c⟩
  ·exact q 1 rfl (jx _ ⟨a,c⟩)
 ·refine q 2 rfl ?_
  cases c
  exact xo a
instance:CL prog 191 (type_of% @Gi):=⟨@Gi⟩
theorem fo {p b:LI} {A B:Hdr} {out:LI×LI} (c:m_h9 p b=some out) (f:imm xw A.v p∈ax) (h:imm xw B.v b∈ax) (a:St w0 ax rs w):
  Calls prog 170 #[A.v,B.v] w (fun e w=>∃ (C D:Hdr),e=.returned (.tuple #[C.v,D.v])∧St w0 (imm xw D.v out.2::ax) (row 126 xw C.v out.1::rs) w):=by
 refine en func170 rfl ntmps170 fun Q E=>bE c fun b3 O c=>q 11 rfl (cZ (w_o O f h a) fun w a=>q 3 rfl (cI c (fun R c=>?_) fun R c=>?_))
 ·refine q 9 rfl ?_
  cases c
  replace a:=a.rowNh 126 xw
  exact E _ _ _ (I4 results170 ⟨rfl,rfl⟩ ⟨rfl,rfl⟩ ⟨_,_,rfl,(a.facts (S0 f E1))⟩)
 ·refine q 5 rfl (y (O2 X1 e0 a (rdI h)) (bE c fun b4 F c=>q 8 rfl (y (yIa X1 e0 e0 a (rdI h) F) (y (yI Z3 e0 a (rdI h) F) (bE c fun S T c=>cZ (Vi T a) fun w a=>bE c fun b5 U c=>bE c fun b6 V c=>bE c fun i r c=>q 4 rfl (dS [2,5,8,9] 4 A1 ?_))))))
  replace a:=a.drew
  refine D1 91 0 2 rfl (qR 5 rfl (Rn QSn (kO (w_k U f a) fun W w a=>dU (D1 0 88 5 rfl (Rn (qS rfl (qS rfl (qS rfl QSn))) (kO (w_k V h a) fun j w a=>dU (D1 128 64 8 rfl ?_)))))))
  replace a:=a.fz
  refine rQ rfl (ySl (k1:=.i64) X1 e0 a (rdI F0) (.inr ⟨rfl,rfl⟩) (.inl (C1 some e0)) r) ?_
  replace a:=a.sub F0 r
  refine Rn (qS rfl QSn) (Ly wn (a_ W.v e0) (dU (D1 0 192 9 rfl (Rn (qS rfl (sY rfl (ySl (k1:=.i64) X1 e0 a (rdI F1) (.inr ⟨rfl,rfl⟩) (.inl (C1 some e0)) r) QSn)) (Ly wn (a_ ((subH j 1 0 (b.length:Int)).v) e0) (dU (Dw 0 0 (Rn QSn (qx 5 rfl (y (O2 X1 e0 a rO0) (q 1 rfl (y (O2 X1 e0 a (rdI (F_2 f))) (q 3 rfl ?_)))))))))))))
  refine jC (LI×Hdr) [0,6,7,9] (fun (m,d)=>[(8,d.v)]) (fun (m,d) w=>St w0 (imm xw (subH j 1 0 (b.length:Int)).v i::ax) (row 126 xw d.v m::rs) w∧m_h8 p b i S m=some out) rfl ?_ ?_
  ·rintro ⟨m,d⟩ g w ⟨a,c⟩
   refine q 4 rfl (y (O2 X1 e0 a (rdI (mtF f))) (bE c fun b7 X c=>q 3 rfl (yh (rMk a X1 e0 X) fun o w a=>q 7 rfl (y (O2 X1 e0 a (rdI (mtF f))) (q 6 rfl ?_)))))
   obtain ⟨⟨G,H⟩,Z,c⟩:=bs c
   refine lp Z [6,7,8,9,10] (fun (s,k,t)=>[(11,iV t)]) (fun (s,k,t)=>St w0 (imm xw (subH j 1 0 (b.length:Int)).v i::ax) (row 126 xw d.v s::row 126 xw o.v k::rs)) (fun | (G,H)=>(.exit 0,[],St w0 ax (row 126 xw d.v G::row 126 xw o.v H::rs))) rfl (a.k10) rfl ?_ ?_
   ·clear a
    intro g w a
    refine bE c fun b8 a0 c=>q 5 rfl ?_
    replace a:=a.fz
    refine cO (w_d a0 F0 a) fun b9 w a=>bE c fun c0 a1 c=>q 1 rfl ?_
    replace a:=a.fz
    refine cO (w_l a1 F0 a) fun c1 w a=>bE c fun c2 a2 c=>q 10 rfl ?_
    replace a:=(a.k10).fz
    refine cO (w_d a2 F0 a) fun c3 w a=>bE c fun c4 a3 c=>q 1 rfl ?_
    replace a:=(a.k10).fz
    refine cO (w_d a3 F0 a) fun c5 w a=>q 5 rfl ?_
    cases c
    replace a:=a.fz
    exact E _ _ _ (I4 results170 ⟨rfl,rfl⟩ ⟨rfl,rfl⟩ ⟨_,_,rfl,(a.facts (S0 F0 (N0 (N0 (N0 (N0 (N0 E1)))))))⟩)
   rintro ⟨s,k,t⟩ g w c7 a c
   refine q 7 rfl (cI c (fun a4 c=>?_) fun a4 c=>?_)
   ·refine q 5 rfl (bE c fun a5 I c=>bE c fun a6 J c=>dS [17] 1 A1 ?_)
    replace a:=a.drew
    refine D1 131071 0 17 rfl (qR 4 rfl (rQ rfl (yIa X1 e0 e0 a rO0 I) (rQ rfl (yI Z3 e0 a rO0 I) (qR 7 rfl (rQ rfl (yIa X1 e0 e0 a rO0 J) (rQ rfl (yI Z3 e0 a rO0 J) (qR 2 rfl (Rn QSn (Ly wn (a_ (.int .u64 (wor .u64 (wslc .u64 (wc .u64 a5) 32) (wc .u64 a6))) e0) (dU (Dw 0 0 (Rn QSn (bE c fun c8 K c=>?_)))))))))))))
    refine qx 7 rfl (y (yIa X1 e0 e0 a (rdI F0) K) (y (yI Z3 e0 a (rdI F0) K) (bE c fun c9 a7 c=>q 1 rfl (y (lf e0 e0 a7) (q 6 rfl ?_)))))
    obtain ⟨⟨L,u⟩,a8,c⟩:=bs c
    refine lp a8 [6,7,8,9,10,11] (fun (x,z)=>[(13,.int .u64 z)]) (fun (x,z)=>St w0 (imm xw (subH j 1 0 (b.length:Int)).v i::ax) (row 126 xw d.v x::row 126 xw o.v k::rs)) (fun | (L,u)=>(.exit 2,[(13,.int .u64 u)],St w0 (imm xw (subH j 1 0 (b.length:Int)).v i::ax) (row 126 xw d.v L::row 126 xw o.v k::rs))) rfl a rfl ?_ ?_
    ·clear a
     intro g w a
     refine bE c fun d0 N c=>q 7 rfl (y (yIs X1 e0 e0 a rO1 N) ?_)
     replace a:=a.k10
     refine yt (S3 (cs:=[.int .u32 (wc .u32 u)]) a Z3 rfl e0 e0 rfl mkI N) fun w a=>q 8 rfl ?_
     cases c
     exact lo (a.k10)
    rintro ⟨x,z⟩ g w d1 a c
    refine bE c fun d2 a9 c=>q 7 rfl (cZ (Gi a9 F0 a) fun w a=>q 3 rfl ?_)
    refine cJn c (fun b0 c=>?_) fun b0 c=>?_
    ·refine q 2 rfl ?_
     cases c
     exact xo a
    ·refine q 9 rfl ?_
     cases c
     exact lo a
   ·refine q 2 rfl ?_
    cases c
    exact xo (a.fc)
  refine cI c (fun b1 c=>?_) fun b1 c=>?_
  ·refine q 2 rfl (yh (rLt (n:=1) (l:=[0]) a X1 [.int .u32 0] (bp1 rfl) rfl rfl (U1 (cs:=[.int .u32 0]) rfl mkI E2)) fun d3 w a=>bE c fun d4 b2 c=>?_)
   replace a:=a.k10
   exact yh (rAp a X1 e0 e0 rO1 b2) fun d5 w a=>q 2 rfl (jx (_,_) ⟨((a.k11).facts (S0 F0 (N0 (N0 E1)))),c⟩)
  ·exact q 1 rfl (jx (_,_) ⟨(a.facts (S0 F0 (N0 (N0 E1)))),c⟩)
instance:CL prog 170 (type_of% @fo):=⟨@fo⟩
theorem eo {K:Bool} {R:LI} {C:Bool} {S:LI} {L D:Hdr} {out:Bool×LI×Bool×LI} (c:m_ic K R C S=some out) (a1:imm xw L.v R∈ax) (a2:imm xw D.v S∈ax) (a:St w0 ax rs w):
  Calls prog 127 #[.agg #[.bool K,L.v],.agg #[.bool C,D.v]] w (fun e w=>∃ (T U:Hdr),e=.returned (.tuple #[.agg #[.bool out.1,T.v],.agg #[.bool out.2.2.1,U.v]])∧St w0 (imm xw U.v out.2.2.2::ax) (row 126 xw T.v out.2.1::rs) w):=by
 refine en func127 rfl ntmps127 fun Q b4=>?_
 refine z 4 3 ?_;intro b5 w a a3 w a N w a O w a
 refine bE c fun i a4 c=>bE c fun k a5 c=>dS [1,3,4,5] 4 A1 ?_
 replace a:=a.drew
 refine D1 5 0 1 rfl (rQ rfl (W1 [.bool K,L.v] P0 e0 a R3) (rQ rfl (W1 [.bool C,D.v] P0 e0 a R2) (Rn QSn (kO (w_g a4 a1 a) fun V w a=>dU (D1 0 4 3 rfl (Rn (sY rfl (W1 [.bool C,D.v] P0 e0 a R3) QSn) (kO (w_g a5 a2 a) fun y w a=>dU (D0 0 0 4 rfl (Rn QSn ?_)))))))))
 replace a:=a.k1i
 refine LT wn (I3 (dx:=[.bool i.1,V.v]) (us:=[.bool i.1,V.v]) a P0 e0 e0 rfl rfl (J3 rfl) rfl) fun w a=>D0 0 0 5 rfl (Rn QSn ?_)
 replace a:=a.k1i
 refine LT wn (I3 (dx:=[.bool k.1,y.v]) (us:=[.bool k.1,y.v]) a P0 e0 e0 rfl rfl (J3 rfl) rfl) fun w a=>Dw 0 0 (Rn QSn (qx 0 rfl ?_))
 refine z 3 8 ?_;intro b6 c0 c c1 c2 w a
 refine bE c fun d A c=>bE c fun f j c=>?_
 refine jN (Nat×Hdr×Nat×Hdr) [3,4,5] (fun (t,l,u,x)=>[(8,(pB t)),(9,(pB u))]) (fun (t,l,u,x)=>St w0 (imm xw y.v k.2::ax) (box a3 62 [.bool k.1,y.v]::box N 62 [.bool false,hnil.v]::box O 62 [.bool false,hnil.v]::row 126 xw l.v d.2::box t 62 [.bool d.1,l.v]::row 126 xw x.v f.2::box u 62 [.bool f.1,x.v]::rs)) rfl ?_ ?_
 ·refine dS [6,10,11,12,13,14] 6 A1 ?_
  replace a:=a.drew
  refine Dm 959 0 [6,11,12] (qR 1 rfl (rQ rfl (lb_ (.bool i.1) O_4 e0 a R2) (qR 1 rfl (rQ rfl (lb_ (.bool k.1) O_4 e0 a R1) (rQ rfl (Rb I0 e0 e0) (qR 2 rfl (rQ rfl (lb_ (.bool i.1) O_4 e0 a R2) (qR 1 rfl (Rn QSn ?_)))))))))
  refine La1 rfl ?_ (La1 rfl ?_ (La1 rfl ?_ LAn))
  ·replace a:=a.fz
   refine kO (w_e A F0 a) fun h w a=>dU (Dm 0 896 [10,11,12] (Rn (qS rfl (sY rfl (lb_ (.bool i.1) O_4 e0 a R2) (qS rfl QSn))) ?_))
   refine La1 rfl ?_ (La1 rfl ?_ (La1 rfl ?_ LAn))
   ·refine kO (w_e j F1 a) fun b w a=>dU (Dm 0 0 [11,12] (Rn QSn ?_))
    refine La1 rfl ?_ (La1 rfl ?_ LAn)
    ·refine LB wn (rAl a J4) fun m w a=>dU (D1 0 0 12 rfl (Rn QSn (LB wn (rAl a J4) fun n w a=>dU (D0 0 0 13 rfl (Rn QSn ?_)))))
     replace a:=a.k10
     refine LT wn (I3 (dx:=[.bool d.1,h.v]) (us:=[.bool d.1,h.v]) a P0 e0 e0 rfl rfl (J3 rfl) rfl) fun w a=>D0 0 0 14 rfl (Rn QSn ?_)
     replace a:=a.k10
     exact LT wn (I3 (dx:=[.bool f.1,b.v]) (us:=[.bool f.1,b.v]) a P0 e0 e0 rfl rfl (J3 rfl) rfl) fun w a=>Dw 0 0 (Rn QSn (jr (_,_,_,_) ((a.k1j).facts (S0 F2 (N0 (N0 (N0 (N0 E1))))))))
    ·refine LB wn (rAl a J4) fun n w a=>dU (D1 0 0 11 rfl (Rn QSn (LB wn (rAl a J4) fun m w a=>dU (D0 0 0 13 rfl (Rn QSn (LT wn (I3 (dx:=[.bool d.1,h.v]) (us:=[.bool d.1,h.v]) a P0 e0 e0 rfl rfl (J3 rfl) rfl) fun w a=>D0 0 0 14 rfl (Rn QSn ?_)))))))
     replace a:=a.k10
     exact LT wn (I3 (dx:=[.bool f.1,b.v]) (us:=[.bool f.1,b.v]) a P0 e0 e0 rfl rfl (J3 rfl) rfl) fun w a=>Dw 0 0 (Rn QSn (jr (_,_,_,_) ((a.k1j).facts (S0 F2 (N0 (N0 (N0 (N0 E1))))))))
   ·refine LB wn (rAl a J4) fun m w a=>dU (Dm 0 896 [10,12] (Rn (qS rfl (sY rfl (lb_ (.bool i.1) O_4 e0 a R3) (qS rfl QSn))) ?_))
    refine La1 rfl ?_ (La1 rfl ?_ LAn)
    ·refine kO (w_e j F1 a) fun b w a=>dU (D1 0 0 12 rfl (Rn QSn (LB wn (rAl a J4) fun n w a=>dU (D0 0 0 13 rfl (Rn QSn ?_)))))
     replace a:=a.k16
     refine LT wn (I3 (dx:=[.bool d.1,h.v]) (us:=[.bool d.1,h.v]) a P0 e0 e0 rfl rfl (J3 rfl) rfl) fun w a=>D0 0 0 14 rfl (Rn QSn ?_)
     replace a:=a.k10
     exact LT wn (I3 (dx:=[.bool f.1,b.v]) (us:=[.bool f.1,b.v]) a P0 e0 e0 rfl rfl (J3 rfl) rfl) fun w a=>Dw 0 0 (Rn QSn (jr (_,_,_,_) ((a.k1j).facts (S0 F2 (N0 (N0 (N0 (N0 E1))))))))
    ·refine LB wn (rAl a J4) fun n w a=>dU (D1 0 896 10 rfl (Rn (qS rfl (sY rfl (lb_ (.bool i.1) O_4 e0 a R4) (qS rfl QSn))) (kO (w_e j F1 a) fun b w a=>dU (D0 0 0 13 rfl (Rn QSn ?_)))))
     replace a:=a.k16
     refine LT wn (I3 (dx:=[.bool d.1,h.v]) (us:=[.bool d.1,h.v]) a P0 e0 e0 rfl rfl (J3 rfl) rfl) fun w a=>D0 0 0 14 rfl (Rn QSn ?_)
     replace a:=a.k16
     exact LT wn (I3 (dx:=[.bool f.1,b.v]) (us:=[.bool f.1,b.v]) a P0 e0 e0 rfl rfl (J3 rfl) rfl) fun w a=>Dw 0 0 (Rn QSn (jr (_,_,_,_) ((a.k1j).facts (S0 F2 (N0 (N0 (N0 (N0 E1))))))))
   ·refine LB wn (rAl a J4) fun n w a=>dU (Dm 0 896 [10,11] (Rn (qS rfl (sY rfl (lb_ (.bool i.1) O_4 e0 a R3) (qS rfl QSn))) ?_))
    refine La1 rfl ?_ (La1 rfl ?_ LAn)
    ·refine kO (w_e j F1 a) fun b w a=>dU (D1 0 0 11 rfl (Rn QSn (LB wn (rAl a J4) fun m w a=>dU (D0 0 0 13 rfl (Rn QSn (LT wn (I3 (dx:=[.bool d.1,h.v]) (us:=[.bool d.1,h.v]) a P0 e0 e0 rfl rfl (J3 rfl) rfl) fun w a=>D0 0 0 14 rfl (Rn QSn ?_)))))))
     replace a:=a.k16
     exact LT wn (I3 (dx:=[.bool f.1,b.v]) (us:=[.bool f.1,b.v]) a P0 e0 e0 rfl rfl (J3 rfl) rfl) fun w a=>Dw 0 0 (Rn QSn (jr (_,_,_,_) ((a.k1j).facts (S0 F2 (N0 (N0 (N0 (N0 E1))))))))
    ·refine LB wn (rAl a J4) fun m w a=>dU (D1 0 896 10 rfl (Rn (qS rfl (sY rfl (lb_ (.bool i.1) O_4 e0 a R4) (qS rfl QSn))) (kO (w_e j F1 a) fun b w a=>dU (D0 0 0 13 rfl (Rn QSn ?_)))))
     replace a:=a.k10
     refine LT wn (I3 (dx:=[.bool d.1,h.v]) (us:=[.bool d.1,h.v]) a P0 e0 e0 rfl rfl (J3 rfl) rfl) fun w a=>D0 0 0 14 rfl (Rn QSn ?_)
     replace a:=a.k16
     exact LT wn (I3 (dx:=[.bool f.1,b.v]) (us:=[.bool f.1,b.v]) a P0 e0 e0 rfl rfl (J3 rfl) rfl) fun w a=>Dw 0 0 (Rn QSn (jr (_,_,_,_) ((a.k1j).facts (S0 F2 (N0 (N0 (N0 (N0 E1))))))))
  ·refine LB wn (rAl a J4) fun m w a=>dU (Dm 0 959 [6,12] (Rn (qS rfl (sY rfl (lb_ (.bool i.1) O_4 e0 a R3) (qS rfl (sY rfl (lb_ (.bool k.1) O_4 e0 a R2) (sY rfl (Rb I0 e0 e0) (qS rfl (qS rfl (sY rfl (lb_ (.bool i.1) O_4 e0 a R3) (qS rfl QSn))))))))) ?_))
   refine La1 rfl ?_ (La1 rfl ?_ LAn)
   ·replace a:=a.k10
    replace a:=a.fz
    refine kO (w_e A F0 a) fun h w a=>dU (Dm 0 896 [10,12] (Rn (qS rfl (sY rfl (lb_ (.bool i.1) O_4 e0 a R3) (qS rfl QSn))) ?_))
    refine La1 rfl ?_ (La1 rfl ?_ LAn)
    ·refine kO (w_e j F1 a) fun b w a=>dU (D1 0 0 12 rfl (Rn QSn (LB wn (rAl a J4) fun n w a=>dU (D0 0 0 13 rfl (Rn QSn ?_)))))
     replace a:=a.k1g
     refine LT wn (I3 (dx:=[.bool d.1,h.v]) (us:=[.bool d.1,h.v]) a P0 e0 e0 rfl rfl (J3 rfl) rfl) fun w a=>D0 0 0 14 rfl (Rn QSn ?_)
     replace a:=a.k10
     exact LT wn (I3 (dx:=[.bool f.1,b.v]) (us:=[.bool f.1,b.v]) a P0 e0 e0 rfl rfl (J3 rfl) rfl) fun w a=>Dw 0 0 (Rn QSn (jr (_,_,_,_) ((a.k1j).facts (S0 F2 (N0 (N0 (N0 (N0 E1))))))))
    ·refine LB wn (rAl a J4) fun n w a=>dU (D1 0 896 10 rfl (Rn (qS rfl (sY rfl (lb_ (.bool i.1) O_4 e0 a R4) (qS rfl QSn))) (kO (w_e j F1 a) fun b w a=>dU (D0 0 0 13 rfl (Rn QSn ?_)))))
     replace a:=a.k1g
     refine LT wn (I3 (dx:=[.bool d.1,h.v]) (us:=[.bool d.1,h.v]) a P0 e0 e0 rfl rfl (J3 rfl) rfl) fun w a=>D0 0 0 14 rfl (Rn QSn ?_)
     replace a:=a.k16
     exact LT wn (I3 (dx:=[.bool f.1,b.v]) (us:=[.bool f.1,b.v]) a P0 e0 e0 rfl rfl (J3 rfl) rfl) fun w a=>Dw 0 0 (Rn QSn (jr (_,_,_,_) ((a.k1j).facts (S0 F2 (N0 (N0 (N0 (N0 E1))))))))
   ·refine LB wn (rAl a J4) fun n w a=>dU (D1 0 959 6 rfl (Rn (qS rfl (sY rfl (lb_ (.bool i.1) O_4 e0 a R4) (qS rfl (sY rfl (lb_ (.bool k.1) O_4 e0 a R3) (sY rfl (Rb I0 e0 e0) (qS rfl (qS rfl (sY rfl (lb_ (.bool i.1) O_4 e0 a R4) (qS rfl QSn))))))))) ?_))
    replace a:=(a.k16).fz
    refine kO (w_e A F0 a) fun h w a=>dU (D1 0 896 10 rfl (Rn (qS rfl (sY rfl (lb_ (.bool i.1) O_4 e0 a R4) (qS rfl QSn))) (kO (w_e j F1 a) fun b w a=>dU (D0 0 0 13 rfl (Rn QSn ?_)))))
    replace a:=a.k1g
    refine LT wn (I3 (dx:=[.bool d.1,h.v]) (us:=[.bool d.1,h.v]) a P0 e0 e0 rfl rfl (J3 rfl) rfl) fun w a=>D0 0 0 14 rfl (Rn QSn ?_)
    replace a:=a.k1g
    exact LT wn (I3 (dx:=[.bool f.1,b.v]) (us:=[.bool f.1,b.v]) a P0 e0 e0 rfl rfl (J3 rfl) rfl) fun w a=>Dw 0 0 (Rn QSn (jr (_,_,_,_) ((a.k1j).facts (S0 F2 (N0 (N0 (N0 (N0 E1))))))))
  ·refine LB wn (rAl a J4) fun n w a=>dU (Dm 0 959 [6,11] (Rn (qS rfl (sY rfl (lb_ (.bool i.1) O_4 e0 a R3) (qS rfl (sY rfl (lb_ (.bool k.1) O_4 e0 a R2) (sY rfl (Rb I0 e0 e0) (qS rfl (qS rfl (sY rfl (lb_ (.bool i.1) O_4 e0 a R3) (qS rfl QSn))))))))) ?_))
   refine La1 rfl ?_ (La1 rfl ?_ LAn)
   ·replace a:=a.k10
    replace a:=a.fz
    refine kO (w_e A F0 a) fun h w a=>dU (Dm 0 896 [10,11] (Rn (qS rfl (sY rfl (lb_ (.bool i.1) O_4 e0 a R3) (qS rfl QSn))) ?_))
    refine La1 rfl ?_ (La1 rfl ?_ LAn)
    ·refine kO (w_e j F1 a) fun b w a=>dU (D1 0 0 11 rfl (Rn QSn (LB wn (rAl a J4) fun m w a=>dU (D0 0 0 13 rfl (Rn QSn (LT wn (I3 (dx:=[.bool d.1,h.v]) (us:=[.bool d.1,h.v]) a P0 e0 e0 rfl rfl (J3 rfl) rfl) fun w a=>D0 0 0 14 rfl (Rn QSn ?_)))))))
     replace a:=a.k1g
     exact LT wn (I3 (dx:=[.bool f.1,b.v]) (us:=[.bool f.1,b.v]) a P0 e0 e0 rfl rfl (J3 rfl) rfl) fun w a=>Dw 0 0 (Rn QSn (jr (_,_,_,_) ((a.k1j).facts (S0 F2 (N0 (N0 (N0 (N0 E1))))))))
    ·refine LB wn (rAl a J4) fun m w a=>dU (D1 0 896 10 rfl (Rn (qS rfl (sY rfl (lb_ (.bool i.1) O_4 e0 a R4) (qS rfl QSn))) (kO (w_e j F1 a) fun b w a=>dU (D0 0 0 13 rfl (Rn QSn ?_)))))
     replace a:=a.k10
     refine LT wn (I3 (dx:=[.bool d.1,h.v]) (us:=[.bool d.1,h.v]) a P0 e0 e0 rfl rfl (J3 rfl) rfl) fun w a=>D0 0 0 14 rfl (Rn QSn ?_)
     replace a:=a.k1g
     exact LT wn (I3 (dx:=[.bool f.1,b.v]) (us:=[.bool f.1,b.v]) a P0 e0 e0 rfl rfl (J3 rfl) rfl) fun w a=>Dw 0 0 (Rn QSn (jr (_,_,_,_) ((a.k1j).facts (S0 F2 (N0 (N0 (N0 (N0 E1))))))))
   ·refine LB wn (rAl a J4) fun m w a=>dU (D1 0 959 6 rfl (Rn (qS rfl (sY rfl (lb_ (.bool i.1) O_4 e0 a R4) (qS rfl (sY rfl (lb_ (.bool k.1) O_4 e0 a R3) (sY rfl (Rb I0 e0 e0) (qS rfl (qS rfl (sY rfl (lb_ (.bool i.1) O_4 e0 a R4) (qS rfl QSn))))))))) ?_))
    replace a:=(a.k16).fz
    refine kO (w_e A F0 a) fun h w a=>dU (D1 0 896 10 rfl (Rn (qS rfl (sY rfl (lb_ (.bool i.1) O_4 e0 a R4) (qS rfl QSn))) (kO (w_e j F1 a) fun b w a=>dU (D0 0 0 13 rfl (Rn QSn ?_)))))
    replace a:=a.k16
    refine LT wn (I3 (dx:=[.bool d.1,h.v]) (us:=[.bool d.1,h.v]) a P0 e0 e0 rfl rfl (J3 rfl) rfl) fun w a=>D0 0 0 14 rfl (Rn QSn ?_)
    replace a:=a.k1g
    exact LT wn (I3 (dx:=[.bool f.1,b.v]) (us:=[.bool f.1,b.v]) a P0 e0 e0 rfl rfl (J3 rfl) rfl) fun w a=>Dw 0 0 (Rn QSn (jr (_,_,_,_) ((a.k1j).facts (S0 F2 (N0 (N0 (N0 (N0 E1))))))))
 rintro ⟨t,l,u,x⟩ g w a
 refine z 2 3 ?_;intro c3 c4 c w a
 refine jC (Bool×LI×Bool×LI×Hdr×Hdr) [4,5,8,9] (fun (r,E,o,F,s,p)=>[]) (fun (r,E,o,F,s,p) w=>St w0 (imm xw p.v F::ax) (box N 62 [.bool false,hnil.v]::box O 62 [.bool false,hnil.v]::row 126 xw s.v E::box t 62 [.bool r,s.v]::box u 62 [.bool o,p.v]::rs) w∧m_ia r E o F=some out) rfl ?_ ?_
 ·rintro ⟨r,E,o,F,s,p⟩ g w ⟨a,c⟩
  refine q 2 rfl (dS [2,3] 2 A1 ?_)
  replace a:=a.drew
  refine D0 3 0 2 rfl (rQ rfl (W1 [.bool r,s.v] P0 e0 a R3) (rQ rfl (W1 [.bool o,p.v] P0 e0 a R4) (Rn QSn (LT wn (I3 (dx:=[.bool r,s.v]) (us:=[.bool r,s.v]) a P0 e0 e0 rfl rfl (J3 rfl) rfl) fun w a=>D0 0 2 3 rfl (Rn (sY rfl (W1 [.bool o,p.v] P0 e0 a R4) QSn) ?_)))))
  replace a:=a.k10
  exact LT wn (I3 (dx:=[.bool o,p.v]) (us:=[.bool o,p.v]) a P0 e0 e0 rfl rfl (J3 rfl) rfl) fun w a=>Dw 0 0 (Rn QSn (qx 0 rfl vx))
 refine cI c (fun a6 c=>?_) fun a6 c=>?_
 ·refine q 1 rfl (bE c fun c5 a7 c=>bE c fun B a8 c=>dS [2,3,4] 3 A1 ?_)
  replace a:=a.drew
  refine D1 3 0 2 rfl (rQ rfl (W1 [.bool f.1,x.v] P0 e0 a R5) (rQ rfl (W1 [.bool k.1,y.v] P0 e0 a R0) (Rn QSn (kO (w_j a7 F1 a) fun c6 w a=>dU (D1 0 1 3 rfl (Rn (sY rfl (W1 [.bool f.1,x.v] P0 e0 a R6) QSn) ?_))))))
  replace a:=a.fz
  refine kO (w_q a8 F1 F0 a) fun G w a=>dU (D0 0 0 4 rfl (Rn QSn ?_))
  replace a:=a.k1l
  refine LT wn (I3 (dx:=[.bool B.1,G.v]) (us:=[.bool B.1,G.v]) a P0 e0 e0 rfl rfl (J3 rfl) rfl) fun w a=>Dw 0 0 (Rn QSn (qx 0 rfl ?_))
  refine z 1 2 ?_
  refine jC (Bool×LI×Hdr) [4,5,8,9] (fun (H,I,J)=>[]) (fun (H,I,J) w=>St w0 ax (box N 62 [.bool false,hnil.v]::box O 62 [.bool false,hnil.v]::row 126 xw J.v I::box t 62 [.bool H,J.v]::row 126 xw G.v B.2::box u 62 [.bool B.1,G.v]::rs) w∧m_ib B H I=some out) rfl ?_ ?_
  ·rintro ⟨H,I,J⟩ g w ⟨a,c⟩
   replace a:=(a.k1m).fz
   exact vx
  refine cJ c (fun a9 c=>?_) fun a9 c=>?_
  ·refine bE c fun c7 b0 c=>bE c fun W b1 c=>dS [1,2,3] 3 A1 ?_
   replace a:=a.drew
   refine D1 1 0 1 rfl (rQ rfl (W1 [.bool d.1,l.v] P0 e0 a R6) (Rn QSn (kO (w_f b0 a) fun c8 w a=>dU (D1 0 1 2 rfl (Rn (sY rfl (W1 [.bool d.1,l.v] P0 e0 a R7) QSn) ?_)))))
   replace a:=((a.k1l).fz).fz
   refine kO (w_q b1 F1 F0 a) fun X w a=>dU (D0 0 0 3 rfl (Rn QSn ?_))
   replace a:=a.k1l
   exact LT wn (I3 (dx:=[.bool W.1,X.v]) (us:=[.bool W.1,X.v]) a P0 e0 e0 rfl rfl (J3 rfl) rfl) fun w a=>Dw 0 0 (Rn QSn (qx 0 rfl vx))
  ·refine bE c fun c9 b2 c=>bE c fun Z b3 c=>dS [1,2,3] 3 A1 ?_
   replace a:=a.drew
   refine D1 1 0 1 rfl (rQ rfl (W1 [.bool d.1,l.v] P0 e0 a R6) (Rn QSn (kO (w_f b2 a) fun d0 w a=>dU (D1 0 1 2 rfl (Rn (sY rfl (W1 [.bool d.1,l.v] P0 e0 a R7) QSn) ?_)))))
   replace a:=((a.k1l).fz).fz
   refine kO (w_r b3 F1 F0 a) fun a0 w a=>dU (D0 0 0 3 rfl (Rn QSn ?_))
   replace a:=a.k1l
   exact LT wn (I3 (dx:=[.bool Z.1,a0.v]) (us:=[.bool Z.1,a0.v]) a P0 e0 e0 rfl rfl (J3 rfl) rfl) fun w a=>Dw 0 0 (Rn QSn (qx 0 rfl vx))
 ·exact vx
instance:CL prog 127 (type_of% @eo):=⟨@eo⟩
theorem Bf {p:Bool} {r:LI} {s:Bool} {t:LI} {u x:Hdr} {out:Bool×LI} (c:m_ie p r s t=some out) (E:imm xw u.v r∈ax) (F:imm xw x.v t∈ax) (a:St w0 ax rs w):
  Calls prog 126 #[.agg #[.bool p,u.v],.agg #[.bool s,x.v]] w (rb w0 ax rs out):=by
 refine en func126 rfl ntmps126 fun Q G=>?_
 refine z 3 3 ?_;intro H w a I w a j w a
 refine bE c fun y J c=>bE c fun A K c=>?_
 refine jN (Nat×Hdr×Nat×Hdr) [4] (fun (b,e,d,f)=>[(5,(pB b)),(6,(pB d))]) (fun (b,e,d,f)=>St w0 ax (box j 62 [.bool false,hnil.v]::row 126 xw e.v y.2::box b 62 [.bool y.1,e.v]::row 126 xw f.v A.2::box d 62 [.bool A.1,f.v]::rs)) rfl ?_ ?_
 ·refine dS [1,3,4,5,6,7] 6 A1 ?_
  replace a:=a.drew
  exact zx
 rintro ⟨b,e,d,f⟩ g w a
 refine q 3 rfl ?_
 obtain ⟨⟨B,C⟩,D,c⟩:=bs c
 replace a:=(((a.k10).fz).k16).fz
 refine lpN (Hdr×Hdr) Hdr D [4,5,6] (fun (k,l,m,n) (h,i)=>[]) (fun (k,l,m,n) (h,i)=>St w0 (imm xw h.v l::imm xw i.v n::ax) (box j 62 [.bool false,hnil.v]::box b 62 [.bool k,h.v]::box d 62 [.bool m,i.v]::rs)) (fun | (B,C),o=>(.exit 0,[],St w0 (imm xw o.v C::ax) (box j 62 [.bool false,hnil.v]::box b 62 [.bool B,o.v]::rs))) rfl (_,_) (a.facts (S0 F1 (S0 F0 (N0 (N0 E1))))) rfl ?_ ?_
 ·clear a
  rintro o g w a
  exact vx
 rintro ⟨k,l,m,n⟩ ⟨h,i⟩ g w L a c
 exact vx
instance:CL prog 126 (type_of% @Bf):=⟨@Bf⟩
theorem cb {b:Bool} {d:LI} {f:Bool} {g:LI} {h i:Hdr} {out:Bool×LI×Bool} (c:m_if b d f g=some out) (l:imm xw h.v d∈ax) (m:imm xw i.v g∈ax) (a:St w0 ax rs w):
  Calls prog 125 #[.agg #[.bool b,h.v],.agg #[.bool f,i.v]] w (fun e w=>∃ (j:Hdr),e=.returned (.tuple #[.agg #[.bool out.1,j.v],.bool out.2.2])∧St w0 ax (row 126 xw j.v out.2.1::rs) w):=by
 refine en func125 rfl ntmps125 fun Q k=>?_
 refine v 0 ?_
 refine fun _ _ _ _ _ _ _ _ _ _ _ _ _ _ _ _ _ _ _ _ _ _ _ _ _ _ _ _ _ _ a=>⟨vt,fun _ c _ a=>?_⟩
 cases c
 replace a:=a.rowNh 126 xw
 exact k _ _ _ (I4 results125 (C4 rfl rfl a R1 P0 rfl) ⟨rfl,rfl⟩ ⟨_,rfl,((a.k1t).fc)⟩)
instance:CL prog 125 (type_of% @cb):=⟨@cb⟩
theorem Fi {b:Bool} {d:LI} {f:Bool} {g:LI} {h i:Hdr} {out:Bool×LI×Bool×LI} (c:m_ih b d f g=some out) (l:imm xw h.v d∈ax) (m:imm xw i.v g∈ax) (a:St w0 ax rs w):
  Calls prog 123 #[.agg #[.bool b,h.v],.agg #[.bool f,i.v]] w (fun e w=>∃ (j k:Hdr),e=.returned (.agg #[.bool out.1,j.v,.bool out.2.2.1,k.v])∧St w0 ax (row 126 xw j.v out.2.1::row 126 xw k.v out.2.2.2::rs) w):=by
 refine en func123 rfl ntmps123 fun Q n=>?_
 refine v 0 ?_
 refine fun _ _ _ _ _ _ _ _ _ _ _ _ _ _ _ _ _ _ _ _ _ _ _ _ a=>⟨fun _ _ _ _ c _ _ _ _ a=>?_,vt⟩
 replace a:=(a.k10).fz
 exact vx
instance:CL prog 123 (type_of% @Fi):=⟨@Fi⟩
theorem Af {i:Bool} {m:LI} {j:Bool} {n:LI} {o:Bool} {p:LI} {q:Bool} {r:LI} {s:Bool} {t:LI} {u:Bool} {x:LI} {y:Bool} {A:LI} {B:Bool} {C:LI} {k l D E F G H I:Hdr} {out:Bool×LI×Bool×LI} (c:m_ii i m j n o p q r s t u x y A B C=some out) (O:imm xw k.v m∈ax) (R:imm xw l.v n∈ax) (S:imm xw D.v p∈ax) (T:imm xw E.v r∈ax) (U:imm xw F.v t∈ax) (V:imm xw G.v x∈ax) (W:imm xw H.v A∈ax) (X:imm xw I.v C∈ax) (a:St w0 ax rs w):
  Calls prog 122 #[.agg #[.bool i,k.v,.bool j,l.v],.agg #[.bool o,D.v,.bool q,E.v],.agg #[.bool s,F.v,.bool u,G.v],.agg #[.bool y,H.v,.bool B,I.v]] w (fun e w=>∃ (J K:Hdr),e=.returned (.agg #[.bool out.1,J.v,.bool out.2.2.1,K.v])∧St w0 ax (row 126 xw J.v out.2.1::row 126 xw K.v out.2.2.2::rs) w):=by
 refine en func122 rfl ntmps122 fun Q Z=>?_
 refine z 5 3 ?_;intro L w a a0 w a a1 w a a2 w a N w a
 refine bE c fun a3 a4 c=>bE c fun a5 a6 c=>bE c fun a7 a8 c=>bE c fun a9 b0 c=>bE c fun b b1 c=>?_
 refine jN (Nat×Hdr×Hdr) [4,8] (fun (d,f,h)=>[(9,(pB d))]) (fun (d,f,h)=>St w0 ax (box L 118 [.bool i,k.v,.bool j,l.v]::box N 118 [.bool false,hnil.v,.bool false,hnil.v]::row 126 xw f.v b.2.1::row 126 xw h.v b.2.2.2::box d 118 [.bool b.1,f.v,.bool b.2.2.1,h.v]::rs)) rfl ?_ ?_
 ·refine dS [4,7,12,15,16,17,18] 7 A1 ?_
  replace a:=a.drew
  exact zx
 rintro ⟨d,f,h⟩ g w a
 exact vx
instance:CL prog 122 (type_of% @Af):=⟨@Af⟩
theorem zf {d6:List (List (Bool×LI×Bool×LI))} {b2:Int} {d:Hdr} {d7:List Hdr} {out:(List (List (Bool×LI×Bool×LI)))×LI×Bool×LI×Bool×LI} (c:m_ip d6 b2=some out) (a:St w0 ax (row 147 rH d.v d7::fam 118 (rP rB (rP (rS xw) Cw)) d7 d6::rs) w):
  Calls prog 83 #[d.v,iV b2] w (fun e w=>∃ (d8:List Hdr) (d9 e1 e2:Hdr),e=.returned (.tuple #[d9.v,.agg #[.bool out.2.2.1,e1.v,.bool out.2.2.2.2.1,e2.v]])∧St w0 ax (row 147 rH d.v d8::fam 118 (rP rB (rP (rS xw) Cw)) d8 out.1::row 3 I1 d9.v out.2.1::row 126 xw e1.v out.2.2.2.1::row 126 xw e2.v out.2.2.2.2.2::rs) w):=by
 refine en func83 rfl ntmps83 fun Q h4=>?_
 refine z 6 14 ?_;intro k w a k5 k6 c k7 w a k8 k9 c l0 w a m w a w a
 obtain ⟨⟨e3,e4,e5,e6,e7,e8⟩,h5,c⟩:=bs c
 replace a:=a.rowNh 3 I1
 refine lpN ((List Hdr)×Hdr×Hdr×Hdr) ((List Hdr)×Hdr×Hdr×Hdr) h5 [0,1,5,6] (fun (F,G,H,p,t,h,x) (r,s,f,i)=>[(7,i.v),(8,iV x)]) (fun (F,G,H,p,t,h,x) (r,s,f,i)=>St w0 ax (row 147 rH d.v r::fam 118 (rP rB (rP (rS xw) Cw)) r F::box k 118 [.bool false,hnil.v,.bool false,hnil.v]::row 126 xw s.v H::row 126 xw f.v t::box m 118 [.bool G,s.v,.bool p,f.v]::row 3 I1 i.v h::rs)) (fun | (e3,e4,e5,e6,e7,e8),(b3,b4,b6,b7)=>(.exit 0,[(7,b7.v)],St w0 ax (row 147 rH d.v b3::fam 118 (rP rB (rP (rS xw) Cw)) b3 e3::box k 118 [.bool false,hnil.v,.bool false,hnil.v]::row 126 xw b4.v e5::row 126 xw b6.v e7::box m 118 [.bool e4,b4.v,.bool e6,b6.v]::row 3 I1 b7.v e8::rs))) rfl (_,_,_,_) (a.k1y) rfl ?_ ?_
 ·clear a
  rintro ⟨b3,b4,b6,b7⟩ g w a
  refine q 3 rfl (dS [2,3] 2 A1 ?_)
  replace a:=a.drew
  refine z 4 2 ?_;intro w a
  cases c
  exact h4 _ _ _ (I4 results83 ⟨rfl,rfl⟩ (C4 rfl rfl a R0 K5 rfl) ⟨_,_,_,_,rfl,(a.k1z)⟩)
 rintro ⟨F,G,H,p,t,h,x⟩ ⟨r,s,f,i⟩ g w e9 a c
 refine q 8 rfl (cI c (fun h6 c=>?_) fun h6 c=>?_)
 ·refine q 3 rfl ?_
  refine jC ((List (List (Bool×LI×Bool×LI)))×Bool×LI×Bool×LI×LI×(List Hdr)×Hdr×Hdr×Hdr) [0,1,5,6,8] (fun (L,N,O,R,S,T,U,V,W,X)=>[(7,X.v)]) (fun (L,N,O,R,S,T,U,V,W,X) w=>St w0 ax (row 147 rH d.v U::fam 118 (rP rB (rP (rS xw) Cw)) U L::box k 118 [.bool false,hnil.v,.bool false,hnil.v]::row 126 xw V.v O::row 126 xw W.v S::box m 118 [.bool N,V.v,.bool R,W.v]::row 3 I1 X.v T::rs) w∧m_ij x L N O R S T=some e9) rfl ?_ ?_
  ·rintro ⟨L,N,O,R,S,T,U,V,W,X⟩ g w ⟨a,c⟩
   refine q 6 rfl ?_
   cases c
   exact ln (_,_,_,_) a
  refine z 1 11 ?_
  refine bE c fun f0 h8 c=>?_
  refine lp h8 [0,1,5,6,7,8,9] (fun b8=>[(10,iV b8)]) (fun b8=>St w0 ax (row 147 rH d.v r::fam 118 (rP rB (rP (rS xw) Cw)) r F::box k 118 [.bool false,hnil.v,.bool false,hnil.v]::row 126 xw s.v H::row 126 xw f.v t::box m 118 [.bool G,s.v,.bool p,f.v]::row 3 I1 i.v h::rs)) (fun | f0=>(.exit 2,[(10,iV f0)],St w0 ax (row 147 rH d.v r::fam 118 (rP rB (rP (rS xw) Cw)) r F::box k 118 [.bool false,hnil.v,.bool false,hnil.v]::row 126 xw s.v H::row 126 xw f.v t::box m 118 [.bool G,s.v,.bool p,f.v]::row 3 I1 i.v h::rs))) rfl a rfl ?_ ?_
  ·clear a
   intro g w a
   refine q 7 rfl (y (K6 L5 e0 a rO0 R1) (q 3 rfl (cI c (fun i0 c=>?_) fun i0 c=>?_)))
   ·exact q 3 rfl (jx (_,_,_,_,_,_,_,_,_,_) ⟨a,c⟩)
   ·refine q 10 rfl ?_
    refine jC ((List (List (Bool×LI×Bool×LI)))×Bool×LI×(List Hdr)×Hdr) [0,1,5,6,7,8,9] (fun (Z,J,a0,j,K)=>[]) (fun (Z,J,a0,j,K) w=>St w0 ax (row 147 rH d.v j::fam 118 (rP rB (rP (rS xw) Cw)) j Z::box k 118 [.bool false,hnil.v,.bool false,hnil.v]::row 126 xw K.v a0::row 126 xw f.v t::box m 118 [.bool J,K.v,.bool p,f.v]::row 3 I1 i.v h::rs) w∧m_im h x p t b2 Z J a0=some e9) rfl ?_ ?_
    ·rintro ⟨Z,J,a0,j,K⟩ g w ⟨a,c⟩
     refine bE c fun l1 b9 c=>bE c fun c0 f1 c=>bE c fun l2 i1 c=>bE c fun l3 a1 c=>bE c fun I c1 c=>bE c fun l4 i2 c=>bE c fun b l5 c=>q 2 rfl (dS [10,21,22,23] 4 A1 ?_)
     replace a:=a.drew
     refine D1 2096127 0 10 rfl (qR 1 rfl (rQ rfl (W1 [.bool J,K.v] P0 e0 a R5) (qR 2 rfl ?_)))
     obtain ⟨l6,a2⟩:=a.famI R1 b9
     refine rQ rfl (yIa L5 e0 e0 a rO0 a2) (rQ rfl (yF1 D6 e0 a rO0 a2 rfl) (qR 1 rfl (rQ rfl (yIa Y3 e0 e0 a (rdF R1 a2 b9) f1) (rQ rfl (yFe jf e0) ?_))))
     obtain ⟨l7,l8,cc5068,a⟩:=a.ld (rdF R1 a2 b9) f1
     replace a:=a.eltP
     obtain ⟨l9,m0,rfl,a⟩:=a
     replace a:=a.eltB
     obtain ⟨rfl,a⟩:=a
     replace a:=a.eltP
     obtain ⟨m1,m2,rfl,a⟩:=a
     replace a:=a.eltS
     obtain ⟨f2,rfl,a⟩:=a
     replace a:=a.swf.eltP
     obtain ⟨m3,m4,rfl,a⟩:=a
     replace a:=a.eltB
     obtain ⟨rfl,a⟩:=a
     replace a:=a.eltS
     obtain ⟨i3,rfl,a⟩:=a
     refine rQ rfl (w6 (cs:=[.bool c0.1,f2.v,.bool c0.2.2.1,i3.v]) (us:=[.bool c0.1,f2.v]) P0 e0 cc5068 rfl rfl) (qR 1 rfl (rQ rfl (W1 [.bool p,f.v] P0 e0 a R5) (qR 2 rfl ?_)))
     obtain ⟨m5,D⟩:=a.famI R1 a1
     refine rQ rfl (yIa L5 e0 e0 a rO0 D) (rQ rfl (yF1 D6 e0 a rO0 D rfl) (qR 1 rfl (rQ rfl (yIa Y3 e0 e0 a (rdF R1 D a1) c1) (rQ rfl (yFe L7 e0) ?_))))
     replace a:=(a.k10).pin0
     obtain ⟨m6,a⟩:=St.pinF D a1 a c1
     obtain ⟨m7,m8,rfl,a⟩:=a.eltP
     obtain ⟨rfl,a⟩:=a.eltB
     obtain ⟨m9,n0,rfl,a⟩:=a.eltP
     obtain ⟨f3,rfl,a⟩:=a.eltS
     replace a:=a.swf
     obtain ⟨n1,n2,rfl,a⟩:=a.eltP
     obtain ⟨rfl,a⟩:=a.eltB
     obtain ⟨a3,rfl,a⟩:=a.eltS
     refine rQ rfl (w6 (cs:=[.bool I.1,f3.v,.bool I.2.2.1,a3.v]) (us:=[.bool I.2.2.1,a3.v]) P0 e0 (a.cAtP R0 mhP) rfl rfl) (Rn QSn ?_)
     replace a:=(a.k1g).fz
     refine kO (aa i1 F0 F4 a) fun n3 w a=>dU (D1 0 2095104 21 rfl (Rn (qS rfl (sY rfl (W1 [.bool p,f.v] P0 e0 a R5) (qS rfl (qS rfl (sY rfl (yIa L5 e0 e0 a rO2 D) (sY rfl (yF1 D6 e0 a rO2 D rfl) (qS rfl (sY rfl (yIa Y3 e0 e0 a (Vr R1 D a1) c1) (sY rfl (yFe L7 e0) (sY rfl (w6 (cs:=[.bool I.1,f3.v,.bool I.2.2.1,a3.v]) (us:=[.bool I.2.2.1,a3.v]) P0 e0 (a.cAtP R1 mhP) rfl rfl) QSn)))))))))) ?_))
     replace a:=(a.k1m).fz
     refine kO (aa i2 F0 F2 a) fun n4 w a=>dU ?_
     refine z 2 0 ?_;intro A B w a w a
     refine Dw 0 0 (Rn QSn ?_)
     replace a:=(a.k1g).unpin
     refine bE c fun f4 i4 c=>qx 10 rfl ?_
     refine lp i4 [0,1,5,6,7,8,9] (fun (c2,c3)=>[(11,iV c3)]) (fun (c2,c3)=>St w0 ax (row 147 rH d.v j::fam 118 (rP rB (rP (rS xw) Cw)) j c2::box k 118 [.bool false,hnil.v,.bool false,hnil.v]::row 126 xw A.v b.2.1::row 126 xw B.v b.2.2.2::box m 118 [.bool b.1,A.v,.bool b.2.2.1,B.v]::row 3 I1 i.v h::rs)) (fun | f4=>(.exit 4,[],St w0 ax (row 147 rH d.v j::fam 118 (rP rB (rP (rS xw) Cw)) j f4::box k 118 [.bool false,hnil.v,.bool false,hnil.v]::row 126 xw A.v b.2.1::row 126 xw B.v b.2.2.2::box m 118 [.bool b.1,A.v,.bool b.2.2.1,B.v]::row 3 I1 i.v h::rs))) rfl ((a.k20).fc) rfl ?_ ?_
     ·clear a
      intro g w a
      refine q 5 rfl (yh (rLt (n:=1) (l:=[x]) a V0 [iV x] (bp1 e0) rfl rfl (U1 (cs:=[iV x]) rfl mkI E2)) fun n5 w a=>?_)
      refine z 1 3 ?_;intro n6 n7 c n8 w a
      exact jx (_,_,_,_,_,_,_,_,_,_) ⟨(a.k22),c⟩
     rintro ⟨c2,c3⟩ g w n9 a c
     refine q 5 rfl (y (K6 L5 e0 a rO0 R1) (q 3 rfl (cI c (fun i5 c=>?_) fun i5 c=>?_)))
     ·refine q 8 rfl (bE c fun o0 c4 c=>?_)
      obtain ⟨o1,a4⟩:=a.famI R1 c4
      refine y (yIa L5 e0 e0 a rO0 a4) (y (yF1 D6 e0 a rO0 a4 rfl) (bE c fun C f5 c=>q 1 rfl (y (yIa Y3 e0 e0 a (rdF R1 a4 c4) f5) ?_)))
      obtain ⟨o2,o3,cc5398,a⟩:=a.ld (rdF R1 a4 c4) f5
      replace a:=a.eltP
      obtain ⟨o4,o5,rfl,a⟩:=a
      replace a:=a.eltB
      obtain ⟨rfl,a⟩:=a
      replace a:=a.eltP
      obtain ⟨o6,o7,rfl,a⟩:=a
      replace a:=a.eltS
      obtain ⟨a5,rfl,a⟩:=a
      replace a:=a.swf.eltP
      obtain ⟨o8,o9,rfl,a⟩:=a
      replace a:=a.eltB
      obtain ⟨rfl,a⟩:=a
      replace a:=a.eltS
      obtain ⟨a6,rfl,a⟩:=a
      refine y (yCn (cs:=[.bool C.1,a5.v,.bool C.2.2.1,a6.v]) K5 rfl e0 cc5398) ?_
      refine z 2 9 ?_;intro i6 w a w a
      refine bE c fun f6 i7 c=>?_
      refine lp i7 [0,1,5,6,7,8,9,11,12] (fun (c5,c6)=>[(13,iV c6)]) (fun (c5,c6)=>St w0 (imm xw a5.v C.2.1::imm xw a6.v C.2.2.2::ax) (row 147 rH d.v j::fam 118 (rP rB (rP (rS xw) Cw)) j c5::box k 118 [.bool false,hnil.v,.bool false,hnil.v]::row 126 xw A.v b.2.1::row 126 xw B.v b.2.2.2::box m 118 [.bool b.1,A.v,.bool b.2.2.1,B.v]::row 3 I1 i.v h::box i6 118 [.bool C.1,a5.v,.bool C.2.2.1,a6.v]::rs)) (fun | f6=>(.exit 6,[],St w0 ax (row 147 rH d.v j::fam 118 (rP rB (rP (rS xw) Cw)) j f6::box k 118 [.bool false,hnil.v,.bool false,hnil.v]::row 126 xw A.v b.2.1::row 126 xw B.v b.2.2.2::box m 118 [.bool b.1,A.v,.bool b.2.2.1,B.v]::row 3 I1 i.v h::rs))) rfl ((a.k23).facts (S0 F1 (S0 F0 (N0 (N0 E1))))) rfl ?_ ?_
      ·clear a
       intro g w a
       refine q 8 rfl ?_
       cases c
       exact lo a
      rintro ⟨c5,c6⟩ g w p0 a c
      refine q 8 rfl (cI c (fun i8 c=>?_) fun i8 c=>?_)
      ·refine q 4 rfl (bE c fun p1 c7 c=>bE c fun p2 c8 c=>bE c fun f7 f8 c=>bE c fun p3 c9 c=>bE c fun f9 g0 c=>bE c fun p4 d0 c=>bE c fun g1 g2 c=>bE c fun g3 i9 c=>bE c fun p5 g4 c=>bE c fun p6 j0 c=>dS [27,29] 2 A1 ?_)
       replace a:=a.drew
       refine D1 134217727 0 27 rfl (qR 2 rfl ?_)
       obtain ⟨p7,E⟩:=a.famI R1 c7
       refine rQ rfl (yIa L5 e0 e0 a rO0 E) (rQ rfl (yF1 D6 e0 a rO0 E rfl) (qR 3 rfl ?_))
       obtain ⟨p8,a7⟩:=a.famI R1 c8
       refine rQ rfl (yIa L5 e0 e0 a rO0 a7) (rQ rfl (yF1 D6 e0 a rO0 a7 rfl) (qR 1 rfl (rQ rfl (yIa Y3 e0 e0 a (rdF R1 a7 c8) f8) ?_)))
       obtain ⟨p9,q0,cc5522,a⟩:=a.ld (rdF R1 a7 c8) f8
       replace a:=a.eltP
       obtain ⟨q1,q2,rfl,a⟩:=a
       replace a:=a.eltB
       obtain ⟨rfl,a⟩:=a
       replace a:=a.eltP
       obtain ⟨q3,q4,rfl,a⟩:=a
       replace a:=a.eltS
       obtain ⟨j1,rfl,a⟩:=a
       replace a:=a.swf.eltP
       obtain ⟨q5,q6,rfl,a⟩:=a
       replace a:=a.eltB
       obtain ⟨rfl,a⟩:=a
       replace a:=a.eltS
       obtain ⟨j2,rfl,a⟩:=a
       refine rQ rfl (yCn (cs:=[.bool f7.1,j1.v,.bool f7.2.2.1,j2.v]) K5 rfl e0 cc5522) (rQ rfl (W1 [.bool C.1,a5.v,.bool C.2.2.1,a6.v] K5 e0 a R7) (qR 2 rfl ?_))
       obtain ⟨q7,a8⟩:=a.famI R1 c9
       refine rQ rfl (yIa L5 e0 e0 a rO0 a8) (rQ rfl (yF1 D6 e0 a rO0 a8 rfl) (qR 1 rfl (rQ rfl (yIa Y3 e0 e0 a (rdF R1 a8 c9) g0) ?_)))
       obtain ⟨q8,q9,cc5529,a⟩:=a.ld (rdF R1 a8 c9) g0
       replace a:=a.eltP
       obtain ⟨r0,r1,rfl,a⟩:=a
       replace a:=a.eltB
       obtain ⟨rfl,a⟩:=a
       replace a:=a.eltP
       obtain ⟨r2,r3,rfl,a⟩:=a
       replace a:=a.eltS
       obtain ⟨j3,rfl,a⟩:=a
       replace a:=a.swf.eltP
       obtain ⟨r4,r5,rfl,a⟩:=a
       replace a:=a.eltB
       obtain ⟨rfl,a⟩:=a
       replace a:=a.eltS
       obtain ⟨j4,rfl,a⟩:=a
       refine rQ rfl (yCn (cs:=[.bool f9.1,j3.v,.bool f9.2.2.1,j4.v]) K5 rfl e0 cc5529) (qR 2 rfl ?_)
       obtain ⟨r7,a9⟩:=a.famI R1 d0
       refine rQ rfl (yIa L5 e0 e0 a rO0 a9) (rQ rfl (yF1 D6 e0 a rO0 a9 rfl) (qR 1 rfl (rQ rfl (yIa Y3 e0 e0 a (rdF R1 a9 d0) g2) ?_)))
       obtain ⟨r9,s0,cc5536,a⟩:=a.ld (rdF R1 a9 d0) g2
       replace a:=a.eltP
       obtain ⟨s1,s2,rfl,a⟩:=a
       replace a:=a.eltB
       obtain ⟨rfl,a⟩:=a
       replace a:=a.eltP
       obtain ⟨s3,s4,rfl,a⟩:=a
       replace a:=a.eltS
       obtain ⟨j5,rfl,a⟩:=a
       replace a:=a.swf.eltP
       obtain ⟨s5,s6,rfl,a⟩:=a
       replace a:=a.eltB
       obtain ⟨rfl,a⟩:=a
       replace a:=a.eltS
       obtain ⟨j6,rfl,a⟩:=a
       refine rQ rfl (yCn (cs:=[.bool g1.1,j5.v,.bool g1.2.2.1,j6.v]) K5 rfl e0 cc5536) (Rn QSn (kT_ (Af i9 F5 F4 F6 F7 F3 F2 F1 F0 a) fun j7 j8 w a=>dU (D0 268435456 31 29 rfl (rQ rfl (yIs Y3 e0 e0 a (rdF R3 E c7) g4) (Rn (qS rfl (qS rfl (sY rfl (yIa L5 e0 e0 a rO2 E) (sY rfl (yF1 D6 e0 a rO2 E rfl) (qS rfl QSn))))) ?_)))))
       replace a:=(a.fz.fz).k10
       refine LT wn (C8 (cs:=[.bool g3.1,j7.v,.bool g3.2.2.1,j8.v]) (a.foc E c7) K5 e0 e0 rfl (mkP mkB (mkP (mkS F1) (mkP mkB (mkS F0)))) g4) fun w a=>?_
       replace a:=a.unfoc' E j0
       refine z 1 7 ?_
       cases c
       exact lo ((a.k24).facts (S0 F8 (S0 F9 (N0 (N0 (N0 (N0 (N0 (N0 (N0 (N0 (N0 (N0 E1)))))))))))))
      ·refine q 2 rfl ?_
       cases c
       exact xo ((a.k25).fc)
     ·refine q 2 rfl ?_
      cases c
      exact xo a
    refine cIn c (fun j9 c=>?_) fun j9 c=>?_
    ·exact q 1 rfl (jx (_,_,_,_,_) ⟨a,c⟩)
    ·refine q 1 rfl (bE c fun s7 g5 c=>bE c fun s8 g6 c=>bE c fun s9 d1 c=>bE c fun t0 g7 c=>dS [13,15] 2 A1 ?_)
     replace a:=a.drew
     refine D0 8191 0 13 rfl (qR 6 rfl ?_)
     obtain ⟨g8,d2⟩:=a.famI R1 g5
     refine rQ rfl (yIa L5 e0 e0 a rO0 d2) (rQ rfl (yF1 D6 e0 a rO0 d2 rfl) (qR 2 rfl ?_))
     obtain ⟨g9,d3⟩:=a.famI R1 g6
     refine rQ rfl (yIa L5 e0 e0 a rO0 d3) (rQ rfl (yF1 D6 e0 a rO0 d3 rfl) ?_)
     obtain ⟨t1,b0⟩:=H9 (u:=g8) d1 (a.famL (mtR mhR))
     refine rQ rfl (yIs L5 e0 e0 a rO0 b0) (Rn QSn (LT wn (S3 (cs:=[g8.v]) a D6 rfl e0 e0 rfl (mkF rfl) b0) fun w a=>D0 16384 12 15 rfl ?_))
     obtain ⟨t2,d4⟩:=H9 (u:=g9) g7 (Rf d1 b0 (a.famL (mtR mhR)))
     refine rQ rfl (yIs L5 e0 e0 a rO0 d4) (Rn (qS rfl (qS rfl QSn)) (LT wn (S3 (cs:=[g9.v]) a D6 rfl e0 e0 rfl (mkF rfl) d4) fun w a=>?_))
     replace a:=(a.k10).fswap d2 g5 d3 g6 b0 d1 d4 g7
     refine z 4 1 ?_;intro t3 t4 c t5 w a w a
     exact jx (_,_,_,_,_) ⟨((a.k26).fc),c⟩
  rintro b8 g w t6 a c
  refine q 5 rfl (y (K6 L5 e0 a rO0 R1) (bE c fun k0 o c=>q 2 rfl ?_))
  refine jW 9 [0,1,5,6,7,8,9,10] [(38,.bool k0)] (St w0 ax (row 147 rH d.v r::fam 118 (rP rB (rP (rS xw) Cw)) r F::box k 118 [.bool false,hnil.v,.bool false,hnil.v]::row 126 xw s.v H::row 126 xw f.v t::box m 118 [.bool G,s.v,.bool p,f.v]::row 3 I1 i.v h::rs)) rfl (fun h0=>?_) ?_
  ·refine gI 29 o rfl (fun k1 o=>?_) fun k1 o=>?_
   ·refine q 2 rfl (bE o fun t7 d5 o=>?_)
    obtain ⟨t8,b1⟩:=a.famI R1 d5
    refine y (yIa L5 e0 e0 a rO0 b1) (y (yF1 D6 e0 a rO0 b1 rfl) (bE o fun h1 h3 o=>q 1 rfl (y (yIa Y3 e0 e0 a (rdF R1 b1 d5) h3) ?_)))
    obtain ⟨t9,u0,cc5575,a⟩:=a.ld (rdF R1 b1 d5) h3
    replace a:=a.eltP
    obtain ⟨u1,u2,rfl,a⟩:=a
    replace a:=a.eltB
    obtain ⟨rfl,a⟩:=a
    replace a:=a.eltP
    obtain ⟨u3,u4,rfl,a⟩:=a
    replace a:=a.eltS
    obtain ⟨k2,rfl,a⟩:=a
    replace a:=a.swf.eltP
    obtain ⟨u5,u6,rfl,a⟩:=a
    replace a:=a.eltB
    obtain ⟨rfl,a⟩:=a
    replace a:=a.eltS
    obtain ⟨k3,rfl,a⟩:=a
    refine y (yCn (cs:=[.bool h1.1,k2.v,.bool h1.2.2.1,k3.v]) K5 rfl e0 cc5575) (bE o fun u7 u8 o=>?_)
    refine z 1 1 ?_;intro w a
    cases o
    exact h0 _ _ (a.fc) rfl
   ·refine q 9 rfl ?_
    cases o
    exact h0 _ _ a rfl
  intro g w a
  refine q 2 rfl ?_
  refine cJ c (fun k4 c=>?_) fun k4 c=>?_
  ·refine q 9 rfl ?_
   cases c
   exact lo a
  ·refine q 2 rfl ?_
   cases c
   exact xo a
 ·refine q 2 rfl ?_
  cases c
  exact lx (_,_,_,_) a
instance:CL prog 83 (type_of% @zf):=⟨@zf⟩
end Go.Proofs.YthekfonboblioabGreatDoor
