/- Walks: each function computes its model, printed. -/
import Derived.Test.YthekfonboblioacGreatDoorW7
namespace Go.Proofs.YthekfonboblioacGreatDoor
open Go Sx M Go.Proofs.Tryz
set_option maxRecDepth 100000
set_option maxHeartbeats 40000000
set_option linter.unusedVariables false
attribute [local irreducible] wpList Code.wp Calls DR QR QS LA LS St row box fam imm rowS loop
variable {w0:World} {ros:List Fact} {rs:List Res} {w:World}
theorem Vn {b:LI} {d:Hdr} {out:Bool} (c:m_gk b=some out) (e:imm (rI .u32) d.v b∈ros) (a:St w0 ros rs w):
  Calls prog 156 #[d.v,.func (.func 157) #[] #[]] w (rv w0 ros rs (.bool out)):=by
 exact en func156 rfl ntmps156 fun Q f=>vx
instance:CL prog 156 (type_of% @Vn):=⟨@Vn⟩
theorem Un {k:LI} {i:Int} {l:Hdr} {out:LI×Bool} (c:m_gn k i=some out) (m:imm (rI .u32) l.v k∈ros) (a:St w0 ros rs w):
  Calls prog 119 #[l.v,iV i] w (fun e w=>∃ (n:Hdr),e=.returned (.tuple #[n.v,.bool out.2])∧St w0 (imm (rI .u32) n.v out.1::ros) rs w):=by
 refine en func119 rfl ntmps119 fun Q o=>?_
 refine z 1 3 ?_
 refine cI c (fun u c=>?_) fun u c=>?_
 ·refine z 1 7 ?_
  cases c
  replace a:=a.immNh (rI .u32)
  exact o _ _ _ (G4 results119 ⟨rfl,rfl⟩ ⟨rfl,rfl⟩ ⟨_,rfl,a⟩)
 ·refine q 6 rfl (bE c fun H p c=>y (ySl (k1:=.i64) Z1 e0 a (rdI m) (.inr ⟨rfl,rfl⟩) (.inl (Z0 some e0)) p) ?_)
  replace a:=a.sub m p
  refine z 1 1 ?_;intro I J c w a
  refine bE c fun x b c=>?_
  refine jW 10 [0,6,7] [(38,.bool x)] (St w0 ros rs) rfl (fun r=>?_) ?_
  ·refine gJ 28 b rfl (fun A b=>?_) fun A b=>?_
   ·refine q 10 rfl ?_
    cases b
    exact r _ _ (a.fc) rfl
   ·refine q 2 rfl (bE b fun K L b=>?_)
    refine z 2 1 ?_
    refine bE b fun N O b=>?_
    refine z 1 4 ?_
    cases b
    exact r _ _ (a.fc) rfl
  intro g w a
  refine z 1 2 ?_
  refine bE c fun R B c=>yh (rMk a Z1 e0 B) fun j w a=>?_
  refine z 1 4 ?_
  refine bE c fun s C c=>?_
  refine lp C [0,6,7,8,9,45] (fun (d,f)=>[(46,iV f)]) (fun (d,f)=>St w0 ros (row 93 (rI .u32) j.v d::rs)) (fun | s=>(.exit 0,[],St w0 ros (row 93 (rI .u32) j.v s::rs))) rfl a rfl ?_ ?_
  ·clear a
   intro g w a
   refine z 1 6 ?_;intro S T c U w a
   cases c
   exact o _ _ _ (G4 results119 ⟨rfl,rfl⟩ ⟨rfl,rfl⟩ ⟨_,rfl,(a.facts (S0 F0 (N0 (N0 E1))))⟩)
  rintro ⟨d,f⟩ g w D a c
  refine q 6 rfl (cI c (fun E c=>?_) fun E c=>?_)
  ·refine z 3 3 ?_;intro V W c
   refine jC Int [0,6,7,8,9,10,45,46] (fun h=>[(11,.int .u64 h)]) (fun h w=>St w0 ros (row 93 (rI .u32) j.v d::rs) w∧m_gl i d f h=some D) rfl ?_ ?_
   ·rintro h g w ⟨a,c⟩
    refine z 1 2 ?_;intro F X c
    refine bE c fun Z t c=>y (yIs Z1 e0 e0 a rO0 t) (yt (W3 (cs:=[.int .u32 (wc .u32 (wand .u64 F 4294967295))]) a Y3 rfl e0 e0 rfl mkI t) fun w a=>q 7 rfl ?_)
    cases c
    exact lo a
   refine cI c (fun G c=>?_) fun G c=>?_
   ·refine z 2 5 ?_;intro a0 a1 c
    exact jx _ ⟨a,c⟩
   ·exact q 1 rfl (jx _ ⟨a,c⟩)
  ·refine q 2 rfl ?_
   cases c
   exact xo a
instance:CL prog 119 (type_of% @Un):=⟨@Un⟩
theorem Tn {m n:LI} {o p:Hdr} {out:LI} (c:m_gr m n=some out) (u:imm (rI .u32) o.v m∈ros) (x:imm (rI .u32) p.v n∈ros) (a:St w0 ros rs w):
  Calls prog 120 #[o.v,p.v] w (ri w0 ros rs (rI .u32) out):=by
 refine en func120 rfl ntmps120 fun Q y=>?_
 refine z 2 3 ?_
 refine jC (LI×LI×Hdr×Hdr) [] (fun (b,d,e,f)=>[(0,e.v),(1,f.v)]) (fun (b,d,e,f) w=>St w0 (imm (rI .u32) e.v b::imm (rI .u32) f.v d::ros) rs w∧m_gq b d=some out) rfl ?_ ?_
 ·rintro ⟨b,d,e,f⟩ g w ⟨a,c⟩
  refine z 1 1 ?_
  refine bE c fun A s c=>yh (rMkc a Z1 rfl e0 s) fun B w a=>?_
  refine z 1 4 ?_
  obtain ⟨⟨q,r⟩,t,c⟩:=bs c
  refine lpN Hdr Hdr t [1,21,22] (fun (i,j,k) h=>[(5,h.v),(6,.int .u64 j),(23,iV k)]) (fun (i,j,k) h=>St w0 (imm (rI .u32) f.v d::imm (rI .u32) e.v b::ros) (row 93 (rI .u32) h.v i::rs)) (fun | (q,r),l=>(.exit 0,[(5,l.v),(6,.int .u64 r)],St w0 ros (row 93 (rI .u32) l.v q::rs))) rfl _ (a.facts (S0 F1 (S0 F0 (N0 (N0 E1))))) rfl ?_ ?_
  ·clear a
   rintro l g w a
   exact vx
  rintro ⟨i,j,k⟩ h g w C a c
  exact vx
 exact vx
instance:CL prog 120 (type_of% @Tn):=⟨@Tn⟩
theorem Ph {b:Bool} {n:LI} {f:Int} {d:Hdr} {out:Bool×LI×Int} (c:m_gt b n f=some out) (x:imm (rI .u32) d.v n∈ros) (a:St w0 ros rs w):
  Calls prog 74 #[.agg #[.bool b,d.v],iV f] w (fun e w=>∃ (o:Hdr),e=.returned (.tuple #[.agg #[.bool out.1,o.v],iV out.2.2])∧St w0 (imm (rI .u32) o.v out.2.1::ros) rs w):=by
 refine en func74 rfl ntmps74 fun Q t=>?_
 refine z 2 9 ?_;intro j w a k w a
 refine jW 3 [1,2,4] [(14,.bool ((decide (f < (-1048576))) || (decide ((1048576:Int) < f))))] (St w0 ros (box j 52 [.bool b,d.v]::box k 52 [.bool false,hnil.v]::rs)) rfl (fun p=>?_) ?_
 ·refine gB 11 rfl (fun l=>?_) fun l=>?_
  ·exact q 3 rfl (p _ _ (a.k10) (J1 (Z0 Value.bool (orT l)) rfl))
  ·exact q 3 rfl (p _ _ (a.k10) (J1 (Z0 Value.bool (orF l)) rfl))
 intro g w a
 refine v 37 ?_
 refine ⟨fun _ c _ a=>?_,fun _ _ _ _ _ _ w a=>⟨vt,fun _ _ r _ c u w a=>?_⟩⟩
 ·cases c
  replace a:=a.immNh (rI .u32)
  exact t _ _ _ (G4 results74 (A4 rfl rfl a R0 P0 rfl) ⟨rfl,rfl⟩ ⟨_,rfl,(a.k19)⟩)
 ·refine jW 2 [2,4,7] [(38,.bool (b && r.2))] (St w0 (imm (rI .u32) u.v r.1::ros) (box j 52 [.bool b,d.v]::box k 52 [.bool false,hnil.v]::rs)) rfl (fun s=>?_) ?_
  ·refine gB 36 rfl (fun m=>?_) fun m=>?_
   ·exact q 2 rfl (s _ _ (a.facts (S0 F0 (N0 (N0 E1)))) (J1 (Z0 Value.bool (J5 m)) rfl))
   ·exact q 2 rfl (s _ _ (a.facts (S0 F0 (N0 (N0 E1)))) (J1 (Z0 Value.bool (K5 m)) rfl))
  intro g w a
  refine q 2 rfl ?_
  refine jC (LI×Hdr) [2,4] (fun (h,i)=>[(7,i.v)]) (fun (h,i) w=>St w0 (imm (rI .u32) i.v h::ros) (box j 52 [.bool b,d.v]::box k 52 [.bool false,hnil.v]::rs) w∧m_gs b h=some out) rfl ?_ ?_
  ·rintro ⟨h,i⟩ g w ⟨a,c⟩
   exact vx
  exact vx
instance:CL prog 74 (type_of% @Ph):=⟨@Ph⟩
theorem Sn {i:Bool} {j:LI} {k:Int} {l:Hdr} {out:Bool×LI} (c:m_gv i j k=some out) (r:imm (rI .u32) l.v j∈ros) (a:St w0 ros rs w):
  Calls prog 155 #[.agg #[.bool i,l.v],iV k] w (rb w0 ros rs out):=by
 refine en func155 rfl ntmps155 fun Q t=>?_
 refine z 2 4 ?_;intro m w a n w a
 obtain ⟨⟨o,p,q⟩,s,c⟩:=bs c
 refine lpN Hdr Hdr s [2,4] (fun (d,e,f) b=>[(1,iV d)]) (fun (d,e,f) b=>St w0 (imm (rI .u32) b.v f::ros) (box m 52 [.bool e,b.v]::box n 52 [.bool false,hnil.v]::rs)) (fun | (o,p,q),h=>(.exit 0,[(1,iV o)],St w0 (imm (rI .u32) h.v q::ros) (box m 52 [.bool p,h.v]::box n 52 [.bool false,hnil.v]::rs))) rfl _ ((a.k10).facts (S0 r E1)) rfl ?_ ?_
 ·clear a
  rintro h g w a
  exact vx
 rintro ⟨d,e,f⟩ b g w u a c
 exact vx
instance:CL prog 155 (type_of% @Sn):=⟨@Sn⟩
theorem Qn {h i:Bool} {m:LI} {b:Int} {j:Hdr} {out:Bool×Bool×LI×Int×Bool} (c:m_gw h i m b=some out) (C:imm (rI .u32) j.v m∈ros) (D:globF∈ros) (a:St w0 ros rs w):
  Calls prog 115 #[.agg #[.bool h,.bool i,j.v,iV b]] w (fun e w=>∃ (n:Hdr),e=.returned (.tuple #[.agg #[.bool out.1,.bool out.2.1,n.v,iV out.2.2.2.1],.bool out.2.2.2.2])∧St w0 (imm (rI .u32) n.v out.2.2.1::ros) rs w):=by
 refine en func115 rfl ntmps115 fun Q f=>?_
 refine z 3 2 ?_;intro r w a s w a
 refine cJ c (fun t c=>?_) fun t c=>?_
 ·refine z 2 5 ?_;intro E F c w a w a
  cases c
  replace a:=a.immNh (rI .u32)
  exact f _ _ _ (G4 results115 (A4 rfl rfl a R0 W8 rfl) ⟨rfl,rfl⟩ ⟨_,rfl,(a.k19)⟩)
 ·refine z 6 3 ?_;intro o G c p w a u w a w a H I c w a
  refine cI c (fun x c=>?_) fun x c=>?_
  ·refine z 2 5 ?_;intro w a
   cases c
   replace a:=a.immNh (rI .u32)
   exact f _ _ _ (G4 results115 (A4 rfl rfl a R0 W8 rfl) ⟨rfl,rfl⟩ ⟨_,rfl,((a.k1b).facts (S0 F0 (N0 (N0 E1))))⟩)
  ·refine z 2 5 ?_;intro J K c w a
   refine bE c fun L N c=>bE c fun k d c=>?_
   refine jN Unit [1,2,4,5] (fun _=>[(30,.bool k)]) (fun _=>St w0 (imm (rI .u32) p.v o.2::ros) (box r 54 [.bool h,.bool i,j.v,iV b]::box s 54 [.bool false,.bool false,hnil.v,iV 0]::box u 52 [.bool o.1,p.v]::rs)) rfl ?_ ?_
   ·rcases Z5 d with ⟨l,d⟩ | ⟨l,d⟩
    ·have y:=U1 d
     refine dS [3] 1 C1 ?_
     replace a:=a.drew
     refine z 3 0 ?_;intro w a
     exact dU (Dw 8176 3 (qR 3 rfl (rK 24 rfl (dT l) (qR 5 rfl (rQ rfl (pt_ (.bool k) e0 rfl (eqv y rfl)) (Rn (qS rfl (sY rfl (lb_ (iV b) O_3 e0 a R2) QSn)) (jr () (a.k18))))))))
    ·have A:=U1 d
     refine dS [3] 1 C1 ?_
     replace a:=a.drew
     refine z 3 0 ?_;intro w a
     exact dU (Dw 8176 3 (qR 3 rfl (rK 24 rfl (dF l) (qR 1 rfl (rQ rfl (lb_ (iV b) O_3 e0 a R2) (qR 3 rfl (rQ rfl (pf_ (.bool k) e0 rfl (eqv A e0)) (Rn (qS rfl (sY rfl (lb_ (iV b) O_3 e0 a R2) QSn)) (jr () (a.k18))))))))))
   rintro _ g w a
   refine q 1 rfl ?_
   refine cJ c (fun B c=>?_) fun B c=>?_
   ·refine z 2 5 ?_;intro O R c w a w a
    cases c
    replace a:=a.immNh (rI .u32)
    exact f _ _ _ (G4 results115 (A4 rfl rfl a R0 W8 rfl) ⟨rfl,rfl⟩ ⟨_,rfl,((a.k1b).facts (S0 F0 (N0 (N0 E1))))⟩)
   ·refine q 3 rfl (bE c fun S T c=>dS [2,8,9] 3 C1 ?_)
    replace a:=a.drew
    refine z 7 2 ?_;intro U w a w a
    cases c
    exact f _ _ _ (G4 results115 (A4 rfl rfl a R0 W8 rfl) ⟨rfl,rfl⟩ ⟨_,rfl,((a.k1b).facts (S0 F0 (N0 (N0 E1))))⟩)
instance:CL prog 115 (type_of% @Qn):=⟨@Qn⟩
theorem On {b:Bool} {d:LI} {e:Int} {f:Hdr} {out:Bool×Bool×LI×Int} (c:m_gx b d e=some out) (g:imm (rI .u32) f.v d∈ros) (h:globF∈ros) (a:St w0 ros rs w):
  Calls prog 114 #[.agg #[.bool b,f.v],iV e] w (rd w0 ros rs out):=by
 exact en func114 rfl ntmps114 fun Q i=>vx
instance:CL prog 114 (type_of% @On):=⟨@On⟩
theorem Nn {b:Int} {out:Bool×Bool×LI×Int} (c:m_g0 b=some out) (e:globF∈ros) (a:St w0 ros rs w):
  Calls prog 71 #[.int .u64 b] w (rd w0 ros rs out):=by
 refine en func71 rfl ntmps71 fun Q d=>?_
 refine v 0 ?_
 refine fun _ _ _ _ _ _ _ a=>⟨fun _ c _ a=>?_,vt⟩
 cases c
 replace a:=a.immNh (rI .u32)
 exact d _ _ _ (I3 results71 (A4 rfl rfl a R0 W8 rfl) ⟨_,rfl,(a.k14)⟩)
instance:CL prog 71 (type_of% @Nn):=⟨@Nn⟩
theorem Jn {b d:Bool} {e:LI} {f:Int} {g:Hdr} {out:Int} (c:m_g1 b d e f=some out) (h:imm (rI .u32) g.v e∈ros) (i:globF∈ros) (a:St w0 ros rs w):
  Calls prog 72 #[.agg #[.bool b,.bool d,g.v,iV f]] w (rv w0 ros rs (iV out)):=by
 exact en func72 rfl ntmps72 fun Q j=>vx
instance:CL prog 72 (type_of% @Jn):=⟨@Jn⟩
theorem Hn {f h:Int} {y A B:LI} {i d e:Hdr} {out:(List (Int×Int×Int))} (c:m_g4 f h y A B=some out) (O:imm I1 i.v y∈ros) (C:imm I1 d.v A∈ros) (D:imm (rI .u64) e.v B∈ros) (a:St w0 ros rs w):
  Calls prog 73 #[.agg #[iV f,iV h,i.v,d.v,e.v]] w (ro w0 ros rs 99 rTi64i64u64 out):=by
 refine en func73 rfl ntmps73 fun Q I=>?_
 refine z 2 4 ?_;intro p w a
 refine bE c fun E J c=>?_
 replace a:=a.rowNh 99 rTi64i64u64
 refine lpN Hdr Hdr J [1,7] (fun (r,b) m=>[(3,m.v),(8,iV b)]) (fun (r,b) m=>St w0 ros (box p 27 [iV f,iV h,i.v,d.v,e.v]::row 99 rTi64i64u64 m.v r::rs)) (fun | E,s=>(.exit 0,[(3,s.v)],St w0 ros (row 99 rTi64i64u64 s.v E::rs))) rfl _ (a.k10) rfl ?_ ?_
 ·clear a
  rintro s g w a
  refine q 9 rfl ?_
  cases c
  exact I _ _ _ (I3 results73 ⟨rfl,rfl⟩ ⟨_,rfl,a⟩)
 rintro ⟨r,b⟩ m g w R a c
 refine q 6 rfl (cI c (fun K c=>?_) fun K c=>?_)
 ·refine z 3 4 ?_;intro S T c
  refine bE c fun F L c=>?_
  refine lpN Hdr Hdr L [1,4,7,8] (fun (t,u) o=>[(3,o.v),(5,iV u)]) (fun (t,u) o=>St w0 ros (box p 27 [iV f,iV h,i.v,d.v,e.v]::row 99 rTi64i64u64 o.v t::rs)) (fun | F,x=>(.exit 2,[(3,x.v)],St w0 ros (box p 27 [iV f,iV h,i.v,d.v,e.v]::row 99 rTi64i64u64 x.v F::rs))) rfl _ a rfl ?_ ?_
  ·clear a
   rintro x g w a
   refine q 7 rfl ?_
   cases c
   exact ln _ a
  rintro ⟨t,u⟩ o g w U a c
  refine z 3 3 ?_;intro V W c
  refine cI c (fun N c=>?_) fun N c=>?_
  ·refine q 4 rfl (bE c fun j G c=>bE c fun k H c=>bE c fun X Z c=>dS [13,14,15] 3 C1 ?_)
   replace a:=a.drew
   refine D1 8191 0 13 rfl (qR 2 rfl (rQ rfl (lb_ d.v M1 e0 a R0) (qR 1 rfl (rQ rfl (yIa W0 e0 e0 a (rdI C) G) (rQ rfl (yI O_3 e0 a (rdI C) G) (qR 2 rfl (rQ rfl (lb_ e.v Oa e0 a R0) (qR 1 rfl (rQ rfl (yIa ka e0 e0 a (rdI D) H) (rQ rfl (yI ud e0 a (rdI D) H) (rQ rfl (ua (us:=[iV j,iV b,.int .u64 k]) [(0,iV j),(1,iV b),(2,.int .u64 k)] qk (bp3 e0 e0 e0) rfl) (Rn QSn (LH wn (rLt (n:=1) (l:=[(j,b,k)]) a od [.agg #[iV j,iV b,.int .u64 k]] (bp1 e0) rfl rfl (N1 (cs:=[iV j,iV b,.int .u64 k]) rfl (mkF rfl) Y1)) ?_)))))))))))))
   refine fun a0 w a=>dU ?_
   refine z 3 7 ?_;intro a1 w a
   cases c
   exact ln _ (a.k1m)
  ·refine q 2 rfl ?_
   cases c
   exact lx _ a
 ·refine q 2 rfl ?_
  cases c
  exact lx _ (a.k12)
instance:CL prog 73 (type_of% @Hn):=⟨@Hn⟩
theorem En {b d:Int} {O R S:LI} {f h i:Hdr} {out:(List (List (Bool×LI)))×Int×Int} (c:m_ha b d O R S=some out) (d3:imm I1 f.v O∈ros) (d4:imm I1 h.v R∈ros) (d5:imm (rI .u64) i.v S∈ros) (d6:globF∈ros) (a:St w0 ros rs w):
  Calls prog 28 #[.agg #[iV b,iV d,f.v,h.v,i.v]] w (fun e w=>∃ (T:Hdr) (U:List Hdr),e=.returned (.tuple #[T.v,iV out.2.1,iV out.2.2])∧St w0 ros (row 39 rH T.v U::fam 52 (rP rB (rS (rI .u32))) U out.1::rs) w):=by
 refine en func28 rfl ntmps28 fun Q E=>?_
 refine z 3 12 ?_;intro l w a d7 d8 c w a
 refine cIn c (fun a9 c=>?_) fun a9 c=>?_
 ·refine z 1 2 ?_
  refine jW 4 [1,3] [(27,.bool ((decide ((16:Int) < b)) || (decide ((16:Int) < d))))] (St w0 ros (box l 27 [iV b,iV d,f.v,h.v,i.v]::rs)) rfl (fun V=>?_) ?_
  ·refine gB 23 rfl (fun F=>?_) fun F=>?_
   ·exact q 4 rfl (V _ _ a (J1 (Z0 Value.bool (orT F)) rfl))
   ·refine z 1 2 ?_
    exact V _ _ a (J1 (Z0 Value.bool (orF F)) rfl)
  intro g w a
  refine q 3 rfl ?_
  refine cJ c (fun b0 c=>?_) fun b0 c=>?_
  ·refine q 10 rfl ?_
   cases c
   replace a:=((a.rowNh 39 rH).fNew 52 (rP rB (rS (rI .u32)))).k10
   exact E _ _ _ (J9 results28 ⟨rfl,rfl⟩ ⟨rfl,rfl⟩ ⟨rfl,rfl⟩ ⟨_,_,rfl,(a.k3e)⟩)
  ·refine z 2 4 ?_
   refine bE c fun W b1 c=>?_
   refine lp b1 [1,29,30] (fun (n,o,r)=>[(3,iV n),(5,.bool o),(31,iV r)]) (fun (n,o,r)=>St w0 ros (box l 27 [iV b,iV d,f.v,h.v,i.v]::rs)) (fun | W=>(.exit 1,[(3,iV W)],St w0 ros (box l 27 [iV b,iV d,f.v,h.v,i.v]::rs))) rfl a rfl ?_ ?_
   ·clear a
    intro g w a
    refine z 1 0 ?_
    refine bE c fun d9 b2 c=>?_
    obtain ⟨b3,em49,b4⟩:=rj b2 hnil
    refine yh (rMk a O4 e0 b4) fun p w a=>?_
    replace a:=(a.fReps 52 (rP rB (rS (rI .u32))) b3).k10
    rw [← em49] at a
    refine q 7 rfl (y (J6 O4 e0 a rO0 R1) (bE c fun X b5 c=>q 4 rfl ?_))
    refine lpN (List Hdr) (List Hdr) b5 [1,2,3,56] (fun (G,H) s=>[(57,iV H)]) (fun (G,H) s=>St w0 ros (box l 27 [iV b,iV d,f.v,h.v,i.v]::row 39 rH p.v s::fam 52 (rP rB (rS (rI .u32))) s G::rs)) (fun | X,k=>(.exit 3,[],St w0 ros (box l 27 [iV b,iV d,f.v,h.v,i.v]::row 39 rH p.v k::fam 52 (rP rB (rS (rI .u32))) k X::rs))) rfl _ (a.k16) rfl ?_ ?_
    ·clear a
     rintro k g w a
     refine z 3 4 ?_;intro Z e1 c a0 w a
     refine bE c fun a1 b6 c=>?_
     refine lp b6 [2,3,68,69] (fun (I,t)=>[(70,iV t)]) (fun (I,t)=>St w0 ros (row 39 rH p.v k::fam 52 (rP rB (rS (rI .u32))) k I::row 99 rTi64i64u64 a0.v Z::rs)) (fun | a1=>(.exit 5,[],St w0 ros (row 39 rH p.v k::fam 52 (rP rB (rS (rI .u32))) k a1::rs))) rfl (a.k1g) rfl ?_ ?_
     ·clear a
      intro g w a
      refine q 12 rfl ?_
      cases c
      exact E _ _ _ (J9 results28 ⟨rfl,rfl⟩ ⟨rfl,rfl⟩ ⟨rfl,rfl⟩ ⟨_,_,rfl,a⟩)
     rintro ⟨I,t⟩ g w b7 a c
     refine q 6 rfl (cI c (fun b8 c=>?_) fun b8 c=>?_)
     ·refine z 1 0 ?_;intro x c0 c
      refine y (yFn mu e0 a rO2 c0 rfl) ?_
      refine z 8 3 ?_;intro e2 w a w a a2 e3 c c1 w a e4 w a w a e5 e6 c w a
      refine jC (List (List (Bool×LI))) [2,3,68,69,70] (fun A=>[]) (fun A w=>St w0 ros (row 39 rH p.v k::fam 52 (rP rB (rS (rI .u32))) k A::row 99 rTi64i64u64 a0.v Z::rs) w∧m_g5 t A=some b7) rfl ?_ ?_
      ·rintro A g w ⟨a,c⟩
       refine q 6 rfl ?_
       cases c
       exact lo a
      refine cIn c (fun c2 c=>?_) fun c2 c=>?_
      ·exact q 1 rfl (jx _ ⟨((a.k3c).fc),c⟩)
      ·refine bE c fun e7 J c=>bE c fun c3 c4 c=>bE c fun e8 a3 c=>bE c fun e9 c5 c=>dS [13,18] 2 C1 ?_
       replace a:=a.drew
       refine D1 8191 0 13 rfl (qR 2 rfl (rQ rfl (lb_ (iV x.1) O_3 e0 a R1) ?_))
       obtain ⟨f0,m⟩:=a.famI R3 J
       refine rQ rfl (yIa O4 e0 e0 a rO2 m) (rQ rfl (yF1 W4 e0 a rO2 m rfl) (qR 1 rfl (rQ rfl (lb_ (iV x.2.1) O_3 e0 a R1) (qR 1 rfl (rQ rfl (J2 [.bool a2.2.1,c1.v] P0 e0 a R0) (qR 1 rfl (rQ rfl (lb_ (iV a2.2.2.2) O_3 e0 a R0) (qR 2 rfl (Rn QSn (kO (Ph c4 F0 a) fun c6 w a=>dU (D0 245760 127 18 rfl (qR 3 rfl ?_))))))))))))
       refine rQ rfl (yIs D3 e0 e0 a (rdF R3 m J) a3) (Rn (qS rfl (qS rfl (sY rfl (lb_ (iV x.1) O_3 e0 a R1) (sY rfl (yIa O4 e0 e0 a rO2 m) (sY rfl (yF1 W4 e0 a rO2 m rfl) (qS rfl (sY rfl (lb_ (iV x.2.1) O_3 e0 a R1) QSn))))))) ?_)
       replace a:=a.k1f
       refine LT wn (w8 (cs:=[.bool c3.1,c6.v]) (a.foc m J) P0 e0 e0 rfl (mkP mkB (mkS F0)) a3) fun w a=>?_
       replace a:=a.unfoc' m c5
       refine z 1 0 ?_
       exact jx _ ⟨((a.k4d).fc),c⟩
     ·refine q 2 rfl ?_
      cases c
      exact xo (a.k3e)
    rintro ⟨G,H⟩ s g w f1 a c
    refine q 6 rfl (cI c (fun c7 c=>?_) fun c7 c=>?_)
    ·refine z 1 0 ?_
     refine bE c fun f2 c8 c=>yh (rMk a D3 e0 c8) fun a4 w a=>bE c fun f3 a5 c=>?_
     obtain ⟨f4,K⟩:=H9 (u:=a4) a5 (a.famL (mtR (mtR (mtR mhR))))
     refine y (yIs O4 e0 e0 a rO2 K) ?_
     replace a:=a.k16
     refine yt (W3 (cs:=[a4.v]) a W4 rfl e0 e0 rfl (mkF rfl) K) fun w a=>?_
     replace a:=(a.k4e).fput K a5
     refine q 7 rfl ?_
     cases c
     exact ln _ (a.k18)
    ·refine q 2 rfl ?_
     cases c
     exact lx _ a
   rintro ⟨n,o,r⟩ g w c9 a c
   refine q 6 rfl (cI c (fun d0 c=>?_) fun d0 c=>?_)
   ·refine z 7 2 ?_;intro f5 f6 c j f7 c B w a a6 w a w a d1 f8 c w a
    refine jW 8 [1,3,5,8,29,30,31] [(48,.bool ((!(decide (d1=0))) && (o || (decide (j.2.2.2 < n)))))] (St w0 (imm (rI .u32) B.v j.2.2.1::ros) (box l 27 [iV b,iV d,f.v,h.v,i.v]::box a6 54 [.bool j.1,.bool j.2.1,B.v,iV j.2.2.2]::rs)) rfl (fun a7=>?_) ?_
    ·refine gB 40 rfl (fun L=>?_) fun L=>?_
     ·refine q 2 rfl ?_
      refine jW 5 [1,3,5,8,29,30,31,40] [(47,.bool (o || (decide (j.2.2.2 < n))))] (St w0 (imm (rI .u32) B.v j.2.2.1::ros) (box l 27 [iV b,iV d,f.v,h.v,i.v]::box a6 54 [.bool j.1,.bool j.2.1,B.v,iV j.2.2.2]::rs)) rfl (fun a8=>?_) ?_
      ·refine gB 42 rfl (fun N=>?_) fun N=>?_
       ·exact q 5 rfl (a8 _ _ (a.k10) (J1 (Z0 Value.bool (orT N)) rfl))
       ·refine z 1 3 ?_
        exact a8 _ _ (a.k10) (J1 (Z0 Value.bool (orF N)) rfl)
      intro g w a
      exact q 1 rfl (a7 _ _ a (J1 (Z0 Value.bool (J5 L)) rfl))
     ·exact q 8 rfl (a7 _ _ (a.k10) (J1 (Z0 Value.bool (K5 L)) rfl))
    intro g w a
    refine q 2 rfl ?_
    refine jC (Int×Bool) [1,29,30,31] (fun (C,D)=>[(3,iV C),(5,.bool D)]) (fun (C,D) w=>St w0 ros (box l 27 [iV b,iV d,f.v,h.v,i.v]::rs) w∧m_g8 r C D=some c9) rfl ?_ ?_
    ·rintro ⟨C,D⟩ g w ⟨a,c⟩
     refine q 6 rfl ?_
     cases c
     exact lo a
    refine cJ c (fun d2 c=>?_) fun d2 c=>?_
    ·refine dS [2,3] 2 C1 ?_
     replace a:=a.drew
     refine z 4 0 ?_
     exact jx (_,_) ⟨((a.k11).fc),c⟩
    ·exact q 1 rfl (jx (_,_) ⟨((a.k11).fc),c⟩)
   ·refine q 2 rfl ?_
    cases c
    exact xo a
 ·refine q 11 rfl ?_
  cases c
  replace a:=((a.rowNh 39 rH).fNew 52 (rP rB (rS (rI .u32)))).k10
  exact E _ _ _ (J9 results28 ⟨rfl,rfl⟩ ⟨rfl,rfl⟩ ⟨rfl,rfl⟩ ⟨_,_,rfl,(a.k3e)⟩)
instance:CL prog 28 (type_of% @En):=⟨@En⟩
theorem Dn {b:Int} {out:Bool} (c:m_hc b=some out) (a:St w0 ros rs w):
  Calls prog 29 #[iV b] w (rv w0 ros rs (.bool out)):=by
 refine en func29 rfl ntmps29 fun Q j=>q 11 rfl ?_
 refine jW 3 [0] [(9,.bool ((decide (b < 2)) || (decide ((2147483647:Int) < b))))] (St w0 ros rs) rfl (fun f=>?_) ?_
 ·refine gB 6 rfl (fun d=>?_) fun d=>?_
  ·exact q 3 rfl (f _ _ a (J1 (Z0 Value.bool (orT d)) rfl))
  ·exact q 3 rfl (f _ _ a (J1 (Z0 Value.bool (orF d)) rfl))
 intro g w a
 refine v 0 ?_
 refine ⟨vt,fun _ c=>?_⟩
 refine bE c fun h i c=>?_
 refine lp i [0] (fun e=>[(3,iV e)]) (fun e=>St w0 ros rs) (fun | .inl ()=>(.exit 0,[],St w0 ros rs) | .inr ()=>(.ret,[(2,.bool false)],St w0 ros rs)) rfl a rfl ?_ ?_
 ·clear a
  intro g w a
  rcases h with ⟨⟩ | ⟨⟩
  ·exact vx
  ·exact vx
 rintro e g w k a c
 exact vx
instance:CL prog 29 (type_of% @Dn):=⟨@Dn⟩
theorem Cn {d:LI} {e f:Int} {h:Hdr} {out:Bool} (c:m_he d e f=some out) (k:imm I1 h.v d∈ros) (a:St w0 ros rs w):
  Calls prog 30 #[h.v,iV e,iV f] w (rv w0 ros rs (.bool out)):=by
 refine en func30 rfl ntmps30 fun Q l=>?_
 refine v 0 ?_
 refine ⟨fun _ c=>?_,vt⟩
 refine bE c fun i j c=>?_
 refine lp j [0,2,13,14] (fun b=>[(15,iV b)]) (fun b=>St w0 ros rs) (fun | .inl ()=>(.exit 0,[],St w0 ros rs) | .inr ()=>(.ret,[(6,.bool false)],St w0 ros rs)) rfl a rfl ?_ ?_
 ·clear a
  intro g w a
  rcases i with ⟨⟩ | ⟨⟩
  ·exact vx
  ·exact vx
 rintro b g w m a c
 exact vx
instance:CL prog 30 (type_of% @Cn):=⟨@Cn⟩
theorem Bn {b:Int} {out:Bool} (c:m_hf b=some out) (a:St w0 ros rs w):
  Calls prog 189 #[.int .u32 b] w (rv w0 ros rs (.bool out)):=by
 exact en func189 rfl ntmps189 fun Q d=>vx
instance:CL prog 189 (type_of% @Bn):=⟨@Bn⟩
end Go.Proofs.YthekfonboblioacGreatDoor
