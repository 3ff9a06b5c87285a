/- Walks: each function computes its model, printed. -/
import Derived.Test.YthekfonboblioaaGreatDoorW4
namespace Go.Proofs.YthekfonboblioaaGreatDoor
open Go Sx M Go.Proofs.Tryz
set_option maxRecDepth 100000
set_option maxHeartbeats 40000000
set_option linter.unusedVariables false
attribute [local irreducible] wpList Code.wp Calls DR QR QS LA LS St row box fam imm rowS loop
variable {w0:World} {ros:List Fact} {rs:List Res} {w:World}
theorem po {b:Bool} {d:LI} {e:Hdr} {out:Int} (c:m_di b d=some out) (f:imm (rI .u32) e.v d∈ros) (a:St w0 ros rs w):
  Calls prog 144 #[.agg #[.bool b,e.v]] w (rv w0 ros rs (iV out)):=by
 exact en func144 rfl ntmps144 fun Q g=>vx
instance:CL prog 144 (type_of% @po):=⟨@po⟩
theorem oo {e:LI} {f:Int} {h:Hdr} {out:LI} (c:m_dk e f=some out) (u:imm (rI .u32) h.v e∈ros) (a:St w0 ros rs w):
  Calls prog 95 #[h.v,iV f] w (ri w0 ros rs (rI .u32) out):=by
 refine en func95 rfl ntmps95 fun Q i=>?_
 refine z 1 3 ?_
 refine cI c (fun o c=>?_) fun o c=>?_
 ·refine q 7 rfl ?_
  cases c
  replace a:=a.immNh (rI .u32)
  exact i _ _ _ (V2 results95 ⟨rfl,rfl⟩ ⟨_,rfl,a⟩)
 ·refine z 1 2 ?_
  refine bE c fun x p c=>yh (rMk a Q1 e0 p) fun j w a=>?_
  refine z 1 4 ?_
  refine bE c fun k r c=>?_
  refine lp r [5,6,7,25,26] (fun (b,d)=>[(27,iV d)]) (fun (b,d)=>St w0 ros (row 107 (rI .u32) j.v b::rs)) (fun | k=>(.exit 0,[],St w0 ros (row 107 (rI .u32) j.v k::rs))) rfl a rfl ?_ ?_
  ·clear a
   intro g w a
   refine z 1 4 ?_;intro A B c C w a
   cases c
   exact i _ _ _ (V2 results95 ⟨rfl,rfl⟩ ⟨_,rfl,(a.facts (Q0 F0 (N0 (N0 A1))))⟩)
  rintro ⟨b,d⟩ g w D a c
  refine q 6 rfl (cI c (fun s c=>?_) fun s c=>?_)
  ·refine z 5 4 ?_;intro E F c l G c t H c
   refine bE c fun I m c=>y (yIs Q1 e0 e0 a rO0 m) (yt (Q3 (cs:=[.int .u32 (wor .u32 t (wc .u32 (wand .u64 l 4294967295)))]) a V3 rfl e0 e0 rfl mkI m) fun w a=>bE c fun J n c=>q 11 rfl (y (yIs Q1 e0 e0 a rO0 n) (yt (Q3 (cs:=[.int .u32 (wc .u32 (wsrc .u64 l 32))]) a V3 rfl e0 e0 rfl mkI n) fun w a=>q 7 rfl ?_)))
   cases c
   exact lo a
  ·refine q 2 rfl ?_
   cases c
   exact xo a
instance:CL prog 95 (type_of% @oo):=⟨@oo⟩
theorem Uh {b:Int} {out:Bool} (c:m_dl b=some out) (a:St w0 ros rs w):
  Calls prog 147 #[.int .u32 b] w (rv w0 ros rs (.bool out)):=by
 exact en func147 rfl ntmps147 fun Q d=>vx
instance:CL prog 147 (type_of% @Uh):=⟨@Uh⟩
theorem Zm {d:LI} {e:Hdr} {out:Int} (c:m_dn d=some out) (k:imm (rI .u32) e.v d∈ros) (a:St w0 ros rs w):
  Calls prog 180 #[e.v,.func (.func 147) #[] #[]] w (rv w0 ros rs (iV out)):=by
 refine en func180 rfl ntmps180 fun Q l=>?_
 refine z 1 4 ?_
 refine bE c fun h i c=>?_
 refine lp i [0,1,7] (fun b=>[(8,iV b)]) (fun b=>St w0 ros rs) (fun | .inl ()=>(.exit 0,[],St w0 ros rs) | .inr f=>(.ret,[(4,iV f)],St w0 ros rs)) rfl a rfl ?_ ?_
 ·clear a
  intro g w a
  rcases h with ⟨⟩ | f
  ·exact vx
  ·exact vx
 rintro b g w m a c
 refine v 0 ?_
 refine ⟨fun _ _ _ _ c=>?_,vt⟩
 refine bE c fun n j c=>yC (td uD e0 (a1 e0)) (Uh j a) ?_
 rintro _ w ⟨rfl,a⟩
 refine ⟨_,rfl,?_⟩
 exact nf vx
instance:CL prog 180 (type_of% @Zm):=⟨@Zm⟩
theorem Ym {b:LI} {d:Hdr} {out:Bool} (c:m_do b=some out) (e:imm (rI .u32) d.v b∈ros) (a:St w0 ros rs w):
  Calls prog 146 #[d.v,.func (.func 147) #[] #[]] w (rv w0 ros rs (.bool out)):=by
 exact en func146 rfl ntmps146 fun Q f=>vx
instance:CL prog 146 (type_of% @Ym):=⟨@Ym⟩
theorem Xm {k:LI} {i:Int} {l:Hdr} {out:LI×Bool} (c:m_dr k i=some out) (m:imm (rI .u32) l.v k∈ros) (a:St w0 ros rs w):
  Calls prog 96 #[l.v,iV i] w (fun e w=>∃ (n:Hdr),e=.returned (.tuple #[n.v,.bool out.2])∧St w0 (imm (rI .u32) n.v out.1::ros) rs w):=by
 refine en func96 rfl ntmps96 fun Q o=>?_
 refine z 1 3 ?_
 refine cI c (fun u c=>?_) fun u c=>?_
 ·refine z 1 7 ?_
  cases c
  replace a:=a.immNh (rI .u32)
  exact o _ _ _ (X3 results96 ⟨rfl,rfl⟩ ⟨rfl,rfl⟩ ⟨_,rfl,a⟩)
 ·refine q 6 rfl (bE c fun H p c=>y (ySl (k1:=.i64) Q1 e0 a (rdI m) (.inr ⟨rfl,rfl⟩) (.inl (Z0 some e0)) p) ?_)
  replace a:=a.sub m p
  refine z 1 1 ?_;intro I J c w a
  refine bE c fun x b c=>?_
  refine jW 10 [0,6,7] [(38,.bool x)] (St w0 ros rs) rfl (fun r=>?_) ?_
  ·refine gJ 28 b rfl (fun A b=>?_) fun A b=>?_
   ·refine q 10 rfl ?_
    cases b
    exact r _ _ (a.fc) rfl
   ·refine q 2 rfl (bE b fun K L b=>?_)
    refine z 2 1 ?_
    refine bE b fun N O b=>?_
    refine z 1 4 ?_
    cases b
    exact r _ _ (a.fc) rfl
  intro g w a
  refine z 1 2 ?_
  refine bE c fun R B c=>yh (rMk a Q1 e0 B) fun j w a=>?_
  refine z 1 4 ?_
  refine bE c fun s C c=>?_
  refine lp C [0,6,7,8,9,45] (fun (d,f)=>[(46,iV f)]) (fun (d,f)=>St w0 ros (row 107 (rI .u32) j.v d::rs)) (fun | s=>(.exit 0,[],St w0 ros (row 107 (rI .u32) j.v s::rs))) rfl a rfl ?_ ?_
  ·clear a
   intro g w a
   refine z 1 6 ?_;intro S T c U w a
   cases c
   exact o _ _ _ (X3 results96 ⟨rfl,rfl⟩ ⟨rfl,rfl⟩ ⟨_,rfl,(a.facts (Q0 F0 (N0 (N0 A1))))⟩)
  rintro ⟨d,f⟩ g w D a c
  refine q 6 rfl (cI c (fun E c=>?_) fun E c=>?_)
  ·refine z 3 3 ?_;intro V W c
   refine jC Int [0,6,7,8,9,10,45,46] (fun h=>[(11,.int .u64 h)]) (fun h w=>St w0 ros (row 107 (rI .u32) j.v d::rs) w∧m_dp i d f h=some D) rfl ?_ ?_
   ·rintro h g w ⟨a,c⟩
    refine z 1 2 ?_;intro F X c
    refine bE c fun Z t c=>y (yIs Q1 e0 e0 a rO0 t) (yt (Q3 (cs:=[.int .u32 (wc .u32 (wand .u64 F 4294967295))]) a V3 rfl e0 e0 rfl mkI t) fun w a=>q 7 rfl ?_)
    cases c
    exact lo a
   refine cI c (fun G c=>?_) fun G c=>?_
   ·refine z 2 5 ?_;intro a0 a1 c
    exact jx _ ⟨a,c⟩
   ·exact q 1 rfl (jx _ ⟨a,c⟩)
  ·refine q 2 rfl ?_
   cases c
   exact xo a
instance:CL prog 96 (type_of% @Xm):=⟨@Xm⟩
theorem Wm {r s:LI} {t u:Hdr} {out:LI} (c:m_dv r s=some out) (x:imm (rI .u32) t.v r∈ros) (y:imm (rI .u32) u.v s∈ros) (a:St w0 ros rs w):
  Calls prog 97 #[t.v,u.v] w (ri w0 ros rs (rI .u32) out):=by
 refine en func97 rfl ntmps97 fun Q B=>?_
 refine z 2 3 ?_
 refine jC (LI×LI×Hdr×Hdr) [] (fun (d,e,f,h)=>[(0,f.v),(1,h.v)]) (fun (d,e,f,h) w=>St w0 (imm (rI .u32) f.v d::imm (rI .u32) h.v e::ros) rs w∧m_du d e=some out) rfl ?_ ?_
 ·rintro ⟨d,e,f,h⟩ g w ⟨a,c⟩
  refine z 1 1 ?_
  refine bE c fun I C c=>yh (rMkc a Q1 rfl e0 C) fun J w a=>?_
  refine z 1 4 ?_
  obtain ⟨⟨A,i⟩,D,c⟩:=bs c
  refine lpN Hdr Hdr D [1,21,22] (fun (j,o,m) k=>[(5,k.v),(6,.int .u64 o),(23,iV m)]) (fun (j,o,m) k=>St w0 (imm (rI .u32) h.v e::imm (rI .u32) f.v d::ros) (row 107 (rI .u32) k.v j::rs)) (fun | (A,i),p=>(.exit 0,[(5,p.v),(6,.int .u64 i)],St w0 ros (row 107 (rI .u32) p.v A::rs))) rfl _ (a.facts (Q0 F1 (Q0 F0 (N0 (N0 A1))))) rfl ?_ ?_
  ·clear a
   rintro p g w a
   refine q 7 rfl (yh (rLt (n:=1) (l:=[wc .u32 i]) a Q1 [.int .u32 (wc .u32 i)] (bp1 e0) rfl rfl (N1 (cs:=[.int .u32 (wc .u32 i)]) rfl mkI X1)) fun K w a=>?_)
   refine z 2 4 ?_;intro L N c O w a R S c T w a
   cases c
   exact B _ _ _ (V2 results97 ⟨rfl,rfl⟩ ⟨_,rfl,((a.k14).facts (Q0 F0 (N0 (N0 A1))))⟩)
  rintro ⟨j,o,m⟩ k g w E a c
  refine q 6 rfl (cI c (fun F c=>?_) fun F c=>?_)
  ·refine z 3 3 ?_;intro U V c
   refine jC Int [1,5,21,22,23] (fun b=>[(9,.int .u64 b)]) (fun b w=>St w0 (imm (rI .u32) h.v e::imm (rI .u32) f.v d::ros) (row 107 (rI .u32) k.v j::rs) w∧m_ds j m b=some E) rfl ?_ ?_
   ·rintro b g w ⟨a,c⟩
    refine q 7 rfl (yh (rLt (n:=1) (l:=[wc .u32 (wand .u64 b 4294967295)]) a Q1 [.int .u32 (wc .u32 (wand .u64 b 4294967295))] (bp1 e0) rfl rfl (N1 (cs:=[.int .u32 (wc .u32 (wand .u64 b 4294967295))]) rfl mkI X1)) fun W w a=>?_)
    refine z 1 14 ?_;intro X Z c a0 w a
    cases c
    exact ln _ (a.k11)
   refine cI c (fun G c=>?_) fun G c=>?_
   ·refine z 2 4 ?_;intro a1 a2 c
    exact jx _ ⟨a,c⟩
   ·exact q 1 rfl (jx _ ⟨a,c⟩)
  ·refine q 2 rfl ?_
   cases c
   exact lx _ (a.fc)
 refine cI c (fun H c=>?_) fun H c=>?_
 ·exact q 6 rfl (jx (_,_,_,_) ⟨(a.facts (Q0 y (Q0 x A1))),c⟩)
 ·exact q 1 rfl (jx (_,_,_,_) ⟨(a.facts (Q0 x (Q0 y A1))),c⟩)
instance:CL prog 97 (type_of% @Wm):=⟨@Wm⟩
theorem Th {b:Bool} {r:LI} {f:Int} {d:Hdr} {out:Bool×LI×Int} (c:m_dx b r f=some out) (D:imm (rI .u32) d.v r∈ros) (a:St w0 ros rs w):
  Calls prog 44 #[.agg #[.bool b,d.v],iV f] w (fun e w=>∃ (s:Hdr),e=.returned (.tuple #[.agg #[.bool out.1,s.v],iV out.2.2])∧St w0 (imm (rI .u32) s.v out.2.1::ros) rs w):=by
 refine en func44 rfl ntmps44 fun Q j=>?_
 refine z 2 9 ?_;intro k w a m w a
 refine jW 3 [1,2,4] [(14,.bool ((decide (f < (-1048576))) || (decide ((1048576:Int) < f))))] (St w0 ros (box k 62 [.bool b,d.v]::box m 62 [.bool false,hnil.v]::rs)) rfl (fun t=>?_) ?_
 ·refine gB 11 rfl (fun o=>?_) fun o=>?_
  ·exact q 3 rfl (t _ _ (a.k10) (J1 (Z0 Value.bool (orT o)) rfl))
  ·exact q 3 rfl (t _ _ (a.k10) (J1 (Z0 Value.bool (orF o)) rfl))
 intro g w a
 refine q 2 rfl ?_
 refine cJ c (fun y c=>?_) fun y c=>?_
 ·refine z 2 5 ?_;intro w a
  cases c
  replace a:=a.immNh (rI .u32)
  exact j _ _ _ (X3 results44 (I3 rfl rfl a R0 P0 rfl) ⟨rfl,rfl⟩ ⟨_,rfl,(a.k19)⟩)
 ·refine z 2 10 ?_;intro E F c G w a
  refine cI c (fun A c=>?_) fun A c=>?_
  ·refine q 1 rfl (bE c fun H I c=>bE c fun J K c=>dS [4,5,6,7] 4 E1 ?_)
   replace a:=a.drew
   refine z 6 3 ?_;intro L w a N w a w a
   cases c
   exact j _ _ _ (X3 results44 (I3 rfl rfl a R0 P0 rfl) ⟨rfl,rfl⟩ ⟨_,rfl,((a.k19).facts (Q0 F0 (N0 (N0 (N0 A1)))))⟩)
  ·refine z 2 1 ?_;intro u O c B w a
   refine jW 2 [2,4,7] [(38,.bool (b && u.2))] (St w0 (imm (rI .u32) B.v u.1::ros) (box k 62 [.bool b,d.v]::box m 62 [.bool false,hnil.v]::rs)) rfl (fun x=>?_) ?_
   ·refine gB 36 rfl (fun p=>?_) fun p=>?_
    ·exact q 2 rfl (x _ _ (a.facts (Q0 F0 (N0 (N0 A1)))) (J1 (Z0 Value.bool (W5 p)) rfl))
    ·exact q 2 rfl (x _ _ (a.facts (Q0 F0 (N0 (N0 A1)))) (J1 (Z0 Value.bool (X5 p)) rfl))
   intro g w a
   refine q 2 rfl ?_
   refine jC (LI×Hdr) [2,4] (fun (h,i)=>[(7,i.v)]) (fun (h,i) w=>St w0 (imm (rI .u32) i.v h::ros) (box k 62 [.bool b,d.v]::box m 62 [.bool false,hnil.v]::rs) w∧m_dw b h=some out) rfl ?_ ?_
   ·rintro ⟨h,i⟩ g w ⟨a,c⟩
    refine z 3 4 ?_;intro R S c T w a w a
    cases c
    exact j _ _ _ (X3 results44 (I3 rfl rfl a R0 P0 rfl) ⟨rfl,rfl⟩ ⟨_,rfl,((a.k19).facts (Q0 F0 (N0 (N0 A1))))⟩)
   refine cJ c (fun C c=>?_) fun C c=>?_
   ·refine q 2 rfl (yh (rLt (n:=1) (l:=[1]) a Q1 [.int .u32 1] (bp1 rfl) rfl rfl (N1 (cs:=[.int .u32 1]) rfl mkI X1)) fun U w a=>?_)
    refine z 1 2 ?_;intro V W c X w a
    exact jx (_,_) ⟨(a.facts (Q0 F0 (N0 (N0 (N0 A1))))),c⟩
   ·exact q 1 rfl (jx (_,_) ⟨a,c⟩)
instance:CL prog 44 (type_of% @Th):=⟨@Th⟩
theorem Vm {i:Bool} {j:LI} {k:Int} {l:Hdr} {out:Bool×LI} (c:m_dz i j k=some out) (r:imm (rI .u32) l.v j∈ros) (a:St w0 ros rs w):
  Calls prog 145 #[.agg #[.bool i,l.v],iV k] w (rb w0 ros rs out):=by
 refine en func145 rfl ntmps145 fun Q t=>?_
 refine z 2 4 ?_;intro m w a n w a
 obtain ⟨⟨o,p,q⟩,s,c⟩:=bs c
 refine lpN Hdr Hdr s [2,4] (fun (d,e,f) b=>[(1,iV d)]) (fun (d,e,f) b=>St w0 (imm (rI .u32) b.v f::ros) (box m 62 [.bool e,b.v]::box n 62 [.bool false,hnil.v]::rs)) (fun | (o,p,q),h=>(.exit 0,[(1,iV o)],St w0 (imm (rI .u32) h.v q::ros) (box m 62 [.bool p,h.v]::box n 62 [.bool false,hnil.v]::rs))) rfl _ ((a.k10).facts (Q0 r A1)) rfl ?_ ?_
 ·clear a
  rintro h g w a
  exact vx
 rintro ⟨d,e,f⟩ b g w u a c
 exact vx
instance:CL prog 145 (type_of% @Vm):=⟨@Vm⟩
theorem Um {h i:Bool} {m:LI} {b:Int} {j:Hdr} {out:Bool×Bool×LI×Int×Bool} (c:m_d0 h i m b=some out) (C:imm (rI .u32) j.v m∈ros) (D:globF∈ros) (a:St w0 ros rs w):
  Calls prog 91 #[.agg #[.bool h,.bool i,j.v,iV b]] w (fun e w=>∃ (n:Hdr),e=.returned (.tuple #[.agg #[.bool out.1,.bool out.2.1,n.v,iV out.2.2.2.1],.bool out.2.2.2.2])∧St w0 (imm (rI .u32) n.v out.2.2.1::ros) rs w):=by
 refine en func91 rfl ntmps91 fun Q f=>?_
 refine z 3 2 ?_;intro r w a s w a
 refine cJ c (fun t c=>?_) fun t c=>?_
 ·refine z 2 5 ?_;intro E F c w a w a
  cases c
  replace a:=a.immNh (rI .u32)
  exact f _ _ _ (X3 results91 (I3 rfl rfl a R0 Z7 rfl) ⟨rfl,rfl⟩ ⟨_,rfl,(a.k19)⟩)
 ·refine z 6 3 ?_;intro o G c p w a u w a w a H I c w a
  refine cI c (fun x c=>?_) fun x c=>?_
  ·refine z 2 5 ?_;intro w a
   cases c
   replace a:=a.immNh (rI .u32)
   exact f _ _ _ (X3 results91 (I3 rfl rfl a R0 Z7 rfl) ⟨rfl,rfl⟩ ⟨_,rfl,((a.k1b).facts (Q0 F0 (N0 (N0 A1))))⟩)
  ·refine z 2 5 ?_;intro J K c w a
   refine bE c fun L N c=>bE c fun k d c=>?_
   refine jN Unit [1,2,4,5] (fun _=>[(30,.bool k)]) (fun _=>St w0 (imm (rI .u32) p.v o.2::ros) (box r 71 [.bool h,.bool i,j.v,iV b]::box s 71 [.bool false,.bool false,hnil.v,iV 0]::box u 62 [.bool o.1,p.v]::rs)) rfl ?_ ?_
   ·rcases V5 d with ⟨l,d⟩ | ⟨l,d⟩
    ·have y:=P1 d
     refine dS [3] 1 E1 ?_
     replace a:=a.drew
     refine z 3 0 ?_;intro w a
     exact dU (Dw 8176 3 (qR 3 rfl (rK 24 rfl (dT l) (qR 5 rfl (rQ rfl (pt_ (.bool k) e0 rfl (eqv y rfl)) (Rn (qS rfl (sY rfl (lb_ (iV b) O_3 e0 a R2) QSn)) (jr () (a.k18))))))))
    ·have A:=P1 d
     refine dS [3] 1 E1 ?_
     replace a:=a.drew
     refine z 3 0 ?_;intro w a
     exact dU (Dw 8176 3 (qR 3 rfl (rK 24 rfl (dF l) (qR 1 rfl (rQ rfl (lb_ (iV b) O_3 e0 a R2) (qR 3 rfl (rQ rfl (pf_ (.bool k) e0 rfl (eqv A e0)) (Rn (qS rfl (sY rfl (lb_ (iV b) O_3 e0 a R2) QSn)) (jr () (a.k18))))))))))
   rintro _ g w a
   refine q 1 rfl ?_
   refine cJ c (fun B c=>?_) fun B c=>?_
   ·refine z 2 5 ?_;intro O R c w a w a
    cases c
    replace a:=a.immNh (rI .u32)
    exact f _ _ _ (X3 results91 (I3 rfl rfl a R0 Z7 rfl) ⟨rfl,rfl⟩ ⟨_,rfl,((a.k1b).facts (Q0 F0 (N0 (N0 A1))))⟩)
   ·refine q 3 rfl (bE c fun S T c=>dS [2,8,9] 3 E1 ?_)
    replace a:=a.drew
    refine z 7 2 ?_;intro U w a w a
    cases c
    exact f _ _ _ (X3 results91 (I3 rfl rfl a R0 Z7 rfl) ⟨rfl,rfl⟩ ⟨_,rfl,((a.k1b).facts (Q0 F0 (N0 (N0 A1))))⟩)
instance:CL prog 91 (type_of% @Um):=⟨@Um⟩
theorem Sm {b:Bool} {d:LI} {e:Int} {f:Hdr} {out:Bool×Bool×LI×Int} (c:m_d1 b d e=some out) (g:imm (rI .u32) f.v d∈ros) (h:globF∈ros) (a:St w0 ros rs w):
  Calls prog 90 #[.agg #[.bool b,f.v],iV e] w (rd w0 ros rs out):=by
 exact en func90 rfl ntmps90 fun Q i=>vx
instance:CL prog 90 (type_of% @Sm):=⟨@Sm⟩
theorem Rm {b:Int} {out:Bool×Bool×LI×Int} (c:m_d4 b=some out) (e:globF∈ros) (a:St w0 ros rs w):
  Calls prog 41 #[.int .u64 b] w (rd w0 ros rs out):=by
 refine en func41 rfl ntmps41 fun Q d=>?_
 refine v 0 ?_
 refine fun _ _ _ _ _ _ _ a=>⟨fun _ c _ a=>?_,vt⟩
 cases c
 replace a:=a.immNh (rI .u32)
 exact d _ _ _ (V2 results41 (I3 rfl rfl a R0 Z7 rfl) ⟨_,rfl,(a.k14)⟩)
instance:CL prog 41 (type_of% @Rm):=⟨@Rm⟩
theorem Qm {b d:Bool} {e:LI} {f:Int} {g:Hdr} {out:Int} (c:m_d5 b d e f=some out) (h:imm (rI .u32) g.v e∈ros) (i:globF∈ros) (a:St w0 ros rs w):
  Calls prog 42 #[.agg #[.bool b,.bool d,g.v,iV f]] w (rv w0 ros rs (iV out)):=by
 exact en func42 rfl ntmps42 fun Q j=>vx
instance:CL prog 42 (type_of% @Qm):=⟨@Qm⟩
theorem Om {f h:Int} {y A B:LI} {i d e:Hdr} {out:(List (Int×Int×Int))} (c:m_d8 f h y A B=some out) (O:imm I1 i.v y∈ros) (C:imm I1 d.v A∈ros) (D:imm (rI .u64) e.v B∈ros) (a:St w0 ros rs w):
  Calls prog 43 #[.agg #[iV f,iV h,i.v,d.v,e.v]] w (ro w0 ros rs 79 rTi64i64u64 out):=by
 refine en func43 rfl ntmps43 fun Q I=>?_
 refine z 2 4 ?_;intro p w a
 refine bE c fun E J c=>?_
 replace a:=a.rowNh 79 rTi64i64u64
 refine lpN Hdr Hdr J [1,7] (fun (r,b) m=>[(3,m.v),(8,iV b)]) (fun (r,b) m=>St w0 ros (box p 26 [iV f,iV h,i.v,d.v,e.v]::row 79 rTi64i64u64 m.v r::rs)) (fun | E,s=>(.exit 0,[(3,s.v)],St w0 ros (row 79 rTi64i64u64 s.v E::rs))) rfl _ (a.k10) rfl ?_ ?_
 ·clear a
  rintro s g w a
  refine q 9 rfl ?_
  cases c
  exact I _ _ _ (V2 results43 ⟨rfl,rfl⟩ ⟨_,rfl,a⟩)
 rintro ⟨r,b⟩ m g w R a c
 refine q 6 rfl (cI c (fun K c=>?_) fun K c=>?_)
 ·refine z 3 4 ?_;intro S T c
  refine bE c fun F L c=>?_
  refine lpN Hdr Hdr L [1,4,7,8] (fun (t,u) o=>[(3,o.v),(5,iV u)]) (fun (t,u) o=>St w0 ros (box p 26 [iV f,iV h,i.v,d.v,e.v]::row 79 rTi64i64u64 o.v t::rs)) (fun | F,x=>(.exit 2,[(3,x.v)],St w0 ros (box p 26 [iV f,iV h,i.v,d.v,e.v]::row 79 rTi64i64u64 x.v F::rs))) rfl _ a rfl ?_ ?_
  ·clear a
   rintro x g w a
   refine q 7 rfl ?_
   cases c
   exact ln _ a
  rintro ⟨t,u⟩ o g w U a c
  refine z 3 3 ?_;intro V W c
  refine cI c (fun N c=>?_) fun N c=>?_
  ·refine q 4 rfl (bE c fun j G c=>bE c fun k H c=>bE c fun X Z c=>dS [13,14,15] 3 E1 ?_)
   replace a:=a.drew
   refine D1 8191 0 13 rfl (qR 2 rfl (rQ rfl (lb_ d.v L1 e0 a R0) (qR 1 rfl (rQ rfl (yIa V0 e0 e0 a (rdI C) G) (rQ rfl (yI O_3 e0 a (rdI C) G) (qR 2 rfl (rQ rfl (lb_ e.v Ha e0 a R0) (qR 1 rfl (rQ rfl (yIa U9 e0 e0 a (rdI D) H) (rQ rfl (yI Xc e0 a (rdI D) H) (rQ rfl (J9 (us:=[iV j,iV b,.int .u64 k]) [(0,iV j),(1,iV b),(2,.int .u64 k)] Kj (bp3 e0 e0 e0) rfl) (Rn QSn (LH wn (rLt (n:=1) (l:=[(j,b,k)]) a Tc [.agg #[iV j,iV b,.int .u64 k]] (bp1 e0) rfl rfl (N1 (cs:=[iV j,iV b,.int .u64 k]) rfl (mkF rfl) X1)) ?_)))))))))))))
   refine fun a0 w a=>dU ?_
   refine z 3 7 ?_;intro a1 w a
   cases c
   exact ln _ (a.k1o)
  ·refine q 2 rfl ?_
   cases c
   exact lx _ a
 ·refine q 2 rfl ?_
  cases c
  exact lx _ (a.k12)
instance:CL prog 43 (type_of% @Om):=⟨@Om⟩
end Go.Proofs.YthekfonboblioaaGreatDoor
