/- Walks: each function computes its model, printed. -/
import Derived.Test.YthekfonboblioaaGreatDoorW2
namespace Go.Proofs.YthekfonboblioaaGreatDoor
open Go Sx M Go.Proofs.Tryz
set_option maxRecDepth 100000
set_option maxHeartbeats 40000000
set_option linter.unusedVariables false
attribute [local irreducible] wpList Code.wp Calls DR QR QS LA LS St row box fam imm rowS loop
variable {w0:World} {ros:List Fact} {rs:List Res} {w:World}
theorem eo {b:Int} {out:Bool} (c:m_cf b=some out) (a:St w0 ros rs w):
  Calls prog 34 #[.int .u64 b] w (rv w0 ros rs (.bool out)):=by
 exact en func34 rfl ntmps34 fun Q d=>vx
instance:CL prog 34 (type_of% @eo):=⟨@eo⟩
theorem r00 {b:Int} {out:Bool} (c:m_cg b=some out) (a:St w0 ros rs w):
  Calls prog 80 #[.int .u64 b] w (rv w0 ros rs (.bool out)):=by
 exact en func80 rfl ntmps80 fun Q d=>vx
instance:CL prog 80 (type_of% @r00):=⟨@r00⟩
theorem bo {e:Int} {out:Bool×Bool×LI×Int} (c:m_ci e=some out) (k:globF∈ros) (a:St w0 ros rs w):
  Calls prog 38 #[.int .u64 e] w (rd w0 ros rs out):=by
 refine en func38 rfl ntmps38 fun Q f=>?_
 refine z 2 3 ?_;intro h w a m o c w a
 refine cJn c (fun i c=>?_) fun i c=>?_
 ·refine q 26 rfl ?_
  refine jC (Int×Int) [0,2] (fun (b,d)=>[(4,.int .u64 b),(5,iV d)]) (fun (b,d) w=>St w0 ros (box h 71 [.bool false,.bool false,hnil.v,iV 0]::rs) w∧m_ch e b d=some out) rfl ?_ ?_
  ·rintro ⟨b,d⟩ g w ⟨a,c⟩
   refine z 1 5 ?_;intro p r c w a
   refine yh (rLt (n:=2) (l:=[wc .u32 b,wc .u32 (wsrc .u64 b 32)]) a Q1 [.int .u32 (wc .u32 b),.int .u32 (wc .u32 (wsrc .u64 b 32))] (bp2 e0 e0) rfl rfl (N1 (cs:=[.int .u32 (wc .u32 b)]) rfl mkI (N1 (cs:=[.int .u32 (wc .u32 (wsrc .u64 b 32))]) rfl mkI X1))) fun s w a=>?_
   refine z 3 3 ?_;intro t u c x w a w a
   cases c
   exact f _ _ _ (V2 results38 (I3 rfl rfl a R0 Z7 rfl) ⟨_,rfl,((a.k14).facts (Q0 F0 (N0 (N0 A1))))⟩)
  refine cI c (fun j c=>?_) fun j c=>?_
  ·exact q 12 rfl (jx (_,_) ⟨a,c⟩)
  ·exact q 1 rfl (jx (_,_) ⟨a,c⟩)
 ·refine z 2 4 ?_;intro y A c w a w a
  cases c
  replace a:=a.immNh (rI .u32)
  exact f _ _ _ (V2 results38 (I3 rfl rfl a R0 Z7 rfl) ⟨_,rfl,(a.k14)⟩)
instance:CL prog 38 (type_of% @bo):=⟨@bo⟩
theorem ao {i j:Bool} {k:LI} {l e:Int} {m:Hdr} {out:Bool×Bool×LI×Int} (c:m_cj i j k l e=some out) (x:imm (rI .u32) m.v k∈ros) (y:globF∈ros) (a:St w0 ros rs w):
  Calls prog 37 #[.agg #[.bool i,.bool j,m.v,iV l],iV e] w (rd w0 ros rs out):=by
 refine en func37 rfl ntmps37 fun Q s=>?_
 refine z 6 1 ?_;intro n w a o w a b A c f w a w a
 refine bE c fun t d c=>?_
 refine jW 5 [1,2,4] [(14,.bool t)] (St w0 (imm (rI .u32) f.v b.2.2.1::ros) (box n 71 [.bool b.1,.bool b.2.1,f.v,iV b.2.2.2]::box o 71 [.bool false,.bool false,hnil.v,iV 0]::rs)) rfl (fun p=>?_) ?_
 ·refine gJ 9 d rfl (fun u d=>?_) fun u d=>?_
  ·refine q 5 rfl ?_
   cases d
   exact p _ _ a rfl
  ·refine z 1 0 ?_
   refine bE d fun B C d=>?_
   refine z 1 2 ?_;intro w a
   cases d
   exact p _ _ a rfl
 intro g w a
 refine v 19 ?_
 refine ⟨vt,fun _ c=>?_⟩
 refine jW 3 [1,2,4] [(21,.bool ((decide ((262144:Int) < e)) || (decide (e < (-262144)))))] (St w0 (imm (rI .u32) f.v b.2.2.1::ros) (box n 71 [.bool b.1,.bool b.2.1,f.v,iV b.2.2.2]::box o 71 [.bool false,.bool false,hnil.v,iV 0]::rs)) rfl (fun r=>?_) ?_
 ·refine gB 18 rfl (fun h=>?_) fun h=>?_
  ·exact q 3 rfl (r _ _ a (J1 (Z0 Value.bool (orT h)) rfl))
  ·exact q 3 rfl (r _ _ a (J1 (Z0 Value.bool (orF h)) rfl))
 intro g w a
 refine v 0 ?_
 refine ⟨fun _ _ _ _ c _ _ _ a=>?_,vt⟩
 cases c
 replace a:=a.immNh (rI .u32)
 exact s _ _ _ (V2 results37 (I3 rfl rfl a R0 Z7 rfl) ⟨_,rfl,((a.k19).facts (Q0 F0 (N0 (N0 A1))))⟩)
instance:CL prog 37 (type_of% @ao):=⟨@ao⟩
theorem Zn {b d e out:Int} (c:m_ck b d e=some out) (f:globF∈ros) (a:St w0 ros rs w):
  Calls prog 12 #[.int .u64 b,iV d,iV e] w (rv w0 ros rs (.int .u64 out)):=by
 exact en func12 rfl ntmps12 fun Q g=>vx
instance:CL prog 12 (type_of% @Zn):=⟨@Zn⟩
theorem Yn {E:LI} {O R S:Int} {T:Bool} {U:Hdr} {out:Int×Int×LI×LI×LI} (c:m_co E O R S T=some out) (b4:imm (rI .u64) U.v E∈ros) (b5:globF∈ros) (a:St w0 ros rs w):
  Calls prog 4 #[U.v,iV O,iV R,iV S,.bool T] w (fun e w=>∃ (V W X:Hdr),e=.returned (.agg #[iV out.1,iV out.2.1,V.v,W.v,X.v])∧St w0 ros (row 3 I1 V.v out.2.2.1::row 3 I1 W.v out.2.2.2.1::row 41 (rI .u64) X.v out.2.2.2.2::rs) w):=by
 refine en func4 rfl ntmps4 fun Q Z=>?_
 refine z 7 9 ?_;intro p w a b6 b8 c w a b9 c0 c w a c1 c2 c w a b c3 c f h i w a y w a w a
 refine cJn c (fun a5 c=>?_) fun a5 c=>?_
 ·refine z 2 0 ?_
  refine yh (rLt (n:=1) (l:=[0]) a V0 [iV 0] (bp1 rfl) rfl rfl (N1 (cs:=[iV 0]) rfl mkI X1)) fun c4 w a=>?_
  refine z 3 9 ?_;intro r w a w a
  obtain ⟨⟨a0,a1,a2⟩,a6,c⟩:=bs c
  replace a:=(((((((a.k1c).fz).k1c).fz).k1c).fz).rowNh 3 I1).rowNh 41 (rI .u64)
  refine lpN (Hdr×Hdr×Hdr) (Hdr×Hdr×Hdr) a6 [0,10,11,12] (fun (j,s,t,C) (d,k,m)=>[(13,iV C)]) (fun (j,s,t,C) (d,k,m)=>St w0 (imm I1 f.v b.2.2.1::imm I1 h.v b.2.2.2.1::imm (rI .u64) i.v b.2.2.2.2::ros) (box p 26 [iV 0,iV 0,hnil.v,hnil.v,hnil.v]::box y 26 [iV b.1,iV b.2.1,f.v,h.v,i.v]::row 3 I1 d.v j::row 3 I1 k.v s::row 41 (rI .u64) m.v t::box r 26 [iV b.1,iV b.2.1,d.v,k.v,m.v]::rs)) (fun | (a0,a1,a2),(F,G,H)=>(.exit 0,[],St w0 ros (box p 26 [iV 0,iV 0,hnil.v,hnil.v,hnil.v]::row 3 I1 F.v a0::row 3 I1 G.v a1::row 41 (rI .u64) H.v a2::box r 26 [iV b.1,iV b.2.1,F.v,G.v,H.v]::rs))) rfl (_,_,_) ((a.k3a).facts (Q0 F2 (Q0 F1 (Q0 F0 (N0 (N0 (N0 A1))))))) rfl ?_ ?_
  ·clear a
   rintro ⟨F,G,H⟩ g w a
   refine z 2 3 ?_;intro w a
   cases c
   exact Z _ _ _ (V2 results4 (I3 rfl rfl a R0 Yb rfl) ⟨_,_,_,rfl,(a.k37)⟩)
  rintro ⟨j,s,t,C⟩ ⟨d,k,m⟩ g w a7 a c
  refine z 1 3 ?_
  refine cI c (fun a8 c=>?_) fun a8 c=>?_
  ·refine q 16 rfl (bE c fun a9 o c=>?_)
   refine jW 7 [0,10,11,12,13,14] [(51,.bool a9)] (St w0 (imm I1 f.v b.2.2.1::imm I1 h.v b.2.2.2.1::imm (rI .u64) i.v b.2.2.2.2::ros) (box p 26 [iV 0,iV 0,hnil.v,hnil.v,hnil.v]::box y 26 [iV b.1,iV b.2.1,f.v,h.v,i.v]::row 3 I1 d.v j::row 3 I1 k.v s::row 41 (rI .u64) m.v t::box r 26 [iV b.1,iV b.2.1,d.v,k.v,m.v]::rs)) rfl (fun a3=>?_) ?_
   ·refine gI 44 o rfl (fun b0 o=>?_) fun b0 o=>?_
    ·refine q 3 rfl (bE o fun c5 c6 o=>?_)
     refine z 1 3 ?_;intro w a
     cases o
     exact a3 _ _ a rfl
    ·refine q 7 rfl ?_
     cases o
     exact a3 _ _ a rfl
   intro g w a
   refine q 2 rfl ?_
   refine jC Int [0,10,11,12,13] (fun D=>[(14,iV D)]) (fun D w=>St w0 (imm I1 f.v b.2.2.1::imm I1 h.v b.2.2.2.1::imm (rI .u64) i.v b.2.2.2.2::ros) (box p 26 [iV 0,iV 0,hnil.v,hnil.v,hnil.v]::box y 26 [iV b.1,iV b.2.1,f.v,h.v,i.v]::row 3 I1 d.v j::row 3 I1 k.v s::row 41 (rI .u64) m.v t::box r 26 [iV b.1,iV b.2.1,d.v,k.v,m.v]::rs) w∧m_cm E C b s t j D=some a7) rfl ?_ ?_
   ·rintro D g w ⟨a,c⟩
    refine z 1 13 ?_;intro c7 c8 c w a
    obtain ⟨⟨A,a4⟩,b1,c⟩:=bs c
    refine lpN (Hdr×Hdr) (Hdr×Hdr) b1 [0,10,11,12,13,14,15] (fun (I,J,u) (B,x)=>[(16,iV u)]) (fun (I,J,u) (B,x)=>St w0 (imm I1 f.v b.2.2.1::imm I1 h.v b.2.2.2.1::imm (rI .u64) i.v b.2.2.2.2::ros) (box p 26 [iV 0,iV 0,hnil.v,hnil.v,hnil.v]::box y 26 [iV b.1,iV b.2.1,f.v,h.v,i.v]::row 3 I1 d.v j::row 3 I1 B.v I::row 41 (rI .u64) x.v J::box r 26 [iV b.1,iV b.2.1,d.v,B.v,x.v]::rs)) (fun | (A,a4),(K,L)=>(.exit 2,[],St w0 (imm I1 f.v b.2.2.1::imm I1 h.v b.2.2.2.1::imm (rI .u64) i.v b.2.2.2.2::ros) (box p 26 [iV 0,iV 0,hnil.v,hnil.v,hnil.v]::box y 26 [iV b.1,iV b.2.1,f.v,h.v,i.v]::row 3 I1 d.v j::row 3 I1 K.v A::row 41 (rI .u64) L.v a4::box r 26 [iV b.1,iV b.2.1,d.v,K.v,L.v]::rs))) rfl (_,_) a rfl ?_ ?_
    ·clear a
     rintro ⟨K,L⟩ g w a
     refine z 3 0 ?_
     refine yh (rLt (n:=1) (l:=[(A.length:Int)]) a V0 [iV (A.length:Int)] (bp1 e0) rfl rfl (N1 (cs:=[iV (A.length:Int)]) rfl mkI X1)) fun c9 w a=>?_
     refine z 2 8 ?_;intro d0 d1 c d2 w a w a
     cases c
     exact ln (_,_,_) (a.k3b)
    rintro ⟨I,J,u⟩ ⟨B,x⟩ g w d3 a c
    refine z 1 3 ?_
    refine cI c (fun b2 c=>?_) fun b2 c=>?_
    ·refine q 4 rfl (bE c fun d4 d5 c=>bE c fun d6 d7 c=>bE c fun N d8 c=>bE c fun d9 e1 c=>dS [3,4,10,12,13,14,16,18] 8 E1 ?_)
     replace a:=a.drew
     refine D1 3047 0 3 rfl (qR 1 rfl (rQ rfl (lb_ B.v L1 e0 a R5) (qR 2 rfl (rQ rfl (lb_ x.v Ha e0 a R5) (rQ rfl (I2 [iV b.1,iV b.2.1,f.v,h.v,i.v] Yb e0 a R1) (qR 3 rfl (Rn QSn (LH wn (rLt (n:=1) (l:=[u]) a V0 [iV u] (bp1 e0) rfl rfl (N1 (cs:=[iV u]) rfl mkI X1)) fun e2 w a=>dU ?_))))))))
     refine z 3 0 ?_;intro e3 w a w a w a
     refine dU (D1 0 32864 13 rfl (Rn (qS rfl (sY rfl (lb_ x.v Ha e0 a R6) (qS rfl QSn))) (LH wn (rLt (n:=1) (l:=[N]) a U9 [.int .u64 N] (bp1 e0) rfl rfl (N1 (cs:=[.int .u64 N]) rfl mkI X1)) fun e4 w a=>dU ?_)))
     refine z 4 7 ?_;intro e5 w a w a w a
     cases c
     exact ln (_,_) (a.k3c)
    ·refine q 2 rfl ?_
     cases c
     exact lx (_,_) a
   refine cJ c (fun b3 c=>?_) fun b3 c=>?_
   ·refine z 2 3 ?_;intro e6 e7 c w a e8 e9 c
    exact jx _ ⟨a,c⟩
   ·exact q 1 rfl (jx _ ⟨a,c⟩)
  ·refine q 2 rfl ?_
   cases c
   exact lx (_,_,_) ((a.k3d).fc)
 ·refine z 2 4 ?_;intro w a
  cases c
  exact Z _ _ _ (V2 results4 (I3 rfl rfl a R0 Yb rfl) ⟨_,_,_,rfl,(a.k3e)⟩)
instance:CL prog 4 (type_of% @Yn):=⟨@Yn⟩
theorem Xn {b d e:Int} {out:Bool} (c:m_cp b d e=some out) (a:St w0 ros rs w):
  Calls prog 82 #[iV b,iV d,iV e] w (rv w0 ros rs (.bool out)):=by
 refine en func82 rfl ntmps82 fun Q i=>q 11 rfl ?_
 refine jW 4 [] [(14,.bool ((decide (d≤b)) && (decide (b≤e))))] (St w0 ros rs) rfl (fun h=>?_) ?_
 ·refine gB 10 rfl (fun f=>?_) fun f=>?_
  ·exact q 4 rfl (h _ _ a (J1 (Z0 Value.bool (W5 f)) rfl))
  ·exact q 4 rfl (h _ _ a (J1 (Z0 Value.bool (X5 f)) rfl))
 intro g w a
 exact vx
instance:CL prog 82 (type_of% @Xn):=⟨@Xn⟩
theorem Vn {b:Int} {out:Bool} (c:m_cq b=some out) (a:St w0 ros rs w):
  Calls prog 194 #[iV b] w (rv w0 ros rs (.bool out)):=by
 exact en func194 rfl ntmps194 fun Q d=>vx
instance:CL prog 194 (type_of% @Vn):=⟨@Vn⟩
theorem Un {b d:Int} {out:Bool} (c:m_cr b d=some out) (a:St w0 ros rs w):
  Calls prog 178 #[iV b,iV d] w (rv w0 ros rs (.bool out)):=by
 exact en func178 rfl ntmps178 fun Q e=>vx
instance:CL prog 178 (type_of% @Un):=⟨@Un⟩
theorem Cd {d:LI} {e:Hdr} {out:Bool} (c:m_ct d=some out) (i:imm I1 e.v d∈ros) (a:St w0 ros rs w):
  Calls prog 138 #[e.v] w (rv w0 ros rs (.bool out)):=by
 refine en func138 rfl ntmps138 fun Q j=>?_
 refine z 1 5 ?_
 refine bE c fun f h c=>?_
 refine lp h [0] (fun b=>[(3,iV b)]) (fun b=>St w0 ros rs) (fun | .inl ()=>(.exit 0,[],St w0 ros rs) | .inr ()=>(.ret,[(2,.bool false)],St w0 ros rs)) rfl a rfl ?_ ?_
 ·clear a
  intro g w a
  rcases f with ⟨⟩ | ⟨⟩
  ·exact vx
  ·exact vx
 rintro b g w k a c
 exact vx
instance:CL prog 138 (type_of% @Cd):=⟨@Cd⟩
theorem Tn {p e:Int} {J K L:LI} {d f m:Hdr} {out:Bool} (c:m_cw p e J K L=some out) (b:imm I1 d.v J∈ros) (u:imm I1 f.v K∈ros) (a6:imm (rI .u64) m.v L∈ros) (a:St w0 ros rs w):
  Calls prog 83 #[.agg #[iV p,iV e,d.v,f.v,m.v]] w (rv w0 ros rs (.bool out)):=by
 refine en func83 rfl ntmps83 fun Q c1=>?_
 refine z 1 5 ?_;intro y w a
 refine bE c fun r n c=>bE c fun o j c=>bE c fun k h c=>bE c fun s i c=>?_
 refine jN Unit [1] (fun _=>[(47,.bool s)]) (fun _=>St w0 ros (box y 26 [iV p,iV e,d.v,f.v,m.v]::rs)) rfl ?_ ?_
 ·rcases V5 n with ⟨t,n⟩ | ⟨t,n⟩
  ·refine bE n fun c2 l n=>?_
   have A:=P1 n
   rcases V5 j with ⟨x,j⟩ | ⟨x,j⟩
   ·have N:=P1 j
    have O:o=true:=N.symm
    rw [M0 O] at h
    have R:=P1 h
    have S:k=true:=R.symm
    rw [M0 S] at i
    have a7:=P1 i
    refine dS [17] 1 E1 ?_
    replace a:=a.drew
    refine D1 131071 0 17 rfl (qR 1 rfl (rQ rfl (lb_ d.v L1 e0 a R0) (rQ rfl (Y2 V0 e0 a (rdI b)) (qR 1 rfl (rQ rfl (lb_ (iV e) O_3 e0 a R0) (qR 3 rfl (rK 14 rfl (nF (dT t)) (qR 1 rfl (rQ rfl (lb_ d.v L1 e0 a R0) (rQ rfl (yIa V0 e0 rfl a (rdI b) l) (rQ rfl (yI O_3 e0 a (rdI b) l) (qR 1 rfl (rQ rfl (pf_ (.bool r) e0 rfl (eqv A e0)) ?_)))))))))))))
    refine qR 1 rfl (rK 21 rfl x (qR 2 rfl (Rn QSn (Lx (N2.2 rfl) (dU (Dw 2199022993408 0 (qR 1 rfl (rQ rfl (pt_ (.bool o) e0 rfl (eqv N rfl)) (qR 1 rfl (rK 27 rfl O (qR 10 rfl (rQ rfl (pt_ (.bool k) e0 rfl (eqv R rfl)) (qR 1 rfl ?_)))))))))))))
    exact rK 39 rfl S (qR 7 rfl (rQ rfl (pt_ (.bool s) e0 rfl (eqv a7 rfl)) (Rn QSn (jr () a))))
   ·refine bE j fun c3 D j=>?_
    have E:=P1 j
    rcases V5 h with ⟨B,h⟩ | ⟨B,h⟩
    ·have T:=P1 h
     have U:k=true:=T.symm
     rw [M0 U] at i
     have a8:=P1 i
     refine dS [17] 1 E1 ?_
     replace a:=a.drew
     refine D1 131071 0 17 rfl (qR 1 rfl (rQ rfl (lb_ d.v L1 e0 a R0) (rQ rfl (Y2 V0 e0 a (rdI b)) (qR 1 rfl (rQ rfl (lb_ (iV e) O_3 e0 a R0) (qR 3 rfl (rK 14 rfl (nF (dT t)) (qR 1 rfl (rQ rfl (lb_ d.v L1 e0 a R0) (rQ rfl (yIa V0 e0 rfl a (rdI b) l) (rQ rfl (yI O_3 e0 a (rdI b) l) (qR 1 rfl (rQ rfl (pf_ (.bool r) e0 rfl (eqv A e0)) ?_)))))))))))))
     refine qR 1 rfl (rK 21 rfl (E3 x) (qR 1 rfl (rQ rfl (lb_ d.v L1 e0 a R0) (Rn QSn (kZ (Cd D b a) fun w a=>dU (Dw 2199022993408 0 (qR 1 rfl (rQ rfl (pf_ (.bool o) e0 rfl (eqv E e0)) (qR 1 rfl (rK 27 rfl B (qR 10 rfl (rQ rfl (pt_ (.bool k) e0 rfl (eqv T rfl)) ?_))))))))))))
     exact qR 1 rfl (rK 39 rfl U (qR 7 rfl (rQ rfl (pt_ (.bool s) e0 rfl (eqv a8 rfl)) (Rn QSn (jr () a)))))
    ·refine bE h fun c4 C h=>?_
     have V:=P1 h
     rcases V5 i with ⟨F,i⟩ | ⟨F,i⟩
     ·have a9:=P1 i
      refine dS [17] 1 E1 ?_
      replace a:=a.drew
      refine D1 131071 0 17 rfl (qR 1 rfl (rQ rfl (lb_ d.v L1 e0 a R0) (rQ rfl (Y2 V0 e0 a (rdI b)) (qR 1 rfl (rQ rfl (lb_ (iV e) O_3 e0 a R0) (qR 3 rfl (rK 14 rfl (nF (dT t)) (qR 1 rfl (rQ rfl (lb_ d.v L1 e0 a R0) (rQ rfl (yIa V0 e0 rfl a (rdI b) l) (rQ rfl (yI O_3 e0 a (rdI b) l) (qR 1 rfl (rQ rfl (pf_ (.bool r) e0 rfl (eqv A e0)) ?_)))))))))))))
      refine qR 1 rfl (rK 21 rfl (E3 x) (qR 1 rfl (rQ rfl (lb_ d.v L1 e0 a R0) (Rn QSn (kZ (Cd D b a) fun w a=>dU (Dw 2199022993408 0 (qR 1 rfl (rQ rfl (pf_ (.bool o) e0 rfl (eqv E e0)) (qR 1 rfl (rK 27 rfl (E3 B) (qR 1 rfl (rQ rfl (lb_ d.v L1 e0 a R0) ?_))))))))))))
      exact qR 1 rfl (rQ rfl (lb_ (iV e) O_3 e0 a R0) (rQ rfl (yIa V0 e0 e0 a (rdI b) C) (rQ rfl (yI O_3 e0 a (rdI b) C) (qR 1 rfl (rQ rfl (lb_ f.v L1 e0 a R0) (rQ rfl (Y2 V0 e0 a (rdI u)) (qR 1 rfl (rQ rfl (pf_ (.bool k) e0 rfl (eqv V e0)) (qR 1 rfl (rK 39 rfl F (qR 7 rfl (rQ rfl (pt_ (.bool s) e0 rfl (eqv a9 rfl)) (Rn QSn (jr () a))))))))))))))
     ·have b0:=P1 i
      refine dS [17] 1 E1 ?_
      replace a:=a.drew
      refine D1 131071 0 17 rfl (qR 1 rfl (rQ rfl (lb_ d.v L1 e0 a R0) (rQ rfl (Y2 V0 e0 a (rdI b)) (qR 1 rfl (rQ rfl (lb_ (iV e) O_3 e0 a R0) (qR 3 rfl (rK 14 rfl (nF (dT t)) (qR 1 rfl (rQ rfl (lb_ d.v L1 e0 a R0) (rQ rfl (yIa V0 e0 rfl a (rdI b) l) (rQ rfl (yI O_3 e0 a (rdI b) l) (qR 1 rfl (rQ rfl (pf_ (.bool r) e0 rfl (eqv A e0)) ?_)))))))))))))
      refine qR 1 rfl (rK 21 rfl (E3 x) (qR 1 rfl (rQ rfl (lb_ d.v L1 e0 a R0) (Rn QSn (kZ (Cd D b a) fun w a=>dU (Dw 2199022993408 0 (qR 1 rfl (rQ rfl (pf_ (.bool o) e0 rfl (eqv E e0)) (qR 1 rfl (rK 27 rfl (E3 B) (qR 1 rfl (rQ rfl (lb_ d.v L1 e0 a R0) ?_))))))))))))
      refine qR 1 rfl (rQ rfl (lb_ (iV e) O_3 e0 a R0) (rQ rfl (yIa V0 e0 e0 a (rdI b) C) (rQ rfl (yI O_3 e0 a (rdI b) C) (qR 1 rfl (rQ rfl (lb_ f.v L1 e0 a R0) (rQ rfl (Y2 V0 e0 a (rdI u)) (qR 1 rfl (rQ rfl (pf_ (.bool k) e0 rfl (eqv V e0)) (qR 1 rfl (rK 39 rfl (E3 F) (qR 1 rfl (rQ rfl (lb_ f.v L1 e0 a R0) (rQ rfl (Y2 V0 e0 a (rdI u)) ?_)))))))))))))
      exact qR 1 rfl (rQ rfl (lb_ m.v Ha e0 a R0) (rQ rfl (Y2 U9 e0 a (rdI a6)) (qR 1 rfl (rQ rfl (pf_ (.bool s) e0 rfl (eqv b0 e0)) (Rn QSn (jr () a))))))
  ·have W:=P1 n
   have X:r=true:=W.symm
   rw [M0 X] at j
   have Z:=P1 j
   have a0:o=true:=Z.symm
   rw [M0 a0] at h
   have a1:=P1 h
   have a2:k=true:=a1.symm
   rw [M0 a2] at i
   have b1:=P1 i
   refine dS [17] 1 E1 ?_
   replace a:=a.drew
   refine D1 131071 0 17 rfl (qR 1 rfl (rQ rfl (lb_ d.v L1 e0 a R0) (rQ rfl (Y2 V0 e0 a (rdI b)) (qR 1 rfl (rQ rfl (lb_ (iV e) O_3 e0 a R0) (qR 3 rfl (rK 14 rfl (nT (dF t)) (qR 5 rfl (rQ rfl (pt_ (.bool r) e0 rfl (eqv W rfl)) (qR 1 rfl (rK 21 rfl X (qR 2 rfl (Rn QSn ?_)))))))))))))
   exact Lx (N2.2 rfl) (dU (Dw 2199022993408 0 (qR 1 rfl (rQ rfl (pt_ (.bool o) e0 rfl (eqv Z rfl)) (qR 1 rfl (rK 27 rfl a0 (qR 10 rfl (rQ rfl (pt_ (.bool k) e0 rfl (eqv a1 rfl)) (qR 1 rfl (rK 39 rfl a2 (qR 7 rfl (rQ rfl (pt_ (.bool s) e0 rfl (eqv b1 rfl)) (Rn QSn (jr () a))))))))))))))
 rintro _ g w a
 refine v 0 ?_
 refine ⟨vt,fun _ c=>?_⟩
 refine bE c fun b2 b3 c=>?_
 refine lp b3 [1,49] (fun G=>[(50,iV G)]) (fun G=>St w0 ros (box y 26 [iV p,iV e,d.v,f.v,m.v]::rs)) (fun | .inl ()=>(.exit 0,[],St w0 ros rs) | .inr ()=>(.ret,[(2,.bool false)],St w0 ros rs)) rfl a rfl ?_ ?_
 ·clear a
  intro g w a
  rcases b2 with ⟨⟩ | ⟨⟩
  ·exact vx
  ·exact vx
 rintro G g w c5 a c
 refine q 6 rfl (cI c (fun b4 c=>?_) fun b4 c=>?_)
 ·refine q 16 rfl (bE c fun b5 a3 c=>bE c fun b6 a4 c=>bE c fun b7 a5 c=>dS [] 0 E1 ?_)
  replace a:=a.drew
  refine Dw 65535 0 (qR 1 rfl (rQ rfl (lb_ f.v L1 e0 a R0) (qR 1 rfl (rQ rfl (lb_ d.v L1 e0 a R0) (qR 1 rfl (rQ rfl (yIa V0 e0 e0 a (rdI b) a3) (rQ rfl (yI O_3 e0 a (rdI b) a3) (qR 1 rfl (rQ rfl (lb_ d.v L1 e0 a R0) (qR 2 rfl (rQ rfl (yIa V0 e0 e0 a (rdI b) a4) (rQ rfl (yI O_3 e0 a (rdI b) a4) (rQ rfl (ySl V0 e0 a (rdI u) (.inl (Z0 some e0)) (.inl (Z0 some e0)) a5) ?_)))))))))))))
  replace a:=a.sub u a5
  refine rQ rfl (Y2 V0 e0 a (rdI F0)) (qR 1 rfl (Rn QSn (bE c fun b8 c0 c=>qx 2 rfl ?_)))
  refine lp c0 [1,49,50,66,67] (fun (H,I)=>[(4,iV H),(68,iV I)]) (fun (H,I)=>St w0 (imm I1 (subH f 1 b5 b6).v b7::ros) (box y 26 [iV p,iV e,d.v,f.v,m.v]::rs)) (fun | .inl ()=>(.exit 2,[],St w0 ros (box y 26 [iV p,iV e,d.v,f.v,m.v]::rs)) | .inr ()=>(.ret,[(2,.bool false)],St w0 ros rs)) rfl a rfl ?_ ?_
  ·clear a
   intro g w a
   rcases b8 with ⟨⟩ | ⟨⟩
   ·exact vx
   ·exact vx
  rintro ⟨H,I⟩ g w c6 a c
  exact vx
 ·exact vx
instance:CL prog 83 (type_of% @Tn):=⟨@Tn⟩
theorem Sn {b:Int} {out:Int×Int} (c:m_cx b=some out) (a:St w0 ros rs w):
  Calls prog 87 #[.int .u64 b] w (rv w0 ros rs (.tuple #[iV out.1,.int .u64 out.2])):=by
 exact en func87 rfl ntmps87 fun Q d=>vx
instance:CL prog 87 (type_of% @Sn):=⟨@Sn⟩
theorem Qn {b:Int} {out:Bool} (c:m_cy b=some out) (a:St w0 ros rs w):
  Calls prog 86 #[.int .u64 b] w (rv w0 ros rs (.bool out)):=by
 exact en func86 rfl ntmps86 fun Q d=>vx
instance:CL prog 86 (type_of% @Qn):=⟨@Qn⟩
theorem Zh {b:Int} {out:Bool} (c:m_cz b=some out) (a:St w0 ros rs w):
  Calls prog 85 #[.int .u64 b] w (rv w0 ros rs (.bool out)):=by
 exact en func85 rfl ntmps85 fun Q d=>vx
instance:CL prog 85 (type_of% @Zh):=⟨@Zh⟩
end Go.Proofs.YthekfonboblioaaGreatDoor
