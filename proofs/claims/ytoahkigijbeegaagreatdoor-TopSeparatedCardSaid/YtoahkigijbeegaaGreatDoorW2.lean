/- Walks: each function computes its model, printed. -/
import Derived.Test.YtoahkigijbeegaaGreatDoorSxX
import Derived.Test.YtoahkigijbeegaaGreatDoorTy
import Derived.Test.YtoahkigijbeegaaGreatDoorM16
import Derived.Test.YtoahkigijbeegaaGreatDoorSxV
import Derived.Test.YtoahkigijbeegaaGreatDoorSxS
import Derived.Test.YtoahkigijbeegaaGreatDoorSxT
namespace Go.Proofs.YtoahkigijbeegaaGreatDoor
open Go Sx M Go.Proofs.Tryz
set_option maxRecDepth 100000
set_option maxHeartbeats 40000000
set_option linter.unusedVariables false
attribute [local irreducible] wpList Code.wp Calls DR QR QS LA LS St row box fam imm rowS loop
variable {w0:World} {mu:List Fact} {rs:List Res} {w:World}
theorem w_a {b d out:Int} (c:m_a b d=some out) (a:St w0 mu rs w):
  Calls prog 4 #[iV b,iV d] w (rv w0 mu rs (iV out)):=by
 exact en func4 rfl ntmps4 fun Q e=>vx
instance:CL prog 4 (type_of% @w_a):=⟨@w_a⟩
theorem w_b {b:LI} {d:Int} {e:Hdr} {out:Int} (c:m_c b d=some out) (f:imm iu e.v b∈mu) (a:St w0 mu rs w):
  Calls prog 46 #[e.v,iV d] w (rv w0 mu rs (.int .u64 out)):=by
 exact en func46 rfl ntmps46 fun Q g=>vx
instance:CL prog 46 (type_of% @w_b):=⟨@w_b⟩
theorem w_c {b:Int} {out:Bool} (c:m_d b=some out) (a:St w0 mu rs w):
  Calls prog 52 #[.int .u64 b] w (rv w0 mu rs (.bool out)):=by
 exact en func52 rfl ntmps52 fun Q d=>vx
instance:CL prog 52 (type_of% @w_c):=⟨@w_c⟩
theorem w_d {j:LI} {k:Hdr} {out:LI} (c:m_g j=some out) (t:imm Zt k.v j∈mu) (a:St w0 mu rs w):
  Calls prog 108 #[k.v] w (ro w0 mu rs 108 Zt out):=by
 refine en func108 rfl ntmps108 fun Q u=>?_
 refine z 1 5 ?_
 refine bE c fun l o c=>?_
 refine lp o [0] (fun e=>[(3,iV e)]) (fun e=>St w0 mu rs) (fun | l=>(.exit 0,[(3,iV l)],St w0 mu rs)) rfl a rfl ?_ ?_
 ·clear a
  intro g w a
  refine bE c fun m p c=>q 14 rfl ?_
  replace a:=a.rowNh 108 Zt
  refine lpN Hdr Hdr p [0,3] (fun (f,h) d=>[(4,d.v),(5,iV h)]) (fun (f,h) d=>St w0 mu (row 108 Zt d.v f::rs)) (fun | m,i=>(.exit 2,[(4,i.v)],St w0 mu (row 108 Zt i.v m::rs))) rfl _ a rfl ?_ ?_
  ·clear a
   rintro i g w a
   exact vx
  rintro ⟨f,h⟩ d g w x a c
  exact vx
 rintro e g w y a c
 refine bE c fun r b c=>q 6 rfl ?_
 refine jW 7 [0,3] [(17,.bool r)] (St w0 mu rs) rfl (fun n=>?_) ?_
 ·refine gI 10 b rfl (fun s b=>?_) fun s b=>?_
  ·refine q 3 rfl (bE b fun A B b=>?_)
   refine z 2 2 ?_
   cases b
   exact n _ _ a rfl
  ·refine q 7 rfl ?_
   cases b
   exact n _ _ a rfl
 intro g w a
 exact vx
instance:CL prog 108 (type_of% @w_d):=⟨@w_d⟩
theorem w_e {b:Bool} {d:LI} {e:Hdr} {out:Bool×LI} (c:m_h b d=some out) (f:imm Zt e.v d∈mu) (a:St w0 mu rs w):
  Calls prog 103 #[.bool b,e.v] w (rc w0 mu rs 108 out):=by
 exact en func103 rfl ntmps103 fun Q g=>vx
instance:CL prog 103 (type_of% @w_e):=⟨@w_e⟩
theorem w_f {d:Int} {out:Bool×LI} (c:m_j d=some out) (a:St w0 mu rs w):
  Calls prog 49 #[iV d] w (rc w0 mu rs 108 out):=by
 refine en func49 rfl ntmps49 fun Q f=>?_
 refine z 1 16 ?_;intro e w a
 refine jC Int [0,2] (fun b=>[(3,.int .u64 b)]) (fun b w=>St w0 mu (box e 63 [.bool false,hnil.v]::rs) w∧m_i d b=some out) rfl ?_ ?_
 ·rintro b g w ⟨a,c⟩
  exact q 10 rfl (yh (rLt (n:=2) (l:=[wc .u32 b,wc .u32 (wsrc .u64 b 32)]) a Y2 [.int .u32 (wc .u32 b),.int .u32 (wc .u32 (wsrc .u64 b 32))] (bp2 e0 e0) rfl rfl (J1 (cs:=[.int .u32 (wc .u32 b)]) rfl mkI (J1 (cs:=[.int .u32 (wc .u32 (wsrc .u64 b 32))]) rfl mkI L1))) fun h w a=>vx)
 exact vx
instance:CL prog 49 (type_of% @w_f):=⟨@w_f⟩
theorem w_g {b:Bool} {d:LI} {e:Hdr} {out:Bool×LI} (c:m_k b d=some out) (f:imm Zt e.v d∈mu) (a:St w0 mu rs w):
  Calls prog 99 #[.agg #[.bool b,e.v]] w (rc w0 mu rs 108 out):=by
 exact en func99 rfl ntmps99 fun Q g=>vx
instance:CL prog 99 (type_of% @w_g):=⟨@w_g⟩
theorem w_h {out:Bool×Bool×Int} (c:m_l=some out) (a:St w0 mu rs w):
  Calls prog 53 #[] w (rv w0 mu rs (.agg #[.bool out.1,.bool out.2.1,hnil.v,iV out.2.2])):=by
 exact en func53 rfl ntmps53 fun Q b=>vx
instance:CL prog 53 (type_of% @w_h):=⟨@w_h⟩
theorem w_i {d:Bool} {e:LI} {f:Hdr} {out:Int} (c:m_n d e=some out) (o:imm Zt f.v e∈mu) (i:globF∈mu) (a:St w0 mu rs w):
  Calls prog 100 #[.agg #[.bool d,f.v]] w (rv w0 mu rs (iV out)):=by
 refine en func100 rfl ntmps100 fun Q p=>?_
 refine z 3 10 ?_;intro q w a j r c k w a
 refine bE c fun l m c=>?_
 refine lp m [3] (fun b=>[(4,iV b)]) (fun b=>St w0 mu (row 108 Zt k.v j::rs)) (fun | .inl ()=>(.exit 0,[],St w0 mu rs) | .inr h=>(.ret,[(2,iV h)],St w0 mu rs)) rfl (a.k11) rfl ?_ ?_
 ·clear a
  intro g w a
  rcases l with ⟨⟩ | h
  ·exact vx
  ·exact vx
 rintro b g w s a c
 refine v 0 ?_
 refine ⟨fun _ _ _ _ _=>⟨vt,fun _ _ _ _ c=>?_⟩,vt⟩
 exact bE c fun t n c=>cZ (Yn n i a) fun w a=>vx
instance:CL prog 100 (type_of% @w_i):=⟨@w_i⟩
theorem w_j {b:Bool} {d:LI} {e:Hdr} {out:Bool×LI} (c:m_o b d=some out) (f:imm Zt e.v d∈mu) (a:St w0 mu rs w):
  Calls prog 51 #[.agg #[.bool b,e.v]] w (rc w0 mu rs 108 out):=by
 exact en func51 rfl ntmps51 fun Q g=>vx
instance:CL prog 51 (type_of% @w_j):=⟨@w_j⟩
theorem w_k {i:LI} {j:Int} {k:Hdr} {out:LI} (c:m_q i j=some out) (p:imm Zt k.v i∈mu) (a:St w0 mu rs w):
  Calls prog 112 #[k.v,iV j] w (ro w0 mu rs 108 Zt out):=by
 refine en func112 rfl ntmps112 fun Q r=>bE c fun s n c=>q 9 rfl (yh (rMk a Y2 e0 n) fun t w a=>q 15 rfl ?_)
 obtain ⟨⟨l,m⟩,o,c⟩:=bs c
 refine lpN Hdr Hdr o [0,1] (fun (d,e,f) b=>[(5,b.v),(6,.int .u64 e),(7,iV f)]) (fun (d,e,f) b=>St w0 mu (row 108 Zt b.v d::rs)) (fun | (l,m),h=>(.exit 0,[(5,h.v),(6,.int .u64 m)],St w0 mu (row 108 Zt h.v l::rs))) rfl _ a rfl ?_ ?_
 ·clear a
  rintro h g w a
  exact vx
 rintro ⟨d,e,f⟩ b g w u a c
 exact vx
instance:CL prog 112 (type_of% @w_k):=⟨@w_k⟩
theorem w_l {m:LI} {i:Int} {x:Hdr} {out:LI×Bool} (c:m_v m i=some out) (y:imm Zt x.v m∈mu) (a:St w0 mu rs w):
  Calls prog 113 #[x.v,iV i] w (fun e w=>∃ (A:Hdr),e=.returned (.tuple #[A.v,.bool out.2])∧St w0 mu (row 108 Zt A.v out.1::rs) w):=by
 refine en func113 rfl ntmps113 fun Q S=>bE c fun B I c=>q 18 rfl ?_
 refine lp I [0,1] (fun (p,j)=>[(6,.bool p),(7,iV j)]) (fun (p,j)=>St w0 mu rs) (fun | B=>(.exit 0,[(6,.bool B)],St w0 mu rs)) rfl a rfl ?_ ?_
 ·clear a
  intro g w a
  refine q 23 rfl ?_
  obtain ⟨⟨C,D⟩,J,c⟩:=bs c
  replace a:=a.rowNh 108 Zt
  refine lpN Hdr Hdr J [0,1,9] (fun (n,d,k) f=>[(6,.bool n),(8,f.v),(10,iV k)]) (fun (n,d,k) f=>St w0 mu (row 108 Zt f.v d::rs)) (fun | (C,D),r=>(.exit 2,[(6,.bool C),(8,r.v)],St w0 mu (row 108 Zt r.v D::rs))) rfl _ a rfl ?_ ?_
  ·clear a
   rintro r g w a
   exact vx
  rintro ⟨n,d,k⟩ f g w E a c
  refine v 52 ?_
  refine ⟨fun _ _ _ _ c=>?_,vt⟩
  refine jC Int [0,1,6,8,9,10] (fun l=>[(11,.int .u64 l)]) (fun l w=>St w0 mu (row 108 Zt f.v d::rs) w∧m_s k i m d n l=some E) rfl ?_ ?_
  ·rintro l g w ⟨a,c⟩
   refine bE c fun s b c=>q 3 rfl ?_
   refine jN Unit [0,1,6,8,9,10,11] (fun _=>[(75,.bool s)]) (fun _=>St w0 mu (row 108 Zt f.v d::rs)) rfl ?_ ?_
   ·rcases Z4 b with ⟨t,b⟩ | ⟨t,b⟩
    ·refine bE b fun T F b=>bE b fun U K b=>?_
     have L:=U2 b
     refine dS [] 0 V0 ?_
     replace a:=a.drew
     exact Dw 32767 0 (qR 5 rfl (rK 65 rfl (dT t) (qR 2 rfl (rQ rfl (yIa Y2 e0 e0 a (rdI y) F) (rQ rfl (yI N4 e0 a (rdI y) F) (qR 1 rfl (rQ rfl (Zf rfl e0 K) (qR 3 rfl (rQ rfl (pt_ (.bool s) e0 rfl (eqv L e0)) (Rn QSn (jr () a)))))))))))
    ·have N:=U2 b
     refine dS [] 0 V0 ?_
     replace a:=a.drew
     exact Dw 32767 0 (qR 5 rfl (rK 65 rfl (dF t) (qR 9 rfl (rQ rfl (pf_ (.bool s) e0 rfl (eqv N rfl)) (Rn QSn (jr () a))))))
   rintro _ g w a
   refine q 1 rfl ?_
   refine jC Bool [0,1,8,9,10,11] (fun o=>[(6,.bool o)]) (fun o w=>St w0 mu (row 108 Zt f.v d::rs) w∧m_r l i d k o=some E) rfl ?_ ?_
   ·rintro o g w ⟨a,c⟩
    exact vx
   exact vx
  exact vx
 rintro ⟨p,j⟩ g w V a c
 refine q 8 rfl ?_
 refine jW 5 [0,1,6,7] [(21,.bool ((decide (j < (wqc .i64 i 32))) && (decide (j < (m.length:Int)))))] (St w0 mu rs) rfl (fun G=>?_) ?_
 ·refine gB 16 rfl (fun u=>?_) fun u=>?_
  ·refine z 1 2 ?_
   exact G _ _ a (Z0 (S0 Value.bool (j5 u)) rfl)
  ·exact q 5 rfl (G _ _ a (Z0 (S0 Value.bool (m5 u)) rfl))
 intro g w a
 refine v 26 ?_
 refine ⟨fun _ c=>?_,vt⟩
 refine bE c fun O h c=>?_
 refine jW 6 [0,1,7] [(31,.bool O)] (St w0 mu rs) rfl (fun H=>?_) ?_
 ·refine gJ 25 h rfl (fun R h=>?_) fun R h=>?_
  ·refine q 6 rfl ?_
   cases h
   exact H _ _ a rfl
  ·refine q 2 rfl (bE h fun W X h=>?_)
   refine z 2 2 ?_
   cases h
   exact H _ _ a rfl
 intro g w a
 exact vx
instance:CL prog 113 (type_of% @w_l):=⟨@w_l⟩
theorem w_m {b:Bool} {d:LI} {e:Hdr} {out:Bool×LI} (c:m_w b d=some out) (f:imm Zt e.v d∈mu) (a:St w0 mu rs w):
  Calls prog 160 #[.agg #[.bool b,e.v]] w (rc w0 mu rs 108 out):=by
 exact en func160 rfl ntmps160 fun Q g=>vx
instance:CL prog 160 (type_of% @w_m):=⟨@w_m⟩
theorem w_n {i j:LI} {k l:Hdr} {out:LI} (c:m_0 i j=some out) (p:imm Zt k.v i∈mu) (r:imm Zt l.v j∈mu) (a:St w0 mu rs w):
  Calls prog 109 #[k.v,l.v] w (ro w0 mu rs 108 Zt out):=by
 refine en func109 rfl ntmps109 fun Q s=>q 22 rfl ?_
 obtain ⟨⟨m,n⟩,o,c⟩:=bs c
 replace a:=a.rowNh 108 Zt
 refine lpN Hdr Hdr o [0,1] (fun (d,e,f) b=>[(5,b.v),(6,.int .u64 e),(7,iV f)]) (fun (d,e,f) b=>St w0 mu (row 108 Zt b.v d::rs)) (fun | (m,n),h=>(.exit 0,[(5,h.v),(6,.int .u64 n)],St w0 mu (row 108 Zt h.v m::rs))) rfl _ a rfl ?_ ?_
 ·clear a
  rintro h g w a
  exact vx
 rintro ⟨d,e,f⟩ b g w t a c
 exact vx
instance:CL prog 109 (type_of% @w_n):=⟨@w_n⟩
theorem kr {p:Prop}(h:p:=by
  cases c
  replace a:=a.immNh Zt
  exact f _ _ _ (X1 results48 (V2 rfl rfl a R0 J3 rfl) ⟨_,rfl,(a.k1a)⟩)):p:=h
theorem bf {p:Prop}(h:p:=by
  cases c
  exact za b results110 ⟨rfl,a⟩):p:=h
theorem w_o {e f:LI} {h i:Hdr} {out:Int} (c:m_2 e f=some out) (s:imm Zt h.v e∈mu) (t:imm Zt i.v f∈mu) (a:St w0 mu rs w):
  Calls prog 110 #[h.v,i.v] w (rv w0 mu rs (iV out)):=by
 refine en func110 rfl ntmps110 fun Q b=>?_
 refine z 2 3 ?_
 refine cIn c (fun k c=>?_) fun k c=>?_
 ·refine z 1 5 ?_
  refine bE c fun l m c=>?_
  refine lp m [0,1] (fun d=>[(5,iV d)]) (fun d=>St w0 mu rs) (fun | .inl ()=>(.exit 0,[],St w0 mu rs) | .inr j=>(.ret,[(4,iV j)],St w0 mu rs)) rfl a rfl ?_ ?_
  ·clear a
   intro g w a
   rcases l with ⟨⟩ | j
   ·refine q 8 rfl ?_
    exact bf
   ·refine q 2 rfl ?_
    exact bf
  rintro d g w u a c
  refine q 7 rfl (cI c (fun n c=>?_) fun n c=>?_)
  ·refine q 5 rfl (bE c fun x y c=>bE c fun A B c=>dS [] 0 V0 ?_)
   replace a:=a.drew
   refine z 5 1 ?_
   refine cIn c (fun o c=>?_) fun o c=>?_
   ·refine q 8 rfl ?_
    cases c
    exact lo a
   ·refine q 2 rfl (bE c fun C D c=>bE c fun E F c=>dS [] 0 V0 ?_)
    replace a:=a.drew
    refine z 5 1 ?_
    refine cI c (fun p c=>?_) fun p c=>?_
    ·refine q 9 rfl ?_
     cases c
     exact xo a
    ·refine q 10 rfl ?_
     cases c
     exact xo a
  ·refine q 2 rfl ?_
   cases c
   exact xo a
 ·refine z 2 3 ?_
  refine cI c (fun r c=>?_) fun r c=>?_
  ·refine q 8 rfl ?_
   exact bf
  ·refine q 9 rfl ?_
   exact bf
instance:CL prog 110 (type_of% @w_o):=⟨@w_o⟩
theorem w_p {i j:LI} {k l:Hdr} {out:LI} (c:m_5 i j=some out) (o:imm Zt k.v i∈mu) (p:imm Zt l.v j∈mu) (a:St w0 mu rs w):
  Calls prog 111 #[k.v,l.v] w (ro w0 mu rs 108 Zt out):=by
 refine en func111 rfl ntmps111 fun Q r=>bE c fun m n c=>q 22 rfl ?_
 replace a:=a.rowNh 108 Zt
 refine lpN Hdr Hdr n [0,1] (fun (d,e,f) b=>[(5,b.v),(6,.int .u64 e),(7,iV f)]) (fun (d,e,f) b=>St w0 mu (row 108 Zt b.v d::rs)) (fun | m,h=>(.exit 0,[(5,h.v)],St w0 mu (row 108 Zt h.v m::rs))) rfl _ a rfl ?_ ?_
 ·clear a
  rintro h g w a
  exact vx
 rintro ⟨d,e,f⟩ b g w s a c
 exact vx
instance:CL prog 111 (type_of% @w_p):=⟨@w_p⟩
theorem w_q {b:Bool} {d:LI} {e:Bool} {f:LI} {g h:Hdr} {out:Bool×LI} (c:m_6 b d e f=some out) (i:imm Zt g.v d∈mu) (j:imm Zt h.v f∈mu) (a:St w0 mu rs w):
  Calls prog 57 #[.agg #[.bool b,g.v],.agg #[.bool e,h.v]] w (rc w0 mu rs 108 out):=by
 refine en func57 rfl ntmps57 fun Q k=>?_
 refine z 3 3 ?_;intro l w a m w a n w a
 refine bE c fun o p c=>bE c fun q r c=>dS [2,5,6,7] 4 V0 ?_
 replace a:=a.drew
 refine z 9 0 ?_;intro s w a t w a
 exact y (Dd H0 e0 e0) vx
instance:CL prog 57 (type_of% @w_q):=⟨@w_q⟩
theorem w_r {b:Bool} {d:LI} {e:Bool} {f:LI} {g h:Hdr} {out:Bool×LI} (c:m_7 b d e f=some out) (i:imm Zt g.v d∈mu) (j:imm Zt h.v f∈mu) (a:St w0 mu rs w):
  Calls prog 114 #[.agg #[.bool b,g.v],.agg #[.bool e,h.v]] w (rc w0 mu rs 108 out):=by
 exact en func114 rfl ntmps114 fun Q k=>vx
instance:CL prog 114 (type_of% @w_r):=⟨@w_r⟩
theorem w_s {f:Bool} {m:LI} {n:Int} {h:Hdr} {out:Bool×LI} (c:m_9 f m n=some out) (B:imm Zt h.v m∈mu) (a:St w0 mu rs w):
  Calls prog 58 #[.agg #[.bool f,h.v],iV n] w (rc w0 mu rs 108 out):=by
 refine en func58 rfl ntmps58 fun Q o=>q 2 rfl (yb (W5 (vals:=[.bool f,h.v]) a e0 rfl) fun N w a=>yb (rAl a L4) fun p w a=>q 4 rfl (y (A1 [.bool f,h.v] Q1 e0 a R1) (bE c fun b C c=>cO (w_g C B a) fun r w a=>?_)))
 replace a:=a.k16
 refine sB rfl a Q1 fun w a=>q 9 rfl (cI c (fun D c=>?_) fun D c=>?_)
 ·refine q 1 rfl (bE c fun O E c=>bE c fun s F c=>dS [5,6,7] 3 V0 ?_)
  replace a:=a.drew
  refine D1 31 0 5 rfl (qR 1 rfl (rQ rfl (lb_ (.bool b.1) O_4 e0 a R0) (qR 1 rfl (rQ rfl (lb_ r.v Zi e0 a R0) (qR 1 rfl (Rn QSn ?_))))))
  replace a:=(a.k10).fz
  refine kO (w_k E F0 a) fun R w a=>dU (D1 0 3 6 rfl (Rn (qS rfl (sY rfl (lb_ (.bool b.1) O_4 e0 a R1) QSn)) ?_))
  replace a:=a.fz
  refine kO (w_e F F0 a) fun t w a=>dU (D0 0 0 7 rfl (Rn QSn ?_))
  replace a:=a.k16
  refine LT wn (w5 (ru:=[.bool s.1,t.v]) (us:=[.bool s.1,t.v]) a Q1 e0 e0 rfl rfl (A5 rfl) rfl) fun w a=>Dw 0 0 (Rn QSn (qx 3 rfl ?_))
  cases c
  exact o _ _ _ (X1 results58 (V2 rfl rfl a R0 Q1 rfl) ⟨_,rfl,((a.k13).fc)⟩)
 ·refine q 5 rfl (y (lb_ r.v Zi e0 a R0) (bE c fun G H c=>q 2 rfl ?_))
  replace a:=(a.k10).fz
  refine cO (w_l H F0 a) fun S w a=>q 10 rfl (y (lb_ (.bool b.1) O_4 e0 a R1) (bE c fun i I c=>q 1 rfl ?_))
  replace a:=a.fz
  refine cO (w_e I F0 a) fun j w a=>yb (rAl a L4) fun u w a=>sB rfl a Q1 fun w a=>q 6 rfl (y (lb_ (.bool b.1) O_4 e0 a R2) (q 1 rfl ?_))
  refine jW 2 [4,7] [(35,.bool (b.1 && G.2))] (St w0 mu (box p 63 [.bool false,hnil.v]::row 108 Zt j.v i.2::box u 63 [.bool i.1,j.v]::rs)) rfl (fun x=>?_) ?_
  ·refine gB 33 rfl (fun l=>?_) fun l=>?_
   ·exact q 2 rfl (x _ _ ((a.k17).fc) (Z0 (S0 Value.bool (j5 l)) rfl))
   ·exact q 2 rfl (x _ _ ((a.k17).fc) (Z0 (S0 Value.bool (m5 l)) rfl))
  intro g w a
  refine q 2 rfl ?_
  refine jC (Bool×LI×Hdr) [4,7] (fun (d,k,e)=>[]) (fun (d,k,e) w=>St w0 mu (box p 63 [.bool false,hnil.v]::row 108 Zt e.v k::box u 63 [.bool d,e.v]::rs) w∧m_8 d k=some out) rfl ?_ ?_
  ·rintro ⟨d,k,e⟩ g w ⟨a,c⟩
   refine q 3 rfl (y (A1 [.bool d,e.v] Q1 e0 a R2) (sB rfl a Q1 fun w a=>q 3 rfl ?_))
   cases c
   exact o _ _ _ (X1 results58 (V2 rfl rfl a R0 Q1 rfl) ⟨_,rfl,(a.k13)⟩)
  refine cJ c (fun J c=>?_) fun J c=>?_
  ·refine bE c fun T K c=>bE c fun z L c=>dS [1,2,3] 3 V0 ?_
   replace a:=a.drew
   refine D1 1 0 1 rfl (rQ rfl (A1 [.bool i.1,j.v] Q1 e0 a R2) (Rn QSn (kO (w_f K a) fun U w a=>dU (D1 0 1 2 rfl (Rn (sY rfl (A1 [.bool i.1,j.v] Q1 e0 a R3) QSn) ?_)))))
   replace a:=((a.k16).fz).fz
   refine kO (w_r L F1 F0 a) fun A w a=>dU (D0 0 0 3 rfl (Rn QSn ?_))
   replace a:=a.k16
   exact LT wn (w5 (ru:=[.bool z.1,A.v]) (us:=[.bool z.1,A.v]) a Q1 e0 e0 rfl rfl (A5 rfl) rfl) fun w a=>Dw 0 0 (Rn QSn (qx 0 rfl (jx (_,_,_) ⟨((a.k18).fc),c⟩)))
  ·exact q 1 rfl (jx (_,_,_) ⟨a,c⟩)
instance:CL prog 58 (type_of% @w_s):=⟨@w_s⟩
theorem w_t {i:Bool} {j:LI} {k:Int} {l:Hdr} {out:Bool×LI} (c:m_bb i j k=some out) (r:imm Zt l.v j∈mu) (a:St w0 mu rs w):
  Calls prog 101 #[.agg #[.bool i,l.v],iV k] w (rc w0 mu rs 108 out):=by
 refine en func101 rfl ntmps101 fun Q t=>?_
 refine z 2 4 ?_;intro m w a n w a
 obtain ⟨⟨o,p,q⟩,s,c⟩:=bs c
 refine lpN Hdr Hdr s [2,4] (fun (d,e,f) b=>[(1,iV d)]) (fun (d,e,f) b=>St w0 (imm Zt b.v f::mu) (box m 63 [.bool e,b.v]::box n 63 [.bool false,hnil.v]::rs)) (fun | (o,p,q),h=>(.exit 0,[(1,iV o)],St w0 (imm Zt h.v q::mu) (box m 63 [.bool p,h.v]::box n 63 [.bool false,hnil.v]::rs))) rfl _ ((a.k10).facts (U0 r M1)) rfl ?_ ?_
 ·clear a
  rintro h g w a
  exact vx
 rintro ⟨d,e,f⟩ b g w u a c
 refine v 0 ?_
 refine ⟨fun _ _ _ _ c _ _ _ _ a=>?_,vt⟩
 replace a:=(a.k10).fz
 exact vx
instance:CL prog 101 (type_of% @w_t):=⟨@w_t⟩
theorem w_u {h out:Int} (c:m_be h=some out) (a:St w0 mu rs w):
  Calls prog 157 #[.int .u32 h] w (rv w0 mu rs (iV out)):=by
 refine en func157 rfl ntmps157 fun Q j=>q 12 rfl ?_
 refine jC (Int×Int) [] (fun (b,d)=>[(0,.int .u32 b),(2,iV d)]) (fun (b,d) w=>St w0 mu rs w∧m_bd b d=some out) rfl ?_ ?_
 ·rintro ⟨b,d⟩ g w ⟨a,c⟩
  refine q 8 rfl ?_
  refine jC (Int×Int) [] (fun (e,f)=>[(0,.int .u32 e),(2,iV f)]) (fun (e,f) w=>St w0 mu rs w∧m_bc e f=some out) rfl ?_ ?_
  ·rintro ⟨e,f⟩ g w ⟨a,c⟩
   exact bE c fun k i c=>q 6 rfl (y (yixs H0 rfl e0 H0 i) vx)
  exact vx
 exact vx
instance:CL prog 157 (type_of% @w_u):=⟨@w_u⟩
theorem w_v {b:Bool} {d:LI} {e:Hdr} {out:Int} (c:m_bf b d=some out) (f:imm Zt e.v d∈mu) (a:St w0 mu rs w):
  Calls prog 102 #[.agg #[.bool b,e.v]] w (rv w0 mu rs (iV out)):=by
 exact en func102 rfl ntmps102 fun Q g=>vx
instance:CL prog 102 (type_of% @w_v):=⟨@w_v⟩
theorem w_w {d:Bool} {h:LI} {i:Int} {e:Hdr} {out:Bool×Bool×LI×Int} (c:m_bg d h i=some out) (s:imm Zt e.v h∈mu) (t:globF∈mu) (a:St w0 mu rs w):
  Calls prog 48 #[.agg #[.bool d,e.v],iV i] w (rd w0 mu rs out):=by
 refine en func48 rfl ntmps48 fun Q f=>?_
 refine v 31 ?_
 refine fun m _ _ n _ _ _ _ _ _ _ _ o _ _ w a=>⟨fun _ c _ a=>?_,fun _ _=>⟨fun _ _ _ _ c _ _ _ a=>?_,fun _ _ u _ _ _ _ _ _ _ _ _ _ _ _ j _ c k _ _ w a=>?_⟩⟩
 ·exact kr
 ·exact kr
 ·refine bE c fun p b c=>?_
  refine jW 6 [2,4,5,7] [(36,.bool p)] (St w0 (imm Zt k.v j.2::mu) (box m 63 [.bool d,e.v]::box n 65 [.bool false,.bool false,hnil.v,iV 0]::box o 63 [.bool j.1,k.v]::rs)) rfl (fun l=>?_) ?_
  ·refine gI 30 b rfl (fun r b=>?_) fun r b=>?_
   ·refine q 6 rfl ?_
    cases b
    replace a:=(a.k10).fz
    exact l _ _ ((a.k18).facts (U0 F0 (M0 (M0 (M0 M1))))) rfl
   ·refine z 1 0 ?_
    refine bE b fun x y b=>?_
    refine z 1 3 ?_;intro w a
    cases b
    exact l _ _ ((a.k18).facts (U0 F0 (M0 (M0 (M0 M1))))) rfl
  intro g w a
  refine v 0 ?_
  refine ⟨fun _ _ _ _ c _ _ _ a=>?_,vt⟩
  cases c
  replace a:=a.immNh Zt
  exact f _ _ _ (X1 results48 (V2 rfl rfl a R0 J3 rfl) ⟨_,rfl,((a.k1b).facts (U0 F0 (M0 (M0 M1))))⟩)
instance:CL prog 48 (type_of% @w_w):=⟨@w_w⟩
theorem w_x {b:Int} {out:Bool×Bool×LI×Int} (c:m_bh b=some out) (d:globF∈mu) (a:St w0 mu rs w):
  Calls prog 18 #[iV b] w (rd w0 mu rs out):=by
 exact en func18 rfl ntmps18 fun Q e=>vx
instance:CL prog 18 (type_of% @w_x):=⟨@w_x⟩
theorem w_y {b d:Bool} {e:LI} {f:Int} {g:Hdr} {out:Bool×Bool×LI×Int} (c:m_bi b d e f=some out) (i:imm Zt g.v e∈mu) (j:globF∈mu) (a:St w0 mu rs w):
  Calls prog 50 #[.agg #[.bool b,.bool d,g.v,iV f]] w (rd w0 mu rs out):=by
 refine en func50 rfl ntmps50 fun Q h=>?_
 refine v 0 ?_
 refine fun _ _ _ _ _ a=>⟨fun _ _ _ _ c _ _ _ a=>?_,vt⟩
 cases c
 replace a:=a.immNh Zt
 exact h _ _ _ (X1 results50 (V2 rfl rfl a R0 J3 rfl) ⟨_,rfl,(a.k19)⟩)
instance:CL prog 50 (type_of% @w_y):=⟨@w_y⟩
theorem w_z {b:Bool} {d:LI} {e:Hdr} {out:Int} (c:m_bj b d=some out) (f:imm Zt e.v d∈mu) (a:St w0 mu rs w):
  Calls prog 55 #[.agg #[.bool b,e.v]] w (rv w0 mu rs (iV out)):=by
 exact en func55 rfl ntmps55 fun Q g=>vx
instance:CL prog 55 (type_of% @w_z):=⟨@w_z⟩
theorem w_0 {b:Bool} {d out:Int} (c:m_bk b d=some out) (a:St w0 mu rs w):
  Calls prog 107 #[.bool b,.int .u64 d] w (rv w0 mu rs (.int .u64 out)):=by
 exact en func107 rfl ntmps107 fun Q e=>vx
instance:CL prog 107 (type_of% @w_0):=⟨@w_0⟩
theorem w_1 {d:Bool} {b out:Int} (c:m_bl d b=some out) (a:St w0 mu rs w):
  Calls prog 104 #[.bool d,iV b] w (rv w0 mu rs (.int .u64 out)):=by
 refine en func104 rfl ntmps104 fun Q n=>q 11 rfl ?_
 refine jW 7 [0,1] [(14,.bool ((decide (b=3)) || ((decide (b=1)) && (!d))))] (St w0 mu rs) rfl (fun j=>?_) ?_
 ·refine gB 7 rfl (fun e=>?_) fun e=>?_
  ·exact q 7 rfl (j _ _ a (Z0 (S0 Value.bool (orT e)) rfl))
  ·refine q 3 rfl ?_
   refine jW 3 [0,1,7] [(13,.bool ((decide (b=1)) && (!d)))] (St w0 mu rs) rfl (fun k=>?_) ?_
   ·refine gB 10 rfl (fun f=>?_) fun f=>?_
    ·exact q 3 rfl (k _ _ a (Z0 (S0 Value.bool (j5 f)) rfl))
    ·exact q 3 rfl (k _ _ a (Z0 (S0 Value.bool (m5 f)) rfl))
   intro g w a
   exact q 1 rfl (j _ _ a (Z0 (S0 Value.bool (orF e)) rfl))
 intro g w a
 refine q 1 rfl ?_
 refine jW 6 [0] [(21,.bool (((decide (b=3)) || ((decide (b=1)) && (!d))) || ((decide (b=2)) && d)))] (St w0 mu rs) rfl (fun l=>?_) ?_
 ·refine gB 15 rfl (fun h=>?_) fun h=>?_
  ·exact q 6 rfl (l _ _ a (Z0 (S0 Value.bool (orT h)) rfl))
  ·refine q 3 rfl ?_
   refine jW 2 [0,15] [(20,.bool ((decide (b=2)) && d))] (St w0 mu rs) rfl (fun m=>?_) ?_
   ·refine gB 18 rfl (fun i=>?_) fun i=>?_
    ·exact q 2 rfl (m _ _ a (Z0 (S0 Value.bool (j5 i)) rfl))
    ·exact q 2 rfl (m _ _ a (Z0 (S0 Value.bool (m5 i)) rfl))
   intro g w a
   exact q 1 rfl (l _ _ a (Z0 (S0 Value.bool (orF h)) rfl))
 intro g w a
 exact vx
instance:CL prog 104 (type_of% @w_1):=⟨@w_1⟩
theorem ni {p:Prop}(h:p:=by
  refine q 7 rfl ?_
  cases c
  exact za r results45 ⟨rfl,(a.k14)⟩):p:=h
theorem w_2 {b:Bool} {d:LI} {e:Int} {f:Hdr} {out:Bool} (c:m_bm b d e=some out) (g:imm Zt f.v d∈mu) (a:St w0 mu rs w):
  Calls prog 158 #[.agg #[.bool b,f.v],iV e] w (rv w0 mu rs (.bool out)):=by
 exact en func158 rfl ntmps158 fun Q h=>vx
instance:CL prog 158 (type_of% @w_2):=⟨@w_2⟩
theorem w_3 {b:Bool} {d:Int} {e:Bool} {f:Int} {out:Bool} (c:m_bn b d e f=some out) (a:St w0 mu rs w):
  Calls prog 159 #[.bool b,iV d,.bool e,iV f] w (rv w0 mu rs (.bool out)):=by
 exact en func159 rfl ntmps159 fun Q g=>vx
instance:CL prog 159 (type_of% @w_3):=⟨@w_3⟩
theorem w_4 {k m:Bool} {A:LI} {B:Int} {x:Bool} {l:Int} {n:Hdr} {out:Bool×LI} (c:m_bs k m A B x l=some out) (X:imm Zt n.v A∈mu) (Z:globF∈mu) (a:St w0 mu rs w):
  Calls prog 105 #[.bool k,.agg #[.bool m,n.v],iV B,.bool x,iV l] w (rb w0 mu rs out):=by
 refine en func105 rfl ntmps105 fun Q C=>?_
 refine z 8 9 ?_;intro D w a e w a b a0 c d w a f w a w a I a1 c w a
 refine jW 3 [0,2,3,4,6,10,11] [(27,.bool ((!I) && (!x)))] (St w0 mu (box D 63 [.bool m,n.v]::box e 63 [.bool false,hnil.v]::row 108 Zt d.v b.2::box f 63 [.bool b.1,d.v]::rs)) rfl (fun E=>?_) ?_
 ·refine gB 24 rfl (fun y=>?_) fun y=>?_
  ·exact q 3 rfl (E _ _ (a.k2f) (Z0 (S0 Value.bool (j5 y)) rfl))
  ·exact q 3 rfl (E _ _ (a.k2f) (Z0 (S0 Value.bool (m5 y)) rfl))
 intro g w a
 refine q 2 rfl ?_
 refine cJ c (fun J c=>?_) fun J c=>?_
 ·refine z 2 4 ?_;intro w a
  cases c
  replace a:=(a.k16).fz
  exact C _ _ _ (X1 results105 (V2 rfl rfl a R0 Q1 rfl) ⟨_,rfl,(a.k1b)⟩)
 ·refine q 14 rfl ?_
  refine jC Int [0,4,10,11] (fun o=>[(13,iV o)]) (fun o w=>St w0 mu (box e 63 [.bool false,hnil.v]::row 108 Zt d.v b.2::box f 63 [.bool b.1,d.v]::rs) w∧m_bp b k l o=some out) rfl ?_ ?_
  ·rintro o g w ⟨a,c⟩
   refine z 2 2 ?_;intro a2 a3 c w a
   refine bE c fun K h c=>?_
   refine jW 4 [0,4,10,11,13] [(57,.bool K)] (St w0 (imm Zt d.v b.2::mu) (box e 63 [.bool false,hnil.v]::box f 63 [.bool b.1,d.v]::rs)) rfl (fun F=>?_) ?_
   ·refine gIn 53 h rfl (fun L h=>?_) fun L h=>?_
    ·refine q 4 rfl ?_
     cases h
     exact F _ _ a rfl
    ·refine z 1 0 ?_
     refine bE h fun a4 a5 h=>?_
     refine z 1 2 ?_;intro w a
     cases h
     exact F _ _ a rfl
   intro g w a
   refine z 1 2 ?_;intro a6 a7 c w a
   refine jC (Bool×LI×Hdr) [10,11] (fun (p,r,s)=>[]) (fun (p,r,s) w=>St w0 (imm Zt s.v r::mu) (box e 63 [.bool false,hnil.v]::box f 63 [.bool p,s.v]::rs) w∧m_bo p r=some out) rfl ?_ ?_
   ·rintro ⟨p,r,s⟩ g w ⟨a,c⟩
    refine z 2 3 ?_;intro w a
    cases c
    exact C _ _ _ (X1 results105 (V2 rfl rfl a R0 Q1 rfl) ⟨_,rfl,(a.k19)⟩)
   refine cJ c (fun N c=>?_) fun N c=>?_
   ·refine bE c fun a8 a9 c=>bE c fun b0 b1 c=>dS [1,2,3] 3 V0 ?_
    replace a:=a.drew
    refine z 5 0 ?_;intro b2 w a b3 w a w a
    replace a:=(a.k10).fz
    exact jx (_,_,_) ⟨((a.k10).facts (U0 F0 (M0 (M0 (M0 M1))))),c⟩
   ·exact q 1 rfl (jx (_,_,_) ⟨a,c⟩)
  refine cI c (fun O c=>?_) fun O c=>?_
  ·refine z 6 2 ?_;intro b4 b5 c b6 w a b7 w a w a c0 c1 c w a
   refine bE c fun R i c=>?_
   refine jW 4 [0,2,3,4,6,10,11,13] [(42,.bool R)] (St w0 mu (box D 63 [.bool m,n.v]::box e 63 [.bool false,hnil.v]::row 108 Zt d.v b.2::box f 63 [.bool b.1,d.v]::rs)) rfl (fun G=>?_) ?_
   ·refine gI 38 i rfl (fun S i=>?_) fun S i=>?_
    ·refine z 1 0 ?_
     refine bE i fun c2 c3 i=>?_
     refine z 1 2 ?_;intro w a
     cases i
     exact G _ _ ((a.k3d).fc) rfl
    ·refine q 4 rfl ?_
     cases i
     exact G _ _ ((a.k3d).fc) rfl
   intro g w a
   refine q 2 rfl ?_
   refine jC Int [0,4,10,11] (fun t=>[(13,iV t)]) (fun t w=>St w0 mu (box e 63 [.bool false,hnil.v]::row 108 Zt d.v b.2::box f 63 [.bool b.1,d.v]::rs) w∧m_bq b k l t=some out) rfl ?_ ?_
   ·rintro t g w ⟨a,c⟩
    exact jx _ ⟨a,c⟩
   refine cJ c (fun T c=>?_) fun T c=>?_
   ·refine q 9 rfl (bE c fun U j c=>?_)
    refine jW 5 [0,4,10,11,13] [(49,.bool U)] (St w0 mu (box e 63 [.bool false,hnil.v]::row 108 Zt d.v b.2::box f 63 [.bool b.1,d.v]::rs)) rfl (fun H=>?_) ?_
    ·refine gJ 44 j rfl (fun V j=>?_) fun V j=>?_
     ·refine q 5 rfl ?_
      cases j
      exact H _ _ (a.k3e) rfl
     ·refine z 1 2 ?_
      refine bE j fun c4 c5 j=>?_
      refine z 1 1 ?_;intro w a
      cases j
      exact H _ _ (a.k3e) rfl
    intro g w a
    refine q 2 rfl ?_
    refine jC Int [0,4,10,11] (fun u=>[(13,iV u)]) (fun u w=>St w0 mu (box e 63 [.bool false,hnil.v]::row 108 Zt d.v b.2::box f 63 [.bool b.1,d.v]::rs) w∧m_br b k l u=some out) rfl ?_ ?_
    ·rintro u g w ⟨a,c⟩
     exact jx _ ⟨a,c⟩
    refine cJ c (fun W c=>?_) fun W c=>?_
    ·exact q 3 rfl (jx _ ⟨a,c⟩)
    ·exact q 1 rfl (jx _ ⟨a,c⟩)
   ·exact q 1 rfl (jx _ ⟨(a.k3e),c⟩)
  ·exact q 1 rfl (jx _ ⟨(a.k3e),c⟩)
instance:CL prog 105 (type_of% @w_4):=⟨@w_4⟩
theorem w_5 {h:Bool} {i:LI} {j:Hdr} {out:Int×Bool} (c:m_bu h i=some out) (n:imm Zt j.v i∈mu) (a:St w0 mu rs w):
  Calls prog 106 #[.agg #[.bool h,j.v]] w (rv w0 mu rs (.tuple #[iV out.1,.bool out.2])):=by
 refine en func106 rfl ntmps106 fun Q o=>?_
 refine v 0 ?_
 refine fun k _ _ b _ _ d _ _ w a=>⟨vt,fun _ c=>?_⟩
 refine bE c fun l m c=>?_
 refine lp m [1] (fun (e,f)=>[(4,.int .u64 e),(5,iV f)]) (fun (e,f)=>St w0 mu (row 108 Zt d.v b.2::box k 63 [.bool b.1,d.v]::rs)) (fun | l=>(.exit 0,[(4,.int .u64 l)],St w0 mu (row 108 Zt d.v b.2::box k 63 [.bool b.1,d.v]::rs))) rfl (a.k10) rfl ?_ ?_
 ·clear a
  intro g w a
  exact vx
 rintro ⟨e,f⟩ g w p a c
 exact vx
instance:CL prog 106 (type_of% @w_5):=⟨@w_5⟩
theorem w_6 {e n:Bool} {o:LI} {l:Int} {p:Bool} {f:Int} {r:Hdr} {out:Int} (c:m_bx e n o l p f=some out) (D:imm Zt r.v o∈mu) (E:globF∈mu) (a:St w0 mu rs w):
  Calls prog 56 #[.bool e,.agg #[.bool n,r.v],iV l,.bool p,iV f] w (rv w0 mu rs (.int .u64 out)):=by
 refine en func56 rfl ntmps56 fun Q h=>?_
 refine z 3 12 ?_;intro F w a t G c w a
 refine cI c (fun u c=>?_) fun u c=>?_
 ·refine z 1 5 ?_;intro H I c w a
  cases c
  exact za h results56 ⟨rfl,(a.k14)⟩
 ·refine z 1 10 ?_;intro x w a
  refine jC (Bool×LI×Hdr) [0,4,12,13] (fun (i,j,k)=>[]) (fun (i,j,k) w=>St w0 (imm Zt k.v j::mu) (box x 63 [.bool i,k.v]::rs) w∧m_bw e f l t i j=some out) rfl ?_ ?_
  ·rintro ⟨i,j,k⟩ g w ⟨a,c⟩
   refine z 2 14 ?_;intro J K c w a
   refine jC (Int×Int) [0,4] (fun (b,d)=>[(12,iV b),(14,iV d)]) (fun (b,d) w=>St w0 mu rs w∧m_bv e f b d=some out) rfl ?_ ?_
   ·rintro ⟨b,d⟩ g w ⟨a,c⟩
    refine q 8 rfl ?_
    refine jW 4 [0,4,12,14] [(61,.bool ((decide ((4503599627370496:Int)≤d)) && (decide ((1024:Int) < (wa .i64 b 53)))))] (St w0 mu rs) rfl (fun s=>?_) ?_
    ·refine gB 57 rfl (fun m=>?_) fun m=>?_
     ·exact q 4 rfl (s _ _ a (Z0 (S0 Value.bool (j5 m)) rfl))
     ·exact q 4 rfl (s _ _ a (Z0 (S0 Value.bool (m5 m)) rfl))
    intro g w a
    refine q 3 rfl ?_
    refine cJ c (fun y c=>?_) fun y c=>?_
    ·refine z 1 6 ?_;intro L N c w a
     cases c
     exact za h results56 ⟨rfl,a⟩
    ·refine q 7 rfl (cI c (fun A c=>?_) fun A c=>?_)
     ·refine z 1 6 ?_;intro O R c w a
      cases c
      exact za h results56 ⟨rfl,a⟩
     ·refine z 1 4 ?_;intro S T c w a
      cases c
      exact za h results56 ⟨rfl,a⟩
   refine cI c (fun B c=>?_) fun B c=>?_
   ·exact q 10 rfl (jx (_,_) ⟨((a.k14).fc),c⟩)
   ·exact q 1 rfl (jx (_,_) ⟨((a.k14).fc),c⟩)
  refine cI c (fun C c=>?_) fun C c=>?_
  ·refine z 3 1 ?_;intro U V c W w a w a
   exact jx (_,_,_) ⟨(a.k11),c⟩
  ·refine z 3 1 ?_;intro X Z c a0 w a w a
   replace a:=(a.k10).fz
   exact jx (_,_,_) ⟨(a.k11),c⟩
instance:CL prog 56 (type_of% @w_6):=⟨@w_6⟩
theorem w_7 {b d:Bool} {e:LI} {f g:Int} {h:Hdr} {out:Int} (c:m_by b d e f g=some out) (i:imm Zt h.v e∈mu) (j:globF∈mu) (a:St w0 mu rs w):
  Calls prog 22 #[.agg #[.bool b,.bool d,h.v,iV f],iV g] w (rv w0 mu rs (.int .u64 out)):=by
 exact en func22 rfl ntmps22 fun Q k=>vx
instance:CL prog 22 (type_of% @w_7):=⟨@w_7⟩
theorem w_8 {b d out:Int} (c:m_bz b d=some out) (e:globF∈mu) (a:St w0 mu rs w):
  Calls prog 155 #[iV b,iV d] w (rv w0 mu rs (.int .u64 out)):=by
 exact en func155 rfl ntmps155 fun Q f=>vx
instance:CL prog 155 (type_of% @w_8):=⟨@w_8⟩
theorem w_9 {b out:Int} (c:m_b0 b=some out) (d:globF∈mu) (a:St w0 mu rs w):
  Calls prog 98 #[.int .u64 b] w (rv w0 mu rs (.int .u64 out)):=by
 exact en func98 rfl ntmps98 fun Q e=>vx
instance:CL prog 98 (type_of% @w_9):=⟨@w_9⟩
theorem qn {b d out:Int} (c:m_b1 b d=some out) (e:globF∈mu) (a:St w0 mu rs w):
  Calls prog 47 #[.int .u64 b,iV d] w (rv w0 mu rs (.int .u64 out)):=by
 exact en func47 rfl ntmps47 fun Q f=>vx
instance:CL prog 47 (type_of% @qn):=⟨@qn⟩
theorem pn {L:LI} {d f N:Int} {O:Hdr} {out:Int×Int×LI×LI×LI} (c:m_b5 L d f N=some out) (a6:imm iu O.v L∈mu) (a7:globF∈mu) (a:St w0 mu rs w):
  Calls prog 17 #[O.v,iV d,iV f,iV N] w (fun e w=>∃ (R S T:Hdr),e=.returned (.agg #[iV out.1,iV out.2.1,R.v,S.v,T.v])∧St w0 mu (row 3 I1 R.v out.2.2.1::row 3 I1 S.v out.2.2.2.1::row 56 iu T.v out.2.2.2.2::rs) w):=by
 refine en func17 rfl ntmps17 fun Q Z=>?_
 refine z 1 6 ?_;intro j w a
 refine yh (rLt (n:=1) (l:=[0]) a N0 [iV 0] (bp1 rfl) rfl rfl (J1 (cs:=[iV 0]) rfl mkI L1)) fun a8 w a=>?_
 refine z 3 9 ?_;intro k w a w a
 obtain ⟨⟨U,V,W⟩,a0,c⟩:=bs c
 replace a:=(a.rowNh 3 I1).rowNh 56 iu
 refine lpN (Hdr×Hdr×Hdr) (Hdr×Hdr×Hdr) a0 [0,1,2,3,8,9] (fun (i,A,B,C) (b,p,r)=>[(10,iV C)]) (fun (i,A,B,C) (b,p,r)=>St w0 mu (box j 27 [iV 0,iV 0,hnil.v,hnil.v,hnil.v]::row 3 I1 b.v i::row 3 I1 p.v A::row 56 iu r.v B::box k 27 [iV d,iV f,b.v,p.v,r.v]::rs)) (fun | (U,V,W),(D,E,F)=>(.exit 0,[],St w0 mu (box j 27 [iV 0,iV 0,hnil.v,hnil.v,hnil.v]::row 3 I1 D.v U::row 3 I1 E.v V::row 56 iu F.v W::box k 27 [iV d,iV f,D.v,E.v,F.v]::rs))) rfl (_,_,_) (a.k3f) rfl ?_ ?_
 ·clear a
  rintro ⟨D,E,F⟩ g w a
  refine z 2 3 ?_;intro w a
  cases c
  exact Z _ _ _ (X1 results17 (V2 rfl rfl a R0 E5 rfl) ⟨_,_,_,rfl,(a.k3g)⟩)
 rintro ⟨i,A,B,C⟩ ⟨b,p,r⟩ g w a9 a c
 refine q 8 rfl (cI c (fun a1 c=>?_) fun a1 c=>?_)
 ·refine q 11 rfl ?_
  obtain ⟨⟨m,X⟩,a2,c⟩:=bs c
  refine lpN (Hdr×Hdr) (Hdr×Hdr) a2 [0,1,2,3,8,9,10] (fun (G,H,h) (s,o)=>[(11,iV h)]) (fun (G,H,h) (s,o)=>St w0 mu (box j 27 [iV 0,iV 0,hnil.v,hnil.v,hnil.v]::row 3 I1 b.v i::row 3 I1 s.v G::row 56 iu o.v H::box k 27 [iV d,iV f,b.v,s.v,o.v]::rs)) (fun | (m,X),(I,J)=>(.exit 2,[],St w0 mu (box j 27 [iV 0,iV 0,hnil.v,hnil.v,hnil.v]::row 3 I1 b.v i::row 3 I1 I.v m::row 56 iu J.v X::box k 27 [iV d,iV f,b.v,I.v,J.v]::rs))) rfl (_,_) a rfl ?_ ?_
  ·clear a
   rintro ⟨I,J⟩ g w a
   refine z 3 0 ?_
   refine yh (rLt (n:=1) (l:=[(m.length:Int)]) a N0 [iV (m.length:Int)] (bp1 e0) rfl rfl (J1 (cs:=[iV (m.length:Int)]) rfl mkI L1)) fun b0 w a=>?_
   refine z 2 8 ?_;intro b1 b2 c b3 w a w a
   cases c
   exact ln (_,_,_) (a.k3h)
  rintro ⟨G,H,h⟩ ⟨s,o⟩ g w a3 a c
  refine q 8 rfl (cI c (fun a4 c=>?_) fun a4 c=>?_)
  ·refine z 1 11 ?_;intro b4 b5 c w a
   refine jC (LI×LI×Hdr×Hdr) [0,1,2,3,8,9,10,11] (fun (t,u,x,y)=>[]) (fun (t,u,x,y) w=>St w0 mu (box j 27 [iV 0,iV 0,hnil.v,hnil.v,hnil.v]::row 3 I1 b.v i::row 3 I1 x.v t::row 56 iu y.v u::box k 27 [iV d,iV f,b.v,x.v,y.v]::rs) w∧m_b2 h t u=some a3) rfl ?_ ?_
   ·rintro ⟨t,u,x,y⟩ g w ⟨a,c⟩
    refine q 7 rfl ?_
    cases c
    exact ln (_,_) a
   refine cI c (fun a5 c=>?_) fun a5 c=>?_
   ·refine z 1 1 ?_
    refine yh (rLt (n:=1) (l:=[h]) a N0 [iV h] (bp1 e0) rfl rfl (J1 (cs:=[iV h]) rfl mkI L1)) fun b7 w a=>?_
    refine z 2 2 ?_;intro b9 c0 c c1 w a w a
    refine bE c fun K c2 c=>bE c fun c3 c4 c=>dS [4,5,6,8] 4 V0 ?_
    replace a:=a.drew
    refine z 2 0 ?_;intro w a
    refine dU (D1 0 3 5 rfl (Rn (qS rfl (sY rfl (lb_ o.v T3 e0 a R0) QSn)) (LH wn (rLt (n:=1) (l:=[K]) a E2 [.int .u64 K] (bp1 e0) rfl rfl (J1 (cs:=[.int .u64 K]) rfl mkI L1)) fun c5 w a=>dU ?_)))
    refine z 3 0 ?_;intro c6 w a w a
    exact jx (_,_,_,_) ⟨(a.k3j),c⟩
   ·exact q 1 rfl (jx (_,_,_,_) ⟨a,c⟩)
  ·refine q 2 rfl ?_
   cases c
   exact lx (_,_) a
 ·refine q 2 rfl ?_
  cases c
  exact lx (_,_,_) a
instance:CL prog 17 (type_of% @pn):=⟨@pn⟩
theorem mn {d:LI} {e:Hdr} {out:Bool} (c:m_b7 d=some out) (i:imm iu e.v d∈mu) (a:St w0 mu rs w):
  Calls prog 97 #[e.v] w (rv w0 mu rs (.bool out)):=by
 refine en func97 rfl ntmps97 fun Q j=>bE c fun f h c=>q 12 rfl ?_
 refine lp h [0] (fun b=>[(3,iV b)]) (fun b=>St w0 mu rs) (fun | .inl ()=>(.exit 0,[],St w0 mu rs) | .inr ()=>(.ret,[(2,.bool false)],St w0 mu rs)) rfl a rfl ?_ ?_
 ·clear a
  intro g w a
  rcases f with ⟨⟩ | ⟨⟩
  ·exact vx
  ·exact vx
 rintro b g w k a c
 exact vx
instance:CL prog 97 (type_of% @mn):=⟨@mn⟩
theorem bn {b e:Int} {D y E:LI} {f d i:Hdr} {out:Int} (c:m_cb b e D y E=some out) (A:imm I1 f.v D∈mu) (h:imm I1 d.v y∈mu) (c9:imm iu i.v E∈mu) (a:St w0 mu rs w):
  Calls prog 45 #[.agg #[iV b,iV e,f.v,d.v,i.v]] w (rv w0 mu rs (iV out)):=by
 refine en func45 rfl ntmps45 fun Q r=>?_
 refine z 2 2 ?_;intro j w a
 refine jW 4 [1] [(14,.bool ((decide (b < 0)) || (decide ((200:Int) < b))))] (St w0 mu (box j 27 [iV b,iV e,f.v,d.v,i.v]::rs)) rfl (fun S=>?_) ?_
 ·refine gB 10 rfl (fun F=>?_) fun F=>?_
  ·exact q 4 rfl (S _ _ a (Z0 (S0 Value.bool (orT F)) rfl))
  ·refine z 1 2 ?_
   exact S _ _ a (Z0 (S0 Value.bool (orF F)) rfl)
 intro g w a
 refine q 1 rfl ?_
 refine jW 4 [1] [(19,.bool (((decide (b < 0)) || (decide ((200:Int) < b))) || (decide (e < 0))))] (St w0 mu (box j 27 [iV b,iV e,f.v,d.v,i.v]::rs)) rfl (fun T=>?_) ?_
 ·refine gB 15 rfl (fun G=>?_) fun G=>?_
  ·exact q 4 rfl (T _ _ a (Z0 (S0 Value.bool (orT G)) rfl))
  ·refine z 1 2 ?_
   exact T _ _ a (Z0 (S0 Value.bool (orF G)) rfl)
 intro g w a
 refine q 1 rfl ?_
 refine jW 4 [1] [(24,.bool ((((decide (b < 0)) || (decide ((200:Int) < b))) || (decide (e < 0))) || (decide ((200:Int) < e))))] (St w0 mu (box j 27 [iV b,iV e,f.v,d.v,i.v]::rs)) rfl (fun U=>?_) ?_
 ·refine gB 20 rfl (fun H=>?_) fun H=>?_
  ·exact q 4 rfl (U _ _ a (Z0 (S0 Value.bool (orT H)) rfl))
  ·refine z 1 2 ?_
   exact U _ _ a (Z0 (S0 Value.bool (orF H)) rfl)
 intro g w a
 refine q 1 rfl ?_
 refine jW 5 [1] [(30,.bool (((((decide (b < 0)) || (decide ((200:Int) < b))) || (decide (e < 0))) || (decide ((200:Int) < e))) || (decide ((10000:Int) < (y.length:Int)))))] (St w0 mu (box j 27 [iV b,iV e,f.v,d.v,i.v]::rs)) rfl (fun V=>?_) ?_
 ·refine gB 25 rfl (fun I=>?_) fun I=>?_
  ·exact q 5 rfl (V _ _ a (Z0 (S0 Value.bool (orT I)) rfl))
  ·refine z 2 2 ?_
   exact V _ _ a (Z0 (S0 Value.bool (orF I)) rfl)
 intro g w a
 refine q 2 rfl ?_
 refine cJ c (fun a6 c=>?_) fun a6 c=>?_
 ·exact ni
 ·refine z 4 3 ?_
  refine jW 8 [1,3] [(47,.bool ((!(decide ((E.length:Int)=(y.length:Int)))) || (!(decide ((D.length:Int)=(wa .i64 e 1))))))] (St w0 mu (box j 27 [iV b,iV e,f.v,d.v,i.v]::rs)) rfl (fun W=>?_) ?_
  ·refine gB 39 rfl (fun J=>?_) fun J=>?_
   ·exact q 8 rfl (W _ _ a (Z0 (S0 Value.bool (orT J)) rfl))
   ·refine z 3 3 ?_
    exact W _ _ a (Z0 (S0 Value.bool (orF J)) rfl)
  intro g w a
  refine bE c fun a7 n c=>q 1 rfl ?_
  refine jW 6 [1,3] [(54,.bool a7)] (St w0 mu (box j 27 [iV b,iV e,f.v,d.v,i.v]::rs)) rfl (fun X=>?_) ?_
  ·refine gJ 48 n rfl (fun a8 n=>?_) fun a8 n=>?_
   ·refine q 6 rfl ?_
    cases n
    exact X _ _ a rfl
   ·refine z 1 0 ?_
    refine bE n fun d0 d1 n=>?_
    refine z 2 2 ?_
    cases n
    exact X _ _ a rfl
  intro g w a
  refine bE c fun a9 o c=>q 1 rfl ?_
  refine jW 9 [1] [(64,.bool a9)] (St w0 mu (box j 27 [iV b,iV e,f.v,d.v,i.v]::rs)) rfl (fun Z=>?_) ?_
  ·refine gJ 55 o rfl (fun b0 o=>?_) fun b0 o=>?_
   ·refine q 9 rfl ?_
    cases o
    exact Z _ _ a rfl
   ·refine z 2 0 ?_
    refine bE o fun d2 d3 o=>?_
    refine z 2 3 ?_
    cases o
    exact Z _ _ a rfl
  intro g w a
  refine q 2 rfl ?_
  refine cJ c (fun b1 c=>?_) fun b1 c=>?_
  ·exact ni
  ·refine q 9 rfl (bE c fun b2 b3 c=>?_)
   refine lp b3 [1] (fun K=>[(4,iV K)]) (fun K=>St w0 mu (box j 27 [iV b,iV e,f.v,d.v,i.v]::rs)) (fun | .inl ()=>(.exit 0,[],St w0 mu (box j 27 [iV b,iV e,f.v,d.v,i.v]::rs)) | .inr ()=>(.ret,[(2,iV 1)],St w0 mu rs)) rfl a rfl ?_ ?_
   ·clear a
    intro g w a
    rcases b2 with ⟨⟩ | ⟨⟩
    ·refine q 9 rfl (bE c fun b4 b5 c=>?_)
     refine lp b5 [1] (fun L=>[(5,iV L)]) (fun L=>St w0 mu (box j 27 [iV b,iV e,f.v,d.v,i.v]::rs)) (fun | .inl ()=>(.exit 2,[],St w0 mu (box j 27 [iV b,iV e,f.v,d.v,i.v]::rs)) | .inr ()=>(.ret,[(2,iV 1)],St w0 mu rs)) rfl a rfl ?_ ?_
     ·clear a
      intro g w a
      rcases b4 with ⟨⟩ | ⟨⟩
      ·refine z 2 3 ?_;intro d4 d5 c w a
       refine cJn c (fun b6 c=>?_) fun b6 c=>?_
       ·refine q 8 rfl ?_
        cases c
        exact za r results45 ⟨rfl,(a.k14)⟩
       ·exact ni
      ·refine q 2 rfl ?_
       cases c
       exact za r results45 ⟨rfl,a⟩
     rintro L g w d6 a c
     refine z 1 3 ?_
     refine cI c (fun b7 c=>?_) fun b7 c=>?_
     ·refine z 3 4 ?_;intro d7 d8 c
      refine bE c fun b8 c0 c=>?_
      refine lp c0 [1,5] (fun N=>[(6,iV N)]) (fun N=>St w0 mu (box j 27 [iV b,iV e,f.v,d.v,i.v]::rs)) (fun | .inl ()=>(.exit 4,[],St w0 mu (box j 27 [iV b,iV e,f.v,d.v,i.v]::rs)) | .inr ()=>(.ret,[(2,iV 1)],St w0 mu rs)) rfl a rfl ?_ ?_
      ·clear a
       intro g w a
       rcases b8 with ⟨⟩ | ⟨⟩
       ·refine q 8 rfl ?_
        cases c
        exact lo a
       ·refine q 3 rfl ?_
        cases c
        exact xo a
      rintro N g w d9 a c
      refine z 3 3 ?_;intro e1 e2 c
      refine cI c (fun c1 c=>?_) fun c1 c=>?_
      ·refine q 5 rfl (bE c fun e3 m c=>bE c fun t p c=>bE c fun u k c=>?_)
       refine jN Unit [1,5,6] (fun _=>[(142,.bool u)]) (fun _=>St w0 mu (box j 27 [iV b,iV e,f.v,d.v,i.v]::rs)) rfl ?_ ?_
       ·rcases Z4 p with ⟨x,p⟩ | ⟨x,p⟩
        ·have a0:=U2 p
         have a1:t=true:=a0.symm
         rw [I0 a1] at k
         have c2:=U2 k
         refine dS [] 0 V0 ?_
         replace a:=a.drew
         refine Dw 549755813887 0 (qR 1 rfl (rQ rfl (lb_ d.v P0 e0 a R0) (qR 1 rfl (rQ rfl (yIa N0 e0 e0 a (rdI h) m) (rQ rfl (yI O_3 e0 a (rdI h) m) (qR 2 rfl (rK 110 rfl (dT x) (qR 8 rfl (rQ rfl (pt_ (.bool t) e0 rfl (eqv a0 rfl)) (qR 1 rfl (rK 120 rfl a1 (qR 21 rfl (rQ rfl (pt_ (.bool u) e0 rfl (eqv c2 rfl)) ?_)))))))))))))
         exact Rn QSn (jr () a)
        ·refine bE p fun e4 s p=>?_
         have O:=U2 p
         rcases Z4 k with ⟨B,k⟩ | ⟨B,k⟩
         ·have c3:=U2 k
          refine dS [] 0 V0 ?_
          replace a:=a.drew
          refine Dw 549755813887 0 (qR 1 rfl (rQ rfl (lb_ d.v P0 e0 a R0) (qR 1 rfl (rQ rfl (yIa N0 e0 e0 a (rdI h) m) (rQ rfl (yI O_3 e0 a (rdI h) m) (qR 2 rfl (rK 110 rfl (dF x) (qR 1 rfl (rQ rfl (lb_ d.v P0 e0 a R0) (qR 1 rfl (rQ rfl (yIa N0 e0 e0 a (rdI h) s) (rQ rfl (yI O_3 e0 a (rdI h) s) (qR 1 rfl ?_)))))))))))))
          exact rQ rfl (lb_ (iV b) O_3 e0 a R0) (qR 1 rfl (rQ rfl (pf_ (.bool t) e0 rfl (eqv O e0)) (qR 1 rfl (rK 120 rfl B (qR 21 rfl (rQ rfl (pt_ (.bool u) e0 rfl (eqv c3 rfl)) (Rn QSn (jr () a))))))))
         ·refine bE k fun e5 C k=>bE k fun a2 l k=>?_
          have a3:=U2 k
          rcases Z4 l with ⟨R,l⟩ | ⟨R,l⟩
          ·refine bE l fun e6 a4 l=>bE l fun e7 a5 l=>?_
           have c4:=U2 l
           refine dS [] 0 V0 ?_
           replace a:=a.drew
           refine Dw 549755813887 0 (qR 1 rfl (rQ rfl (lb_ d.v P0 e0 a R0) (qR 1 rfl (rQ rfl (yIa N0 e0 e0 a (rdI h) m) (rQ rfl (yI O_3 e0 a (rdI h) m) (qR 2 rfl (rK 110 rfl (dF x) (qR 1 rfl (rQ rfl (lb_ d.v P0 e0 a R0) (qR 1 rfl (rQ rfl (yIa N0 e0 e0 a (rdI h) s) (rQ rfl (yI O_3 e0 a (rdI h) s) (qR 1 rfl ?_)))))))))))))
           refine rQ rfl (lb_ (iV b) O_3 e0 a R0) (qR 1 rfl (rQ rfl (pf_ (.bool t) e0 rfl (eqv O e0)) (qR 1 rfl (rK 120 rfl (k8 B) (qR 2 rfl (rQ rfl (lb_ f.v P0 e0 a R0) (qR 1 rfl (rQ rfl (yIa N0 e0 e0 a (rdI A) C) (rQ rfl (yI O_3 e0 a (rdI A) C) (qR 2 rfl (rK 128 rfl (dT R) (qR 1 rfl (rQ rfl (lb_ d.v P0 e0 a R0) ?_)))))))))))))
           exact qR 1 rfl (rQ rfl (yIa N0 e0 e0 a (rdI h) a4) (rQ rfl (yI O_3 e0 a (rdI h) a4) (qR 1 rfl (rQ rfl (lb_ d.v P0 e0 a R0) (qR 2 rfl (rQ rfl (yIa N0 e0 e0 a (rdI h) a5) (rQ rfl (yI O_3 e0 a (rdI h) a5) (qR 1 rfl (rQ rfl (pt_ (.bool a2) e0 rfl (eqv c4 e0)) (rQ rfl (pf_ (.bool u) e0 rfl (eqv a3 e0)) (Rn QSn (jr () a))))))))))))
          ·have c5:=U2 l
           refine dS [] 0 V0 ?_
           replace a:=a.drew
           refine Dw 549755813887 0 (qR 1 rfl (rQ rfl (lb_ d.v P0 e0 a R0) (qR 1 rfl (rQ rfl (yIa N0 e0 e0 a (rdI h) m) (rQ rfl (yI O_3 e0 a (rdI h) m) (qR 2 rfl (rK 110 rfl (dF x) (qR 1 rfl (rQ rfl (lb_ d.v P0 e0 a R0) (qR 1 rfl (rQ rfl (yIa N0 e0 e0 a (rdI h) s) (rQ rfl (yI O_3 e0 a (rdI h) s) (qR 1 rfl ?_)))))))))))))
           refine rQ rfl (lb_ (iV b) O_3 e0 a R0) (qR 1 rfl (rQ rfl (pf_ (.bool t) e0 rfl (eqv O e0)) (qR 1 rfl (rK 120 rfl (k8 B) (qR 2 rfl (rQ rfl (lb_ f.v P0 e0 a R0) (qR 1 rfl (rQ rfl (yIa N0 e0 e0 a (rdI A) C) (rQ rfl (yI O_3 e0 a (rdI A) C) (qR 2 rfl (rK 128 rfl (dF R) (qR 12 rfl (rQ rfl (pf_ (.bool a2) e0 rfl (eqv c5 rfl)) ?_)))))))))))))
           exact rQ rfl (pf_ (.bool u) e0 rfl (eqv a3 e0)) (Rn QSn (jr () a))
       rintro _ g w a
       refine q 1 rfl ?_
       refine cJ c (fun c6 c=>?_) fun c6 c=>?_
       ·refine q 8 rfl ?_
        cases c
        exact xo (a.k14)
       ·refine q 8 rfl ?_
        cases c
        exact lo a
      ·refine q 2 rfl ?_
       cases c
       exact xo a
     ·refine q 2 rfl ?_
      cases c
      exact xo a
    ·refine q 2 rfl ?_
     cases c
     exact za r results45 ⟨rfl,a⟩
   rintro K g w e8 a c
   refine z 1 3 ?_
   refine cI c (fun c7 c=>?_) fun c7 c=>?_
   ·refine q 5 rfl (bE c fun e9 f0 c=>bE c fun f1 f2 c=>dS [] 0 V0 ?_)
    replace a:=a.drew
    refine z 7 1 ?_
    refine cI c (fun c8 c=>?_) fun c8 c=>?_
    ·refine q 8 rfl ?_
     cases c
     exact xo (a.k14)
    ·refine q 8 rfl ?_
     cases c
     exact lo a
   ·refine q 2 rfl ?_
    cases c
    exact xo a
instance:CL prog 45 (type_of% @bn):=⟨@bn⟩
theorem Zm {d b:Int} {n o p:LI} {r e:Int} {f h i:Hdr} {out:Int} (c:m_cd d b n o p r e=some out) (B:imm I1 f.v n∈mu) (C:imm I1 h.v o∈mu) (D:imm iu i.v p∈mu) (a:St w0 mu rs w):
  Calls prog 21 #[.agg #[iV d,iV b,f.v,h.v,i.v],iV r,iV e] w (rv w0 mu rs (.int .u64 out)):=by
 refine en func21 rfl ntmps21 fun Q E=>?_
 refine z 3 2 ?_;intro j w a s F c w a
 refine jW 3 [1,2,3] [(14,.bool ((!(decide (s=0))) || (decide (e < 0))))] (St w0 mu (box j 27 [iV d,iV b,f.v,h.v,i.v]::rs)) rfl (fun t=>?_) ?_
 ·refine gB 11 rfl (fun k=>?_) fun k=>?_
  ·exact q 3 rfl (t _ _ a (Z0 (S0 Value.bool (orT k)) rfl))
  ·exact q 3 rfl (t _ _ a (Z0 (S0 Value.bool (orF k)) rfl))
 intro g w a
 refine q 1 rfl ?_
 refine jW 5 [1,2,3] [(20,.bool (((!(decide (s=0))) || (decide (e < 0))) || (decide (b≤e))))] (St w0 mu (box j 27 [iV d,iV b,f.v,h.v,i.v]::rs)) rfl (fun u=>?_) ?_
 ·refine gB 15 rfl (fun l=>?_) fun l=>?_
  ·exact q 5 rfl (u _ _ a (Z0 (S0 Value.bool (orT l)) rfl))
  ·refine z 1 2 ?_
   exact u _ _ a (Z0 (S0 Value.bool (orF l)) rfl)
 intro g w a
 refine v 0 ?_
 refine ⟨vt,fun _ _ _ _ c=>?_⟩
 refine bE c fun y A c=>?_
 refine lp A [1,2,3] (fun m=>[(7,iV m)]) (fun m=>St w0 mu (box j 27 [iV d,iV b,f.v,h.v,i.v]::rs)) (fun | .inl ()=>(.exit 0,[],St w0 mu rs) | .inr x=>(.ret,[(6,.int .u64 x)],St w0 mu rs)) rfl a rfl ?_ ?_
 ·clear a
  intro g w a
  rcases y with ⟨⟩ | x
  ·exact vx
  ·exact vx
 rintro m g w G a c
 exact vx
instance:CL prog 21 (type_of% @Zm):=⟨@Zm⟩
theorem Ym {b:Int} {out:Bool} (c:m_ce b=some out) (a:St w0 mu rs w):
  Calls prog 54 #[.int .u64 b] w (rv w0 mu rs (.bool out)):=by
 exact en func54 rfl ntmps54 fun Q d=>vx
instance:CL prog 54 (type_of% @Ym):=⟨@Ym⟩
end Go.Proofs.YtoahkigijbeegaaGreatDoor
