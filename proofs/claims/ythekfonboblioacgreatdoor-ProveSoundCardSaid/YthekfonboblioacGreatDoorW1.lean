/- Walks: each function computes its model, printed. -/
import Derived.Test.YthekfonboblioacGreatDoorW0
namespace Go.Proofs.YthekfonboblioacGreatDoor
open Go Sx M Go.Proofs.Tryz
set_option maxRecDepth 100000
set_option maxHeartbeats 40000000
set_option linter.unusedVariables false
attribute [local irreducible] wpList Code.wp Calls DR QR QS LA LS St row box fam imm rowS loop
variable {w0:World} {ros:List Fact} {rs:List Res} {w:World}
theorem w_o {e f:LI} {h i:Hdr} {out:Int} (c:m_2 e f=some out) (s:imm (rI .u32) h.v e∈ros) (t:imm (rI .u32) i.v f∈ros) (a:St w0 ros rs w):
  Calls prog 143 #[h.v,i.v] w (rv w0 ros rs (iV out)):=by
 refine en func143 rfl ntmps143 fun Q b=>?_
 refine z 2 3 ?_
 refine cIn c (fun k c=>?_) fun k c=>?_
 ·refine z 1 5 ?_
  refine bE c fun l m c=>?_
  refine lp m [0,1] (fun d=>[(5,iV d)]) (fun d=>St w0 ros rs) (fun | .inl ()=>(.exit 0,[],St w0 ros rs) | .inr j=>(.ret,[(4,iV j)],St w0 ros rs)) rfl a rfl ?_ ?_
  ·clear a
   intro g w a
   rcases l with ⟨⟩ | j
   ·refine q 8 rfl ?_
    cases c
    exact za b results143 ⟨rfl,a⟩
   ·refine q 2 rfl ?_
    cases c
    exact za b results143 ⟨rfl,a⟩
  rintro d g w u a c
  refine q 7 rfl (cI c (fun n c=>?_) fun n c=>?_)
  ·refine q 5 rfl (bE c fun x y c=>bE c fun A B c=>dS [] 0 C1 ?_)
   replace a:=a.drew
   refine z 5 1 ?_
   refine cIn c (fun o c=>?_) fun o c=>?_
   ·refine q 8 rfl ?_
    cases c
    exact lo a
   ·refine q 2 rfl (bE c fun C D c=>bE c fun E F c=>dS [] 0 C1 ?_)
    replace a:=a.drew
    refine z 5 1 ?_
    refine cI c (fun p c=>?_) fun p c=>?_
    ·refine q 9 rfl ?_
     cases c
     exact xo a
    ·refine q 10 rfl ?_
     cases c
     exact xo a
  ·refine q 2 rfl ?_
   cases c
   exact xo a
 ·refine z 2 3 ?_
  refine cI c (fun r c=>?_) fun r c=>?_
  ·refine q 8 rfl ?_
   cases c
   exact za b results143 ⟨rfl,a⟩
  ·refine q 9 rfl ?_
   cases c
   exact za b results143 ⟨rfl,a⟩
instance:CL prog 143 (type_of% @w_o):=⟨@w_o⟩
theorem w_p {i j:LI} {k l:Hdr} {out:LI} (c:m_5 i j=some out) (o:imm (rI .u32) k.v i∈ros) (p:imm (rI .u32) l.v j∈ros) (a:St w0 ros rs w):
  Calls prog 144 #[k.v,l.v] w (ro w0 ros rs 93 (rI .u32) out):=by
 refine en func144 rfl ntmps144 fun Q r=>bE c fun m n c=>q 22 rfl ?_
 replace a:=a.rowNh 93 (rI .u32)
 refine lpN Hdr Hdr n [0,1] (fun (d,e,f) b=>[(5,b.v),(6,.int .u64 e),(7,iV f)]) (fun (d,e,f) b=>St w0 ros (row 93 (rI .u32) b.v d::rs)) (fun | m,h=>(.exit 0,[(5,h.v)],St w0 ros (row 93 (rI .u32) h.v m::rs))) rfl _ a rfl ?_ ?_
 ·clear a
  rintro h g w a
  exact vx
 rintro ⟨d,e,f⟩ b g w s a c
 exact vx
instance:CL prog 144 (type_of% @w_p):=⟨@w_p⟩
theorem w_q {b:Bool} {d:LI} {e:Bool} {f:LI} {g h:Hdr} {out:Bool×LI} (c:m_6 b d e f=some out) (i:imm (rI .u32) g.v d∈ros) (j:imm (rI .u32) h.v f∈ros) (a:St w0 ros rs w):
  Calls prog 99 #[.agg #[.bool b,g.v],.agg #[.bool e,h.v]] w (rc w0 ros rs 93 out):=by
 refine en func99 rfl ntmps99 fun Q k=>?_
 refine z 3 3 ?_;intro l w a m w a n w a
 refine bE c fun o p c=>bE c fun q r c=>dS [2,5,6,7] 4 C1 ?_
 replace a:=a.drew
 refine z 9 0 ?_;intro s w a t w a
 exact y (We I0 e0 e0) vx
instance:CL prog 99 (type_of% @w_q):=⟨@w_q⟩
theorem w_r {b:Bool} {d:LI} {e:Bool} {f:LI} {g h:Hdr} {out:Bool×LI} (c:m_7 b d e f=some out) (i:imm (rI .u32) g.v d∈ros) (j:imm (rI .u32) h.v f∈ros) (a:St w0 ros rs w):
  Calls prog 56 #[.agg #[.bool b,g.v],.agg #[.bool e,h.v]] w (rc w0 ros rs 93 out):=by
 exact en func56 rfl ntmps56 fun Q k=>vx
instance:CL prog 56 (type_of% @w_r):=⟨@w_r⟩
theorem w_s {f:Bool} {m:LI} {n:Int} {h:Hdr} {out:Bool×LI} (c:m_9 f m n=some out) (B:imm (rI .u32) h.v m∈ros) (a:St w0 ros rs w):
  Calls prog 19 #[.agg #[.bool f,h.v],iV n] w (rc w0 ros rs 93 out):=by
 refine en func19 rfl ntmps19 fun Q o=>q 2 rfl (yb (Ui (vals:=[.bool f,h.v]) a e0 rfl) fun N w a=>yb (rAl a I4) fun p w a=>q 4 rfl (y (J2 [.bool f,h.v] P0 e0 a R1) (bE c fun b C c=>cO (w_g C B a) fun r w a=>?_)))
 replace a:=a.k16
 refine sB rfl a P0 fun w a=>q 9 rfl (cI c (fun D c=>?_) fun D c=>?_)
 ·refine q 1 rfl (bE c fun O E c=>bE c fun s F c=>dS [5,6,7] 3 C1 ?_)
  replace a:=a.drew
  refine D1 31 0 5 rfl (qR 1 rfl (rQ rfl (lb_ (.bool b.1) O_4 e0 a R0) (qR 1 rfl (rQ rfl (lb_ r.v yk e0 a R0) (qR 1 rfl (Rn QSn ?_))))))
  replace a:=(a.k10).fz
  refine kO (w_k E F0 a) fun R w a=>dU (D1 0 3 6 rfl (Rn (qS rfl (sY rfl (lb_ (.bool b.1) O_4 e0 a R1) QSn)) ?_))
  replace a:=a.fz
  refine kO (w_e F F0 a) fun t w a=>dU (D0 0 0 7 rfl (Rn QSn ?_))
  replace a:=a.k16
  refine LT wn (G3 (vals':=[.bool s.1,t.v]) (us:=[.bool s.1,t.v]) a P0 e0 e0 rfl rfl (H3 rfl) rfl) fun w a=>Dw 0 0 (Rn QSn (qx 3 rfl ?_))
  cases c
  exact o _ _ _ (I3 results19 (A4 rfl rfl a R0 P0 rfl) ⟨_,rfl,((a.k13).fc)⟩)
 ·refine q 5 rfl (y (lb_ r.v yk e0 a R0) (bE c fun G H c=>q 2 rfl ?_))
  replace a:=(a.k10).fz
  refine cO (w_l H F0 a) fun S w a=>q 10 rfl (y (lb_ (.bool b.1) O_4 e0 a R1) (bE c fun i I c=>q 1 rfl ?_))
  replace a:=a.fz
  refine cO (w_e I F0 a) fun j w a=>yb (rAl a I4) fun u w a=>sB rfl a P0 fun w a=>q 6 rfl (y (lb_ (.bool b.1) O_4 e0 a R2) (q 1 rfl ?_))
  refine jW 2 [4,7] [(35,.bool (b.1 && G.2))] (St w0 ros (box p 52 [.bool false,hnil.v]::row 93 (rI .u32) j.v i.2::box u 52 [.bool i.1,j.v]::rs)) rfl (fun x=>?_) ?_
  ·refine gB 33 rfl (fun l=>?_) fun l=>?_
   ·exact q 2 rfl (x _ _ ((a.k17).fc) (J1 (Z0 Value.bool (J5 l)) rfl))
   ·exact q 2 rfl (x _ _ ((a.k17).fc) (J1 (Z0 Value.bool (K5 l)) rfl))
  intro g w a
  refine q 2 rfl ?_
  refine jC (Bool×LI×Hdr) [4,7] (fun (d,k,e)=>[]) (fun (d,k,e) w=>St w0 ros (box p 52 [.bool false,hnil.v]::row 93 (rI .u32) e.v k::box u 52 [.bool d,e.v]::rs) w∧m_8 d k=some out) rfl ?_ ?_
  ·rintro ⟨d,k,e⟩ g w ⟨a,c⟩
   refine q 3 rfl (y (J2 [.bool d,e.v] P0 e0 a R2) (sB rfl a P0 fun w a=>q 3 rfl ?_))
   cases c
   exact o _ _ _ (I3 results19 (A4 rfl rfl a R0 P0 rfl) ⟨_,rfl,(a.k13)⟩)
  refine cJ c (fun J c=>?_) fun J c=>?_
  ·refine bE c fun T K c=>bE c fun z L c=>dS [1,2,3] 3 C1 ?_
   replace a:=a.drew
   refine D1 1 0 1 rfl (rQ rfl (J2 [.bool i.1,j.v] P0 e0 a R2) (Rn QSn (kO (w_f K a) fun U w a=>dU (D1 0 1 2 rfl (Rn (sY rfl (J2 [.bool i.1,j.v] P0 e0 a R3) QSn) ?_)))))
   replace a:=((a.k16).fz).fz
   refine kO (w_r L F1 F0 a) fun A w a=>dU (D0 0 0 3 rfl (Rn QSn ?_))
   replace a:=a.k16
   exact LT wn (G3 (vals':=[.bool z.1,A.v]) (us:=[.bool z.1,A.v]) a P0 e0 e0 rfl rfl (H3 rfl) rfl) fun w a=>Dw 0 0 (Rn QSn (qx 0 rfl (jx (_,_,_) ⟨((a.k18).fc),c⟩)))
  ·exact q 1 rfl (jx (_,_,_) ⟨a,c⟩)
instance:CL prog 19 (type_of% @w_s):=⟨@w_s⟩
theorem w_t {i:Bool} {j:LI} {k:Int} {l:Hdr} {out:Bool×LI} (c:m_bb i j k=some out) (r:imm (rI .u32) l.v j∈ros) (a:St w0 ros rs w):
  Calls prog 96 #[.agg #[.bool i,l.v],iV k] w (rc w0 ros rs 93 out):=by
 refine en func96 rfl ntmps96 fun Q t=>?_
 refine z 2 4 ?_;intro m w a n w a
 obtain ⟨⟨o,p,q⟩,s,c⟩:=bs c
 refine lpN Hdr Hdr s [2,4] (fun (d,e,f) b=>[(1,iV d)]) (fun (d,e,f) b=>St w0 (imm (rI .u32) b.v f::ros) (box m 52 [.bool e,b.v]::box n 52 [.bool false,hnil.v]::rs)) (fun | (o,p,q),h=>(.exit 0,[(1,iV o)],St w0 (imm (rI .u32) h.v q::ros) (box m 52 [.bool p,h.v]::box n 52 [.bool false,hnil.v]::rs))) rfl _ ((a.k10).facts (S0 r E1)) rfl ?_ ?_
 ·clear a
  rintro h g w a
  exact vx
 rintro ⟨d,e,f⟩ b g w u a c
 refine v 0 ?_
 refine ⟨fun _ _ _ _ c _ _ _ _ a=>?_,vt⟩
 replace a:=(a.k10).fz
 exact vx
instance:CL prog 96 (type_of% @w_t):=⟨@w_t⟩
theorem w_u {h out:Int} (c:m_be h=some out) (a:St w0 ros rs w):
  Calls prog 141 #[.int .u32 h] w (rv w0 ros rs (iV out)):=by
 refine en func141 rfl ntmps141 fun Q j=>q 12 rfl ?_
 refine jC (Int×Int) [] (fun (b,d)=>[(0,.int .u32 b),(2,iV d)]) (fun (b,d) w=>St w0 ros rs w∧m_bd b d=some out) rfl ?_ ?_
 ·rintro ⟨b,d⟩ g w ⟨a,c⟩
  refine q 8 rfl ?_
  refine jC (Int×Int) [] (fun (e,f)=>[(0,.int .u32 e),(2,iV f)]) (fun (e,f) w=>St w0 ros rs w∧m_bc e f=some out) rfl ?_ ?_
  ·rintro ⟨e,f⟩ g w ⟨a,c⟩
   exact bE c fun k i c=>q 6 rfl (y (yixs I0 rfl e0 I0 i) vx)
  exact vx
 exact vx
instance:CL prog 141 (type_of% @w_u):=⟨@w_u⟩
theorem w_v {b:Bool} {d:LI} {e:Hdr} {out:Int} (c:m_bf b d=some out) (f:imm (rI .u32) e.v d∈ros) (a:St w0 ros rs w):
  Calls prog 97 #[.agg #[.bool b,e.v]] w (rv w0 ros rs (iV out)):=by
 exact en func97 rfl ntmps97 fun Q g=>vx
instance:CL prog 97 (type_of% @w_v):=⟨@w_v⟩
theorem w_w {d:Bool} {h:LI} {i:Int} {e:Hdr} {out:Bool×Bool×LI×Int} (c:m_bg d h i=some out) (s:imm (rI .u32) e.v h∈ros) (t:globF∈ros) (a:St w0 ros rs w):
  Calls prog 47 #[.agg #[.bool d,e.v],iV i] w (rd w0 ros rs out):=by
 refine en func47 rfl ntmps47 fun Q f=>?_
 refine v 31 ?_
 refine fun m _ _ n _ _ _ _ _ _ _ _ o _ _ w a=>⟨fun _ c _ a=>?_,fun _ _=>⟨fun _ _ _ _ c _ _ _ a=>?_,fun _ _ u _ _ _ _ _ _ _ _ _ _ _ _ j _ c k _ _ w a=>?_⟩⟩
 ·cases c
  replace a:=a.immNh (rI .u32)
  exact f _ _ _ (I3 results47 (A4 rfl rfl a R0 W8 rfl) ⟨_,rfl,(a.k1a)⟩)
 ·cases c
  replace a:=a.immNh (rI .u32)
  exact f _ _ _ (I3 results47 (A4 rfl rfl a R0 W8 rfl) ⟨_,rfl,(a.k1a)⟩)
 ·refine bE c fun p b c=>?_
  refine jW 6 [2,4,5,7] [(36,.bool p)] (St w0 (imm (rI .u32) k.v j.2::ros) (box m 52 [.bool d,e.v]::box n 54 [.bool false,.bool false,hnil.v,iV 0]::box o 52 [.bool j.1,k.v]::rs)) rfl (fun l=>?_) ?_
  ·refine gI 30 b rfl (fun r b=>?_) fun r b=>?_
   ·refine q 6 rfl ?_
    cases b
    replace a:=(a.k10).fz
    exact l _ _ ((a.k18).facts (S0 F0 (N0 (N0 (N0 E1))))) rfl
   ·refine z 1 0 ?_
    refine bE b fun x y b=>?_
    refine z 1 3 ?_;intro w a
    cases b
    exact l _ _ ((a.k18).facts (S0 F0 (N0 (N0 (N0 E1))))) rfl
  intro g w a
  refine v 0 ?_
  refine ⟨fun _ _ _ _ c _ _ _ a=>?_,vt⟩
  cases c
  replace a:=a.immNh (rI .u32)
  exact f _ _ _ (I3 results47 (A4 rfl rfl a R0 W8 rfl) ⟨_,rfl,((a.k1b).facts (S0 F0 (N0 (N0 E1))))⟩)
instance:CL prog 47 (type_of% @w_w):=⟨@w_w⟩
theorem w_x {b:Int} {out:Bool×Bool×LI×Int} (c:m_bh b=some out) (d:globF∈ros) (a:St w0 ros rs w):
  Calls prog 85 #[iV b] w (rd w0 ros rs out):=by
 exact en func85 rfl ntmps85 fun Q e=>vx
instance:CL prog 85 (type_of% @w_x):=⟨@w_x⟩
theorem w_y {b d:Bool} {e:LI} {f:Int} {g:Hdr} {out:Bool×Bool×LI×Int} (c:m_bi b d e f=some out) (i:imm (rI .u32) g.v e∈ros) (j:globF∈ros) (a:St w0 ros rs w):
  Calls prog 49 #[.agg #[.bool b,.bool d,g.v,iV f]] w (rd w0 ros rs out):=by
 refine en func49 rfl ntmps49 fun Q h=>?_
 refine v 0 ?_
 refine fun _ _ _ _ _ a=>⟨fun _ _ _ _ c _ _ _ a=>?_,vt⟩
 cases c
 replace a:=a.immNh (rI .u32)
 exact h _ _ _ (I3 results49 (A4 rfl rfl a R0 W8 rfl) ⟨_,rfl,(a.k19)⟩)
instance:CL prog 49 (type_of% @w_y):=⟨@w_y⟩
theorem w_z {b:Bool} {d:LI} {e:Hdr} {out:Int} (c:m_bj b d=some out) (f:imm (rI .u32) e.v d∈ros) (a:St w0 ros rs w):
  Calls prog 50 #[.agg #[.bool b,e.v]] w (rv w0 ros rs (iV out)):=by
 exact en func50 rfl ntmps50 fun Q g=>vx
instance:CL prog 50 (type_of% @w_z):=⟨@w_z⟩
theorem w_0 {b:Bool} {d out:Int} (c:m_bk b d=some out) (a:St w0 ros rs w):
  Calls prog 139 #[.bool b,.int .u64 d] w (rv w0 ros rs (.int .u64 out)):=by
 exact en func139 rfl ntmps139 fun Q e=>vx
instance:CL prog 139 (type_of% @w_0):=⟨@w_0⟩
theorem w_1 {d:Bool} {b out:Int} (c:m_bl d b=some out) (a:St w0 ros rs w):
  Calls prog 137 #[.bool d,iV b] w (rv w0 ros rs (.int .u64 out)):=by
 refine en func137 rfl ntmps137 fun Q n=>q 11 rfl ?_
 refine jW 7 [0,1] [(14,.bool ((decide (b=3)) || ((decide (b=1)) && (!d))))] (St w0 ros rs) rfl (fun j=>?_) ?_
 ·refine gB 7 rfl (fun e=>?_) fun e=>?_
  ·exact q 7 rfl (j _ _ a (J1 (Z0 Value.bool (orT e)) rfl))
  ·refine q 3 rfl ?_
   refine jW 3 [0,1,7] [(13,.bool ((decide (b=1)) && (!d)))] (St w0 ros rs) rfl (fun k=>?_) ?_
   ·refine gB 10 rfl (fun f=>?_) fun f=>?_
    ·exact q 3 rfl (k _ _ a (J1 (Z0 Value.bool (J5 f)) rfl))
    ·exact q 3 rfl (k _ _ a (J1 (Z0 Value.bool (K5 f)) rfl))
   intro g w a
   exact q 1 rfl (j _ _ a (J1 (Z0 Value.bool (orF e)) rfl))
 intro g w a
 refine q 1 rfl ?_
 refine jW 6 [0] [(21,.bool (((decide (b=3)) || ((decide (b=1)) && (!d))) || ((decide (b=2)) && d)))] (St w0 ros rs) rfl (fun l=>?_) ?_
 ·refine gB 15 rfl (fun h=>?_) fun h=>?_
  ·exact q 6 rfl (l _ _ a (J1 (Z0 Value.bool (orT h)) rfl))
  ·refine q 3 rfl ?_
   refine jW 2 [0,15] [(20,.bool ((decide (b=2)) && d))] (St w0 ros rs) rfl (fun m=>?_) ?_
   ·refine gB 18 rfl (fun i=>?_) fun i=>?_
    ·exact q 2 rfl (m _ _ a (J1 (Z0 Value.bool (J5 i)) rfl))
    ·exact q 2 rfl (m _ _ a (J1 (Z0 Value.bool (K5 i)) rfl))
   intro g w a
   exact q 1 rfl (l _ _ a (J1 (Z0 Value.bool (orF h)) rfl))
 intro g w a
 exact vx
instance:CL prog 137 (type_of% @w_1):=⟨@w_1⟩
end Go.Proofs.YthekfonboblioacGreatDoor
