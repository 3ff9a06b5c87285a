/- Walks: each function computes its model, printed. -/
import Derived.Test.YthekfonboblioabGreatDoorW0
namespace Go.Proofs.YthekfonboblioabGreatDoor
open Go Sx M Go.Proofs.Tryz
set_option maxRecDepth 100000
set_option maxHeartbeats 40000000
set_option linter.unusedVariables false
attribute [local irreducible] wpList Code.wp Calls DR QR QS LA LS St row box fam imm rowS loop
variable {w0:World} {ax:List Fact} {rs:List Res} {w:World}
theorem w_o {e f:LI} {h i:Hdr} {out:Int} (c:m_2 e f=some out) (s:imm xw h.v e∈ax) (t:imm xw i.v f∈ax) (a:St w0 ax rs w):
  Calls prog 177 #[h.v,i.v] w (rv w0 ax rs (iV out)):=by
 refine en func177 rfl ntmps177 fun Q b=>?_
 refine z 2 3 ?_
 refine cIn c (fun k c=>?_) fun k c=>?_
 ·refine z 1 5 ?_
  refine bE c fun l m c=>?_
  refine lp m [0,1] (fun d=>[(5,iV d)]) (fun d=>St w0 ax rs) (fun | .inl ()=>(.exit 0,[],St w0 ax rs) | .inr j=>(.ret,[(4,iV j)],St w0 ax rs)) rfl a rfl ?_ ?_
  ·clear a
   intro g w a
   rcases l with ⟨⟩ | j
   ·refine q 8 rfl ?_
    cases c
    exact za b results177 ⟨rfl,a⟩
   ·refine q 2 rfl ?_
    cases c
    exact za b results177 ⟨rfl,a⟩
  rintro d g w u a c
  refine q 7 rfl (cI c (fun n c=>?_) fun n c=>?_)
  ·refine q 5 rfl (bE c fun x y c=>bE c fun A B c=>dS [] 0 A1 ?_)
   replace a:=a.drew
   refine z 5 1 ?_
   refine cIn c (fun o c=>?_) fun o c=>?_
   ·refine q 8 rfl ?_
    cases c
    exact lo a
   ·refine q 2 rfl (bE c fun C D c=>bE c fun E F c=>dS [] 0 A1 ?_)
    replace a:=a.drew
    refine z 5 1 ?_
    refine cI c (fun p c=>?_) fun p c=>?_
    ·refine q 9 rfl ?_
     cases c
     exact xo a
    ·refine q 10 rfl ?_
     cases c
     exact xo a
  ·refine q 2 rfl ?_
   cases c
   exact xo a
 ·refine z 2 3 ?_
  refine cI c (fun r c=>?_) fun r c=>?_
  ·refine q 8 rfl ?_
   cases c
   exact za b results177 ⟨rfl,a⟩
  ·refine q 9 rfl ?_
   cases c
   exact za b results177 ⟨rfl,a⟩
instance:CL prog 177 (type_of% @w_o):=⟨@w_o⟩
theorem w_p {i j:LI} {k l:Hdr} {out:LI} (c:m_5 i j=some out) (o:imm xw k.v i∈ax) (p:imm xw l.v j∈ax) (a:St w0 ax rs w):
  Calls prog 178 #[k.v,l.v] w (ro w0 ax rs 126 xw out):=by
 refine en func178 rfl ntmps178 fun Q r=>bE c fun m n c=>q 22 rfl ?_
 replace a:=a.rowNh 126 xw
 refine lpN Hdr Hdr n [0,1] (fun (d,e,f) b=>[(5,b.v),(6,.int .u64 e),(7,iV f)]) (fun (d,e,f) b=>St w0 ax (row 126 xw b.v d::rs)) (fun | m,h=>(.exit 0,[(5,h.v)],St w0 ax (row 126 xw h.v m::rs))) rfl _ a rfl ?_ ?_
 ·clear a
  rintro h g w a
  exact vx
 rintro ⟨d,e,f⟩ b g w s a c
 exact vx
instance:CL prog 178 (type_of% @w_p):=⟨@w_p⟩
theorem w_q {b:Bool} {d:LI} {e:Bool} {f:LI} {g h:Hdr} {out:Bool×LI} (c:m_6 b d e f=some out) (i:imm xw g.v d∈ax) (j:imm xw h.v f∈ax) (a:St w0 ax rs w):
  Calls prog 140 #[.agg #[.bool b,g.v],.agg #[.bool e,h.v]] w (rc w0 ax rs 126 out):=by
 refine en func140 rfl ntmps140 fun Q k=>?_
 refine z 3 3 ?_;intro l w a m w a n w a
 refine bE c fun o p c=>bE c fun q r c=>dS [2,5,6,7] 4 A1 ?_
 replace a:=a.drew
 refine z 9 0 ?_;intro s w a t w a
 exact y (Pc I0 e0 e0) vx
instance:CL prog 140 (type_of% @w_q):=⟨@w_q⟩
theorem w_r {b:Bool} {d:LI} {e:Bool} {f:LI} {g h:Hdr} {out:Bool×LI} (c:m_7 b d e f=some out) (i:imm xw g.v d∈ax) (j:imm xw h.v f∈ax) (a:St w0 ax rs w):
  Calls prog 121 #[.agg #[.bool b,g.v],.agg #[.bool e,h.v]] w (rc w0 ax rs 126 out):=by
 exact en func121 rfl ntmps121 fun Q k=>vx
instance:CL prog 121 (type_of% @w_r):=⟨@w_r⟩
theorem w_s {f:Bool} {m:LI} {n:Int} {h:Hdr} {out:Bool×LI} (c:m_9 f m n=some out) (B:imm xw h.v m∈ax) (a:St w0 ax rs w):
  Calls prog 64 #[.agg #[.bool f,h.v],iV n] w (rc w0 ax rs 126 out):=by
 refine en func64 rfl ntmps64 fun Q o=>q 2 rfl (yb (jd (vals:=[.bool f,h.v]) a e0 rfl) fun N w a=>yb (rAl a J4) fun p w a=>q 4 rfl (y (W1 [.bool f,h.v] P0 e0 a R1) (bE c fun b C c=>cO (w_g C B a) fun r w a=>?_)))
 replace a:=a.k16
 refine sB rfl a P0 fun w a=>q 9 rfl (cI c (fun D c=>?_) fun D c=>?_)
 ·refine q 1 rfl (bE c fun O E c=>bE c fun s F c=>dS [5,6,7] 3 A1 ?_)
  replace a:=a.drew
  refine D1 31 0 5 rfl (qR 1 rfl (rQ rfl (lb_ (.bool b.1) O_4 e0 a R0) (qR 1 rfl (rQ rfl (lb_ r.v Al e0 a R0) (qR 1 rfl (Rn QSn ?_))))))
  replace a:=(a.k10).fz
  refine kO (w_k E F0 a) fun R w a=>dU (D1 0 3 6 rfl (Rn (qS rfl (sY rfl (lb_ (.bool b.1) O_4 e0 a R1) QSn)) ?_))
  replace a:=a.fz
  refine kO (w_e F F0 a) fun t w a=>dU (D0 0 0 7 rfl (Rn QSn ?_))
  replace a:=a.k16
  refine LT wn (I3 (dx:=[.bool s.1,t.v]) (us:=[.bool s.1,t.v]) a P0 e0 e0 rfl rfl (J3 rfl) rfl) fun w a=>Dw 0 0 (Rn QSn (qx 3 rfl ?_))
  cases c
  exact o _ _ _ (M3 results64 (C4 rfl rfl a R0 P0 rfl) ⟨_,rfl,((a.k13).fc)⟩)
 ·refine q 5 rfl (y (lb_ r.v Al e0 a R0) (bE c fun G H c=>q 2 rfl ?_))
  replace a:=(a.k10).fz
  refine cO (w_l H F0 a) fun S w a=>q 10 rfl (y (lb_ (.bool b.1) O_4 e0 a R1) (bE c fun i I c=>q 1 rfl ?_))
  replace a:=a.fz
  refine cO (w_e I F0 a) fun j w a=>yb (rAl a J4) fun u w a=>sB rfl a P0 fun w a=>q 6 rfl (y (lb_ (.bool b.1) O_4 e0 a R2) (q 1 rfl ?_))
  refine jW 2 [4,7] [(35,.bool (b.1 && G.2))] (St w0 ax (box p 62 [.bool false,hnil.v]::row 126 xw j.v i.2::box u 62 [.bool i.1,j.v]::rs)) rfl (fun x=>?_) ?_
  ·refine gB 33 rfl (fun l=>?_) fun l=>?_
   ·exact q 2 rfl (x _ _ ((a.k17).fc) (O1 (C1 Value.bool (B6 l)) rfl))
   ·exact q 2 rfl (x _ _ ((a.k17).fc) (O1 (C1 Value.bool (C6 l)) rfl))
  intro g w a
  refine q 2 rfl ?_
  refine jC (Bool×LI×Hdr) [4,7] (fun (d,k,e)=>[]) (fun (d,k,e) w=>St w0 ax (box p 62 [.bool false,hnil.v]::row 126 xw e.v k::box u 62 [.bool d,e.v]::rs) w∧m_8 d k=some out) rfl ?_ ?_
  ·rintro ⟨d,k,e⟩ g w ⟨a,c⟩
   refine q 3 rfl (y (W1 [.bool d,e.v] P0 e0 a R2) (sB rfl a P0 fun w a=>q 3 rfl ?_))
   cases c
   exact o _ _ _ (M3 results64 (C4 rfl rfl a R0 P0 rfl) ⟨_,rfl,(a.k13)⟩)
  refine cJ c (fun J c=>?_) fun J c=>?_
  ·refine bE c fun T K c=>bE c fun z L c=>dS [1,2,3] 3 A1 ?_
   replace a:=a.drew
   refine D1 1 0 1 rfl (rQ rfl (W1 [.bool i.1,j.v] P0 e0 a R2) (Rn QSn (kO (w_f K a) fun U w a=>dU (D1 0 1 2 rfl (Rn (sY rfl (W1 [.bool i.1,j.v] P0 e0 a R3) QSn) ?_)))))
   replace a:=((a.k16).fz).fz
   refine kO (w_r L F1 F0 a) fun A w a=>dU (D0 0 0 3 rfl (Rn QSn ?_))
   replace a:=a.k16
   exact LT wn (I3 (dx:=[.bool z.1,A.v]) (us:=[.bool z.1,A.v]) a P0 e0 e0 rfl rfl (J3 rfl) rfl) fun w a=>Dw 0 0 (Rn QSn (qx 0 rfl (jx (_,_,_) ⟨((a.k18).fc),c⟩)))
  ·exact q 1 rfl (jx (_,_,_) ⟨a,c⟩)
instance:CL prog 64 (type_of% @w_s):=⟨@w_s⟩
theorem w_t {i:Bool} {j:LI} {k:Int} {l:Hdr} {out:Bool×LI} (c:m_bb i j k=some out) (r:imm xw l.v j∈ax) (a:St w0 ax rs w):
  Calls prog 167 #[.agg #[.bool i,l.v],iV k] w (rc w0 ax rs 126 out):=by
 refine en func167 rfl ntmps167 fun Q t=>?_
 refine z 2 4 ?_;intro m w a n w a
 obtain ⟨⟨o,p,q⟩,s,c⟩:=bs c
 refine lpN Hdr Hdr s [2,4] (fun (d,e,f) b=>[(1,iV d)]) (fun (d,e,f) b=>St w0 (imm xw b.v f::ax) (box m 62 [.bool e,b.v]::box n 62 [.bool false,hnil.v]::rs)) (fun | (o,p,q),h=>(.exit 0,[(1,iV o)],St w0 (imm xw h.v q::ax) (box m 62 [.bool p,h.v]::box n 62 [.bool false,hnil.v]::rs))) rfl _ ((a.k10).facts (S0 r E1)) rfl ?_ ?_
 ·clear a
  rintro h g w a
  exact vx
 rintro ⟨d,e,f⟩ b g w u a c
 refine v 0 ?_
 refine ⟨fun _ _ _ _ c _ _ _ _ a=>?_,vt⟩
 replace a:=(a.k10).fz
 exact vx
instance:CL prog 167 (type_of% @w_t):=⟨@w_t⟩
theorem w_u {h out:Int} (c:m_be h=some out) (a:St w0 ax rs w):
  Calls prog 190 #[.int .u32 h] w (rv w0 ax rs (iV out)):=by
 refine en func190 rfl ntmps190 fun Q j=>q 12 rfl ?_
 refine jC (Int×Int) [] (fun (b,d)=>[(0,.int .u32 b),(2,iV d)]) (fun (b,d) w=>St w0 ax rs w∧m_bd b d=some out) rfl ?_ ?_
 ·rintro ⟨b,d⟩ g w ⟨a,c⟩
  refine q 8 rfl ?_
  refine jC (Int×Int) [] (fun (e,f)=>[(0,.int .u32 e),(2,iV f)]) (fun (e,f) w=>St w0 ax rs w∧m_bc e f=some out) rfl ?_ ?_
  ·rintro ⟨e,f⟩ g w ⟨a,c⟩
   exact bE c fun k i c=>q 6 rfl (y (yixs I0 rfl e0 I0 i) vx)
  exact vx
 exact vx
instance:CL prog 190 (type_of% @w_u):=⟨@w_u⟩
theorem w_v {b:Bool} {d:LI} {e:Hdr} {out:Int} (c:m_bf b d=some out) (f:imm xw e.v d∈ax) (a:St w0 ax rs w):
  Calls prog 168 #[.agg #[.bool b,e.v]] w (rv w0 ax rs (iV out)):=by
 exact en func168 rfl ntmps168 fun Q g=>vx
instance:CL prog 168 (type_of% @w_v):=⟨@w_v⟩
theorem w_w {d:Bool} {h:LI} {i:Int} {e:Hdr} {out:Bool×Bool×LI×Int} (c:m_bg d h i=some out) (s:imm xw e.v h∈ax) (t:globF∈ax) (a:St w0 ax rs w):
  Calls prog 115 #[.agg #[.bool d,e.v],iV i] w (rd w0 ax rs out):=by
 refine en func115 rfl ntmps115 fun Q f=>?_
 refine v 31 ?_
 refine fun m _ _ n _ _ _ _ _ _ _ _ o _ _ w a=>⟨fun _ c _ a=>?_,fun _ _=>⟨fun _ _ _ _ c _ _ _ a=>?_,fun _ _ u _ _ _ _ _ _ _ _ _ _ _ _ j _ c k _ _ w a=>?_⟩⟩
 ·cases c
  replace a:=a.immNh xw
  exact f _ _ _ (M3 results115 (C4 rfl rfl a R0 M9 rfl) ⟨_,rfl,(a.k1a)⟩)
 ·cases c
  replace a:=a.immNh xw
  exact f _ _ _ (M3 results115 (C4 rfl rfl a R0 M9 rfl) ⟨_,rfl,(a.k1a)⟩)
 ·refine bE c fun p b c=>?_
  refine jW 6 [2,4,5,7] [(36,.bool p)] (St w0 (imm xw k.v j.2::ax) (box m 62 [.bool d,e.v]::box n 80 [.bool false,.bool false,hnil.v,iV 0]::box o 62 [.bool j.1,k.v]::rs)) rfl (fun l=>?_) ?_
  ·refine gI 30 b rfl (fun r b=>?_) fun r b=>?_
   ·refine q 6 rfl ?_
    cases b
    replace a:=(a.k10).fz
    exact l _ _ ((a.k18).facts (S0 F0 (N0 (N0 (N0 E1))))) rfl
   ·refine z 1 0 ?_
    refine bE b fun x y b=>?_
    refine z 1 3 ?_;intro w a
    cases b
    exact l _ _ ((a.k18).facts (S0 F0 (N0 (N0 (N0 E1))))) rfl
  intro g w a
  refine v 0 ?_
  refine ⟨fun _ _ _ _ c _ _ _ a=>?_,vt⟩
  cases c
  replace a:=a.immNh xw
  exact f _ _ _ (M3 results115 (C4 rfl rfl a R0 M9 rfl) ⟨_,rfl,((a.k1b).facts (S0 F0 (N0 (N0 E1))))⟩)
instance:CL prog 115 (type_of% @w_w):=⟨@w_w⟩
theorem w_x {b:Int} {out:Bool×Bool×LI×Int} (c:m_bh b=some out) (d:globF∈ax) (a:St w0 ax rs w):
  Calls prog 87 #[iV b] w (rd w0 ax rs out):=by
 exact en func87 rfl ntmps87 fun Q e=>vx
instance:CL prog 87 (type_of% @w_x):=⟨@w_x⟩
theorem w_y {b d:Bool} {e:LI} {f:Int} {g:Hdr} {out:Bool×Bool×LI×Int} (c:m_bi b d e f=some out) (i:imm xw g.v e∈ax) (j:globF∈ax) (a:St w0 ax rs w):
  Calls prog 117 #[.agg #[.bool b,.bool d,g.v,iV f]] w (rd w0 ax rs out):=by
 refine en func117 rfl ntmps117 fun Q h=>?_
 refine v 0 ?_
 refine fun _ _ _ _ _ a=>⟨fun _ _ _ _ c _ _ _ a=>?_,vt⟩
 cases c
 replace a:=a.immNh xw
 exact h _ _ _ (M3 results117 (C4 rfl rfl a R0 M9 rfl) ⟨_,rfl,(a.k19)⟩)
instance:CL prog 117 (type_of% @w_y):=⟨@w_y⟩
theorem w_z {b:Bool} {d:LI} {e:Hdr} {out:Int} (c:m_bj b d=some out) (f:imm xw e.v d∈ax) (a:St w0 ax rs w):
  Calls prog 42 #[.agg #[.bool b,e.v]] w (rv w0 ax rs (iV out)):=by
 exact en func42 rfl ntmps42 fun Q g=>vx
instance:CL prog 42 (type_of% @w_z):=⟨@w_z⟩
theorem w_0 {b:Bool} {d out:Int} (c:m_bk b d=some out) (a:St w0 ax rs w):
  Calls prog 181 #[.bool b,.int .u64 d] w (rv w0 ax rs (.int .u64 out)):=by
 exact en func181 rfl ntmps181 fun Q e=>vx
instance:CL prog 181 (type_of% @w_0):=⟨@w_0⟩
theorem w_1 {d:Bool} {b out:Int} (c:m_bl d b=some out) (a:St w0 ax rs w):
  Calls prog 179 #[.bool d,iV b] w (rv w0 ax rs (.int .u64 out)):=by
 refine en func179 rfl ntmps179 fun Q n=>q 11 rfl ?_
 refine jW 7 [0,1] [(14,.bool ((decide (b=3)) || ((decide (b=1)) && (!d))))] (St w0 ax rs) rfl (fun j=>?_) ?_
 ·refine gB 7 rfl (fun e=>?_) fun e=>?_
  ·exact q 7 rfl (j _ _ a (O1 (C1 Value.bool (orT e)) rfl))
  ·refine q 3 rfl ?_
   refine jW 3 [0,1,7] [(13,.bool ((decide (b=1)) && (!d)))] (St w0 ax rs) rfl (fun k=>?_) ?_
   ·refine gB 10 rfl (fun f=>?_) fun f=>?_
    ·exact q 3 rfl (k _ _ a (O1 (C1 Value.bool (B6 f)) rfl))
    ·exact q 3 rfl (k _ _ a (O1 (C1 Value.bool (C6 f)) rfl))
   intro g w a
   exact q 1 rfl (j _ _ a (O1 (C1 Value.bool (orF e)) rfl))
 intro g w a
 refine q 1 rfl ?_
 refine jW 6 [0] [(21,.bool (((decide (b=3)) || ((decide (b=1)) && (!d))) || ((decide (b=2)) && d)))] (St w0 ax rs) rfl (fun l=>?_) ?_
 ·refine gB 15 rfl (fun h=>?_) fun h=>?_
  ·exact q 6 rfl (l _ _ a (O1 (C1 Value.bool (orT h)) rfl))
  ·refine q 3 rfl ?_
   refine jW 2 [0,15] [(20,.bool ((decide (b=2)) && d))] (St w0 ax rs) rfl (fun m=>?_) ?_
   ·refine gB 18 rfl (fun i=>?_) fun i=>?_
    ·exact q 2 rfl (m _ _ a (O1 (C1 Value.bool (B6 i)) rfl))
    ·exact q 2 rfl (m _ _ a (O1 (C1 Value.bool (C6 i)) rfl))
   intro g w a
   exact q 1 rfl (l _ _ a (O1 (C1 Value.bool (orF h)) rfl))
 intro g w a
 exact vx
instance:CL prog 179 (type_of% @w_1):=⟨@w_1⟩
end Go.Proofs.YthekfonboblioabGreatDoor
