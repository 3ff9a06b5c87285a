/- Walks: each function computes its model, printed. -/
import Derived.Test.YthekfonboblioaaGreatDoorW10
namespace Sx
open Go
theorem St.k2f {w0:World} {ros:List Fact} {rs:List Res} {w:World} {a0 a1 a2 a3 a4 a5 a6 a7:Res} (h:St w0 ros (a0::a1::a2::a3::a4::a5::a6::a7::rs) w):St w0 ros (a7::a0::a1::a2::a3::a4::a5::a6::rs) w:=h.pk 8 [7,0,0,0,0,0,0,0] (by kernel_rfl)
end Sx
namespace Go.Proofs.YthekfonboblioaaGreatDoor
open Go Sx M Go.Proofs.Tryz
set_option maxRecDepth 100000
set_option maxHeartbeats 40000000
set_option linter.unusedVariables false
attribute [local irreducible] wpList Code.wp Calls DR QR QS LA LS St row box fam imm rowS loop
variable {w0:World} {ros:List Fact} {rs:List Res} {w:World}
theorem Ml {E:Bool} {S:LI} {A:Bool} {T:LI} {F B:Hdr} {out:Bool×LI×Bool×LI} (c:m_im E S A T=some out) (a1:imm (rI .u32) F.v S∈ros) (a2:imm (rI .u32) B.v T∈ros) (a:St w0 ros rs w):
  Calls prog 125 #[.agg #[.bool E,F.v],.agg #[.bool A,B.v]] w (fun e w=>∃ (U V:Hdr),e=.returned (.tuple #[.agg #[.bool out.1,U.v],.agg #[.bool out.2.2.1,V.v]])∧St w0 (imm (rI .u32) V.v out.2.2.2::ros) (row 107 (rI .u32) U.v out.2.1::rs) w):=by
 refine en func125 rfl ntmps125 fun Q a3=>q 2 rfl (yb (Qd (vals:=[.bool E,F.v]) a e0 rfl) fun c0 w a=>yb (Qd (vals:=[.bool A,B.v]) a e0 rfl) fun a4 w a=>yb (rAl a B4) fun N w a=>yb (rAl a B4) fun O w a=>bE c fun i a5 c=>bE c fun j a6 c=>q 3 rfl (dS [1,3,4,5] 4 E1 ?_))
 replace a:=a.drew
 refine D1 5 0 1 rfl (rQ rfl (I2 [.bool E,F.v] P0 e0 a R3) (rQ rfl (I2 [.bool A,B.v] P0 e0 a R2) (Rn QSn (kO (w_g a5 a1 a) fun R w a=>dU (D1 0 4 3 rfl (Rn (sY rfl (I2 [.bool A,B.v] P0 e0 a R3) QSn) (kO (w_g a6 a2 a) fun u w a=>dU (D0 0 0 4 rfl (Rn QSn ?_)))))))))
 replace a:=a.k1z
 refine LT wn (Z2 (vals':=[.bool i.1,R.v]) (us:=[.bool i.1,R.v]) a P0 e0 e0 rfl rfl (B3 rfl) rfl) fun w a=>D0 0 0 5 rfl (Rn QSn ?_)
 replace a:=a.k1z
 refine LT wn (Z2 (vals':=[.bool j.1,u.v]) (us:=[.bool j.1,u.v]) a P0 e0 e0 rfl rfl (B3 rfl) rfl) fun w a=>Dw 0 0 (Rn QSn (qx 4 rfl (y (lb_ R.v qe e0 a R1) (q 1 rfl (y (lb_ u.v qe e0 a R0) (bE c fun c1 a7 c=>?_))))))
 replace a:=(((a.k1c).fz).k16).fz
 refine cT_ (wh a7 F1 F0 a) fun c2 c3 w a=>bE c fun d C c=>bE c fun f k c=>q 8 rfl ?_
 refine jN (Nat×Hdr×Nat×Hdr) [3,4,5] (fun (x,l,z,r)=>[(8,(pB x)),(9,(pB z))]) (fun (x,l,z,r)=>St w0 (imm (rI .u32) u.v j.2::ros) (box a4 62 [.bool j.1,u.v]::box N 62 [.bool false,hnil.v]::box O 62 [.bool false,hnil.v]::row 107 (rI .u32) l.v d.2::box x 62 [.bool d.1,l.v]::row 107 (rI .u32) r.v f.2::box z 62 [.bool f.1,r.v]::rs)) rfl ?_ ?_
 ·refine dS [6,10,11,12,13,14] 6 E1 ?_
  replace a:=a.drew
  refine Dm 959 0 [6,11,12] (qR 1 rfl (rQ rfl (lb_ (.bool i.1) O_4 e0 a R2) (qR 1 rfl (rQ rfl (lb_ (.bool j.1) O_4 e0 a R1) (rQ rfl (Db I0 e0 e0) (qR 2 rfl (rQ rfl (lb_ (.bool i.1) O_4 e0 a R2) (qR 1 rfl (Rn QSn ?_)))))))))
  refine La1 rfl ?_ (La1 rfl ?_ (La1 rfl ?_ LAn))
  ·replace a:=a.fz
   refine kO (w_e C F0 a) fun h w a=>dU (Dm 0 896 [10,11,12] (Rn (qS rfl (sY rfl (lb_ (.bool i.1) O_4 e0 a R2) (qS rfl QSn))) ?_))
   refine La1 rfl ?_ (La1 rfl ?_ (La1 rfl ?_ LAn))
   ·refine kO (w_e k F1 a) fun b w a=>dU (Dm 0 0 [11,12] (Rn QSn ?_))
    refine La1 rfl ?_ (La1 rfl ?_ LAn)
    ·refine LB wn (rAl a B4) fun m w a=>dU (D1 0 0 12 rfl (Rn QSn (LB wn (rAl a B4) fun n w a=>dU (D0 0 0 13 rfl (Rn QSn ?_)))))
     replace a:=a.k10
     refine LT wn (Z2 (vals':=[.bool d.1,h.v]) (us:=[.bool d.1,h.v]) a P0 e0 e0 rfl rfl (B3 rfl) rfl) fun w a=>D0 0 0 14 rfl (Rn QSn ?_)
     replace a:=a.k10
     exact LT wn (Z2 (vals':=[.bool f.1,b.v]) (us:=[.bool f.1,b.v]) a P0 e0 e0 rfl rfl (B3 rfl) rfl) fun w a=>Dw 0 0 (Rn QSn (jr (_,_,_,_) ((a.k20).facts (Q0 F2 (N0 (N0 (N0 (N0 A1))))))))
    ·refine LB wn (rAl a B4) fun n w a=>dU (D1 0 0 11 rfl (Rn QSn (LB wn (rAl a B4) fun m w a=>dU (D0 0 0 13 rfl (Rn QSn (LT wn (Z2 (vals':=[.bool d.1,h.v]) (us:=[.bool d.1,h.v]) a P0 e0 e0 rfl rfl (B3 rfl) rfl) fun w a=>D0 0 0 14 rfl (Rn QSn ?_)))))))
     replace a:=a.k10
     exact LT wn (Z2 (vals':=[.bool f.1,b.v]) (us:=[.bool f.1,b.v]) a P0 e0 e0 rfl rfl (B3 rfl) rfl) fun w a=>Dw 0 0 (Rn QSn (jr (_,_,_,_) ((a.k20).facts (Q0 F2 (N0 (N0 (N0 (N0 A1))))))))
   ·refine LB wn (rAl a B4) fun m w a=>dU (Dm 0 896 [10,12] (Rn (qS rfl (sY rfl (lb_ (.bool i.1) O_4 e0 a R3) (qS rfl QSn))) ?_))
    refine La1 rfl ?_ (La1 rfl ?_ LAn)
    ·refine kO (w_e k F1 a) fun b w a=>dU (D1 0 0 12 rfl (Rn QSn (LB wn (rAl a B4) fun n w a=>dU (D0 0 0 13 rfl (Rn QSn ?_)))))
     replace a:=a.k16
     refine LT wn (Z2 (vals':=[.bool d.1,h.v]) (us:=[.bool d.1,h.v]) a P0 e0 e0 rfl rfl (B3 rfl) rfl) fun w a=>D0 0 0 14 rfl (Rn QSn ?_)
     replace a:=a.k10
     exact LT wn (Z2 (vals':=[.bool f.1,b.v]) (us:=[.bool f.1,b.v]) a P0 e0 e0 rfl rfl (B3 rfl) rfl) fun w a=>Dw 0 0 (Rn QSn (jr (_,_,_,_) ((a.k20).facts (Q0 F2 (N0 (N0 (N0 (N0 A1))))))))
    ·refine LB wn (rAl a B4) fun n w a=>dU (D1 0 896 10 rfl (Rn (qS rfl (sY rfl (lb_ (.bool i.1) O_4 e0 a R4) (qS rfl QSn))) (kO (w_e k F1 a) fun b w a=>dU (D0 0 0 13 rfl (Rn QSn ?_)))))
     replace a:=a.k16
     refine LT wn (Z2 (vals':=[.bool d.1,h.v]) (us:=[.bool d.1,h.v]) a P0 e0 e0 rfl rfl (B3 rfl) rfl) fun w a=>D0 0 0 14 rfl (Rn QSn ?_)
     replace a:=a.k16
     exact LT wn (Z2 (vals':=[.bool f.1,b.v]) (us:=[.bool f.1,b.v]) a P0 e0 e0 rfl rfl (B3 rfl) rfl) fun w a=>Dw 0 0 (Rn QSn (jr (_,_,_,_) ((a.k20).facts (Q0 F2 (N0 (N0 (N0 (N0 A1))))))))
   ·refine LB wn (rAl a B4) fun n w a=>dU (Dm 0 896 [10,11] (Rn (qS rfl (sY rfl (lb_ (.bool i.1) O_4 e0 a R3) (qS rfl QSn))) ?_))
    refine La1 rfl ?_ (La1 rfl ?_ LAn)
    ·refine kO (w_e k F1 a) fun b w a=>dU (D1 0 0 11 rfl (Rn QSn (LB wn (rAl a B4) fun m w a=>dU (D0 0 0 13 rfl (Rn QSn (LT wn (Z2 (vals':=[.bool d.1,h.v]) (us:=[.bool d.1,h.v]) a P0 e0 e0 rfl rfl (B3 rfl) rfl) fun w a=>D0 0 0 14 rfl (Rn QSn ?_)))))))
     replace a:=a.k16
     exact LT wn (Z2 (vals':=[.bool f.1,b.v]) (us:=[.bool f.1,b.v]) a P0 e0 e0 rfl rfl (B3 rfl) rfl) fun w a=>Dw 0 0 (Rn QSn (jr (_,_,_,_) ((a.k20).facts (Q0 F2 (N0 (N0 (N0 (N0 A1))))))))
    ·refine LB wn (rAl a B4) fun m w a=>dU (D1 0 896 10 rfl (Rn (qS rfl (sY rfl (lb_ (.bool i.1) O_4 e0 a R4) (qS rfl QSn))) (kO (w_e k F1 a) fun b w a=>dU (D0 0 0 13 rfl (Rn QSn ?_)))))
     replace a:=a.k10
     refine LT wn (Z2 (vals':=[.bool d.1,h.v]) (us:=[.bool d.1,h.v]) a P0 e0 e0 rfl rfl (B3 rfl) rfl) fun w a=>D0 0 0 14 rfl (Rn QSn ?_)
     replace a:=a.k16
     exact LT wn (Z2 (vals':=[.bool f.1,b.v]) (us:=[.bool f.1,b.v]) a P0 e0 e0 rfl rfl (B3 rfl) rfl) fun w a=>Dw 0 0 (Rn QSn (jr (_,_,_,_) ((a.k20).facts (Q0 F2 (N0 (N0 (N0 (N0 A1))))))))
  ·refine LB wn (rAl a B4) fun m w a=>dU (Dm 0 959 [6,12] (Rn (qS rfl (sY rfl (lb_ (.bool i.1) O_4 e0 a R3) (qS rfl (sY rfl (lb_ (.bool j.1) O_4 e0 a R2) (sY rfl (Db I0 e0 e0) (qS rfl (qS rfl (sY rfl (lb_ (.bool i.1) O_4 e0 a R3) (qS rfl QSn))))))))) ?_))
   refine La1 rfl ?_ (La1 rfl ?_ LAn)
   ·replace a:=a.k10
    replace a:=a.fz
    refine kO (w_e C F0 a) fun h w a=>dU (Dm 0 896 [10,12] (Rn (qS rfl (sY rfl (lb_ (.bool i.1) O_4 e0 a R3) (qS rfl QSn))) ?_))
    refine La1 rfl ?_ (La1 rfl ?_ LAn)
    ·refine kO (w_e k F1 a) fun b w a=>dU (D1 0 0 12 rfl (Rn QSn (LB wn (rAl a B4) fun n w a=>dU (D0 0 0 13 rfl (Rn QSn ?_)))))
     replace a:=a.k1c
     refine LT wn (Z2 (vals':=[.bool d.1,h.v]) (us:=[.bool d.1,h.v]) a P0 e0 e0 rfl rfl (B3 rfl) rfl) fun w a=>D0 0 0 14 rfl (Rn QSn ?_)
     replace a:=a.k10
     exact LT wn (Z2 (vals':=[.bool f.1,b.v]) (us:=[.bool f.1,b.v]) a P0 e0 e0 rfl rfl (B3 rfl) rfl) fun w a=>Dw 0 0 (Rn QSn (jr (_,_,_,_) ((a.k20).facts (Q0 F2 (N0 (N0 (N0 (N0 A1))))))))
    ·refine LB wn (rAl a B4) fun n w a=>dU (D1 0 896 10 rfl (Rn (qS rfl (sY rfl (lb_ (.bool i.1) O_4 e0 a R4) (qS rfl QSn))) (kO (w_e k F1 a) fun b w a=>dU (D0 0 0 13 rfl (Rn QSn ?_)))))
     replace a:=a.k1c
     refine LT wn (Z2 (vals':=[.bool d.1,h.v]) (us:=[.bool d.1,h.v]) a P0 e0 e0 rfl rfl (B3 rfl) rfl) fun w a=>D0 0 0 14 rfl (Rn QSn ?_)
     replace a:=a.k16
     exact LT wn (Z2 (vals':=[.bool f.1,b.v]) (us:=[.bool f.1,b.v]) a P0 e0 e0 rfl rfl (B3 rfl) rfl) fun w a=>Dw 0 0 (Rn QSn (jr (_,_,_,_) ((a.k20).facts (Q0 F2 (N0 (N0 (N0 (N0 A1))))))))
   ·refine LB wn (rAl a B4) fun n w a=>dU (D1 0 959 6 rfl (Rn (qS rfl (sY rfl (lb_ (.bool i.1) O_4 e0 a R4) (qS rfl (sY rfl (lb_ (.bool j.1) O_4 e0 a R3) (sY rfl (Db I0 e0 e0) (qS rfl (qS rfl (sY rfl (lb_ (.bool i.1) O_4 e0 a R4) (qS rfl QSn))))))))) ?_))
    replace a:=(a.k16).fz
    refine kO (w_e C F0 a) fun h w a=>dU (D1 0 896 10 rfl (Rn (qS rfl (sY rfl (lb_ (.bool i.1) O_4 e0 a R4) (qS rfl QSn))) (kO (w_e k F1 a) fun b w a=>dU (D0 0 0 13 rfl (Rn QSn ?_)))))
    replace a:=a.k1c
    refine LT wn (Z2 (vals':=[.bool d.1,h.v]) (us:=[.bool d.1,h.v]) a P0 e0 e0 rfl rfl (B3 rfl) rfl) fun w a=>D0 0 0 14 rfl (Rn QSn ?_)
    replace a:=a.k1c
    exact LT wn (Z2 (vals':=[.bool f.1,b.v]) (us:=[.bool f.1,b.v]) a P0 e0 e0 rfl rfl (B3 rfl) rfl) fun w a=>Dw 0 0 (Rn QSn (jr (_,_,_,_) ((a.k20).facts (Q0 F2 (N0 (N0 (N0 (N0 A1))))))))
  ·refine LB wn (rAl a B4) fun n w a=>dU (Dm 0 959 [6,11] (Rn (qS rfl (sY rfl (lb_ (.bool i.1) O_4 e0 a R3) (qS rfl (sY rfl (lb_ (.bool j.1) O_4 e0 a R2) (sY rfl (Db I0 e0 e0) (qS rfl (qS rfl (sY rfl (lb_ (.bool i.1) O_4 e0 a R3) (qS rfl QSn))))))))) ?_))
   refine La1 rfl ?_ (La1 rfl ?_ LAn)
   ·replace a:=a.k10
    replace a:=a.fz
    refine kO (w_e C F0 a) fun h w a=>dU (Dm 0 896 [10,11] (Rn (qS rfl (sY rfl (lb_ (.bool i.1) O_4 e0 a R3) (qS rfl QSn))) ?_))
    refine La1 rfl ?_ (La1 rfl ?_ LAn)
    ·refine kO (w_e k F1 a) fun b w a=>dU (D1 0 0 11 rfl (Rn QSn (LB wn (rAl a B4) fun m w a=>dU (D0 0 0 13 rfl (Rn QSn (LT wn (Z2 (vals':=[.bool d.1,h.v]) (us:=[.bool d.1,h.v]) a P0 e0 e0 rfl rfl (B3 rfl) rfl) fun w a=>D0 0 0 14 rfl (Rn QSn ?_)))))))
     replace a:=a.k1c
     exact LT wn (Z2 (vals':=[.bool f.1,b.v]) (us:=[.bool f.1,b.v]) a P0 e0 e0 rfl rfl (B3 rfl) rfl) fun w a=>Dw 0 0 (Rn QSn (jr (_,_,_,_) ((a.k20).facts (Q0 F2 (N0 (N0 (N0 (N0 A1))))))))
    ·refine LB wn (rAl a B4) fun m w a=>dU (D1 0 896 10 rfl (Rn (qS rfl (sY rfl (lb_ (.bool i.1) O_4 e0 a R4) (qS rfl QSn))) (kO (w_e k F1 a) fun b w a=>dU (D0 0 0 13 rfl (Rn QSn ?_)))))
     replace a:=a.k10
     refine LT wn (Z2 (vals':=[.bool d.1,h.v]) (us:=[.bool d.1,h.v]) a P0 e0 e0 rfl rfl (B3 rfl) rfl) fun w a=>D0 0 0 14 rfl (Rn QSn ?_)
     replace a:=a.k1c
     exact LT wn (Z2 (vals':=[.bool f.1,b.v]) (us:=[.bool f.1,b.v]) a P0 e0 e0 rfl rfl (B3 rfl) rfl) fun w a=>Dw 0 0 (Rn QSn (jr (_,_,_,_) ((a.k20).facts (Q0 F2 (N0 (N0 (N0 (N0 A1))))))))
   ·refine LB wn (rAl a B4) fun m w a=>dU (D1 0 959 6 rfl (Rn (qS rfl (sY rfl (lb_ (.bool i.1) O_4 e0 a R4) (qS rfl (sY rfl (lb_ (.bool j.1) O_4 e0 a R3) (sY rfl (Db I0 e0 e0) (qS rfl (qS rfl (sY rfl (lb_ (.bool i.1) O_4 e0 a R4) (qS rfl QSn))))))))) ?_))
    replace a:=(a.k16).fz
    refine kO (w_e C F0 a) fun h w a=>dU (D1 0 896 10 rfl (Rn (qS rfl (sY rfl (lb_ (.bool i.1) O_4 e0 a R4) (qS rfl QSn))) (kO (w_e k F1 a) fun b w a=>dU (D0 0 0 13 rfl (Rn QSn ?_)))))
    replace a:=a.k16
    refine LT wn (Z2 (vals':=[.bool d.1,h.v]) (us:=[.bool d.1,h.v]) a P0 e0 e0 rfl rfl (B3 rfl) rfl) fun w a=>D0 0 0 14 rfl (Rn QSn ?_)
    replace a:=a.k1c
    exact LT wn (Z2 (vals':=[.bool f.1,b.v]) (us:=[.bool f.1,b.v]) a P0 e0 e0 rfl rfl (B3 rfl) rfl) fun w a=>Dw 0 0 (Rn QSn (jr (_,_,_,_) ((a.k20).facts (Q0 F2 (N0 (N0 (N0 (N0 A1))))))))
 rintro ⟨x,l,z,r⟩ g w a
 refine q 4 rfl (y (I2 [.bool f.1,r.v] P0 e0 a R6) (bE c fun c4 a8 c=>?_))
 replace a:=(a.k1z).fz
 refine cZ (w_z a8 F0 a) fun w a=>q 3 rfl ?_
 refine jC (Bool×LI×Bool×LI×Hdr×Hdr) [4,5,8,9] (fun (s,G,o,H,t,p)=>[]) (fun (s,G,o,H,t,p) w=>St w0 (imm (rI .u32) p.v H::ros) (box N 62 [.bool false,hnil.v]::box O 62 [.bool false,hnil.v]::row 107 (rI .u32) t.v G::box x 62 [.bool s,t.v]::box z 62 [.bool o,p.v]::rs) w∧m_ik s G o H=some out) rfl ?_ ?_
 ·rintro ⟨s,G,o,H,t,p⟩ g w ⟨a,c⟩
  refine q 2 rfl (dS [2,3] 2 E1 ?_)
  replace a:=a.drew
  refine D0 3 0 2 rfl (rQ rfl (I2 [.bool s,t.v] P0 e0 a R3) (rQ rfl (I2 [.bool o,p.v] P0 e0 a R4) (Rn QSn (LT wn (Z2 (vals':=[.bool s,t.v]) (us:=[.bool s,t.v]) a P0 e0 e0 rfl rfl (B3 rfl) rfl) fun w a=>D0 0 2 3 rfl (Rn (sY rfl (I2 [.bool o,p.v] P0 e0 a R4) QSn) ?_)))))
  replace a:=a.k10
  refine LT wn (Z2 (vals':=[.bool o,p.v]) (us:=[.bool o,p.v]) a P0 e0 e0 rfl rfl (B3 rfl) rfl) fun w a=>Dw 0 0 (Rn QSn (qx 2 rfl ?_))
  cases c
  exact a3 _ _ _ (X3 results125 (I3 rfl rfl a R1 P0 rfl) (I3 rfl rfl a R0 P0 rfl) ⟨_,_,rfl,(a.k21)⟩)
 refine cI c (fun a9 c=>?_) fun a9 c=>?_
 ·refine q 1 rfl (bE c fun c5 b0 c=>bE c fun D b1 c=>dS [2,3,4] 3 E1 ?_)
  replace a:=a.drew
  refine D1 3 0 2 rfl (rQ rfl (I2 [.bool f.1,r.v] P0 e0 a R5) (rQ rfl (I2 [.bool j.1,u.v] P0 e0 a R0) (Rn QSn (kO (w_j b0 F1 a) fun c6 w a=>dU (D1 0 1 3 rfl (Rn (sY rfl (I2 [.bool f.1,r.v] P0 e0 a R6) QSn) ?_))))))
  replace a:=a.fz
  refine kO (w_q b1 F1 F0 a) fun I w a=>dU (D0 0 0 4 rfl (Rn QSn ?_))
  replace a:=a.k1i
  refine LT wn (Z2 (vals':=[.bool D.1,I.v]) (us:=[.bool D.1,I.v]) a P0 e0 e0 rfl rfl (B3 rfl) rfl) fun w a=>Dw 0 0 (Rn QSn (qx 4 rfl (y (lb_ (.bool j.1) O_4 e0 a R2) (q 2 rfl ?_))))
  refine jC (Bool×LI×Hdr) [4,5,8,9] (fun (J,K,L)=>[]) (fun (J,K,L) w=>St w0 ros (box N 62 [.bool false,hnil.v]::box O 62 [.bool false,hnil.v]::row 107 (rI .u32) L.v K::box x 62 [.bool J,L.v]::row 107 (rI .u32) I.v D.2::box z 62 [.bool D.1,I.v]::rs) w∧m_il D J K=some out) rfl ?_ ?_
  ·rintro ⟨J,K,L⟩ g w ⟨a,c⟩
   replace a:=(a.k1j).fz
   exact jx (_,_,_,_,_,_) ⟨a,c⟩
  refine cJ c (fun b2 c=>?_) fun b2 c=>?_
  ·refine bE c fun c7 b3 c=>bE c fun W b4 c=>dS [1,2,3] 3 E1 ?_
   replace a:=a.drew
   refine D1 1 0 1 rfl (rQ rfl (I2 [.bool d.1,l.v] P0 e0 a R6) (Rn QSn (kO (w_f b3 a) fun c8 w a=>dU (D1 0 1 2 rfl (Rn (sY rfl (I2 [.bool d.1,l.v] P0 e0 a R7) QSn) ?_)))))
   replace a:=((a.k1i).fz).fz
   refine kO (w_q b4 F1 F0 a) fun X w a=>dU (D0 0 0 3 rfl (Rn QSn ?_))
   replace a:=a.k1i
   exact LT wn (Z2 (vals':=[.bool W.1,X.v]) (us:=[.bool W.1,X.v]) a P0 e0 e0 rfl rfl (B3 rfl) rfl) fun w a=>Dw 0 0 (Rn QSn (qx 0 rfl (jx (_,_,_) ⟨((a.k22).fc),c⟩)))
  ·refine bE c fun c9 b5 c=>bE c fun Z b6 c=>dS [1,2,3] 3 E1 ?_
   replace a:=a.drew
   refine D1 1 0 1 rfl (rQ rfl (I2 [.bool d.1,l.v] P0 e0 a R6) (Rn QSn (kO (w_f b5 a) fun d0 w a=>dU (D1 0 1 2 rfl (Rn (sY rfl (I2 [.bool d.1,l.v] P0 e0 a R7) QSn) ?_)))))
   replace a:=((a.k1i).fz).fz
   refine kO (w_r b6 F1 F0 a) fun a0 w a=>dU (D0 0 0 3 rfl (Rn QSn ?_))
   replace a:=a.k1i
   exact LT wn (Z2 (vals':=[.bool Z.1,a0.v]) (us:=[.bool Z.1,a0.v]) a P0 e0 e0 rfl rfl (B3 rfl) rfl) fun w a=>Dw 0 0 (Rn QSn (qx 0 rfl (jx (_,_,_) ⟨((a.k22).fc),c⟩)))
 ·exact q 1 rfl (jx (_,_,_,_,_,_) ⟨((a.k23).facts (Q0 F0 (N0 (N0 A1)))),c⟩)
instance:CL prog 125 (type_of% @Ml):=⟨@Ml⟩
theorem Te {p:Bool} {r:LI} {s:Bool} {t:LI} {u x:Hdr} {out:Bool×LI} (c:m_io p r s t=some out) (E:imm (rI .u32) u.v r∈ros) (F:imm (rI .u32) x.v t∈ros) (a:St w0 ros rs w):
  Calls prog 124 #[.agg #[.bool p,u.v],.agg #[.bool s,x.v]] w (rb w0 ros rs out):=by
 refine en func124 rfl ntmps124 fun Q G=>?_
 refine z 3 3 ?_;intro H w a I w a j w a
 refine bE c fun y J c=>bE c fun A K c=>?_
 refine jN (Nat×Hdr×Nat×Hdr) [4] (fun (b,e,d,f)=>[(5,(pB b)),(6,(pB d))]) (fun (b,e,d,f)=>St w0 ros (box j 62 [.bool false,hnil.v]::row 107 (rI .u32) e.v y.2::box b 62 [.bool y.1,e.v]::row 107 (rI .u32) f.v A.2::box d 62 [.bool A.1,f.v]::rs)) rfl ?_ ?_
 ·refine dS [1,3,4,5,6,7] 6 E1 ?_
  replace a:=a.drew
  exact zx
 rintro ⟨b,e,d,f⟩ g w a
 refine q 3 rfl ?_
 obtain ⟨⟨B,C⟩,D,c⟩:=bs c
 replace a:=(((a.k10).fz).k16).fz
 refine lpN (Hdr×Hdr) Hdr D [4,5,6] (fun (k,l,m,n) (h,i)=>[]) (fun (k,l,m,n) (h,i)=>St w0 (imm (rI .u32) h.v l::imm (rI .u32) i.v n::ros) (box j 62 [.bool false,hnil.v]::box b 62 [.bool k,h.v]::box d 62 [.bool m,i.v]::rs)) (fun | (B,C),o=>(.exit 0,[],St w0 (imm (rI .u32) o.v C::ros) (box j 62 [.bool false,hnil.v]::box b 62 [.bool B,o.v]::rs))) rfl (_,_) (a.facts (Q0 F1 (Q0 F0 (N0 (N0 A1))))) rfl ?_ ?_
 ·clear a
  rintro o g w a
  exact vx
 rintro ⟨k,l,m,n⟩ ⟨h,i⟩ g w L a c
 exact vx
instance:CL prog 124 (type_of% @Te):=⟨@Te⟩
theorem Oa {b:Bool} {d:LI} {f:Bool} {g:LI} {h i:Hdr} {out:Bool×LI×Bool} (c:m_ip b d f g=some out) (l:imm (rI .u32) h.v d∈ros) (m:imm (rI .u32) i.v g∈ros) (a:St w0 ros rs w):
  Calls prog 123 #[.agg #[.bool b,h.v],.agg #[.bool f,i.v]] w (fun e w=>∃ (j:Hdr),e=.returned (.tuple #[.agg #[.bool out.1,j.v],.bool out.2.2])∧St w0 ros (row 107 (rI .u32) j.v out.2.1::rs) w):=by
 refine en func123 rfl ntmps123 fun Q k=>?_
 refine v 0 ?_
 refine fun _ _ _ _ _ _ _ _ _ _ _ _ _ _ _ _ _ _ _ _ _ _ _ _ _ _ _ _ _ _ a=>⟨vt,fun _ c _ a=>?_⟩
 cases c
 replace a:=a.rowNh 107 (rI .u32)
 exact k _ _ _ (X3 results123 (I3 rfl rfl a R1 P0 rfl) ⟨rfl,rfl⟩ ⟨_,rfl,((a.k27).fc)⟩)
instance:CL prog 123 (type_of% @Oa):=⟨@Oa⟩
theorem Se {b:Bool} {j:LI} {d:Bool} {k:LI} {l m:Hdr} {out:Bool×LI×Bool×LI} (c:m_ir b j d k=some out) (y:imm (rI .u32) l.v j∈ros) (A:imm (rI .u32) m.v k∈ros) (a:St w0 ros rs w):
  Calls prog 121 #[.agg #[.bool b,l.v],.agg #[.bool d,m.v]] w (fun e w=>∃ (n o:Hdr),e=.returned (.agg #[.bool out.1,n.v,.bool out.2.2.1,o.v])∧St w0 ros (row 107 (rI .u32) n.v out.2.1::row 107 (rI .u32) o.v out.2.2.2::rs) w):=by
 refine en func121 rfl ntmps121 fun Q p=>?_
 refine z 10 3 ?_;intro r w a s w a t w a B C c D w a u w a w a E F c w a
 refine jC (Bool×LI×Hdr) [2,3,4,5] (fun (f,h,i)=>[]) (fun (f,h,i) w=>St w0 (imm (rI .u32) i.v h::ros) (box r 62 [.bool b,l.v]::box s 62 [.bool d,m.v]::box t 146 [.bool false,hnil.v,.bool false,hnil.v]::box u 62 [.bool f,i.v]::rs) w∧m_iq b j d k f h=some out) rfl ?_ ?_
 ·rintro ⟨f,h,i⟩ g w ⟨a,c⟩
  refine z 14 3 ?_;intro G H c I w a J w a w a K L c N w a O w a w a w a
  cases c
  exact p _ _ _ (V2 results121 (I3 rfl rfl a R0 E4 rfl) ⟨_,_,rfl,((a.k28).fc)⟩)
 refine cI c (fun x c=>?_) fun x c=>?_
 ·refine z 3 1 ?_;intro R S c T w a w a
  replace a:=(a.k10).fz
  exact jx (_,_,_) ⟨((a.k29).facts (Q0 F0 (N0 (N0 A1)))),c⟩
 ·exact q 1 rfl (jx (_,_,_) ⟨(a.k29),c⟩)
instance:CL prog 121 (type_of% @Se):=⟨@Se⟩
theorem Re {i:Bool} {m:LI} {j:Bool} {n:LI} {o:Bool} {p:LI} {q:Bool} {r:LI} {s:Bool} {t:LI} {u:Bool} {x:LI} {y:Bool} {A:LI} {B:Bool} {C:LI} {k l D E F G H I:Hdr} {out:Bool×LI×Bool×LI} (c:m_is i m j n o p q r s t u x y A B C=some out) (O:imm (rI .u32) k.v m∈ros) (R:imm (rI .u32) l.v n∈ros) (S:imm (rI .u32) D.v p∈ros) (T:imm (rI .u32) E.v r∈ros) (U:imm (rI .u32) F.v t∈ros) (V:imm (rI .u32) G.v x∈ros) (W:imm (rI .u32) H.v A∈ros) (X:imm (rI .u32) I.v C∈ros) (a:St w0 ros rs w):
  Calls prog 120 #[.agg #[.bool i,k.v,.bool j,l.v],.agg #[.bool o,D.v,.bool q,E.v],.agg #[.bool s,F.v,.bool u,G.v],.agg #[.bool y,H.v,.bool B,I.v]] w (fun e w=>∃ (J K:Hdr),e=.returned (.agg #[.bool out.1,J.v,.bool out.2.2.1,K.v])∧St w0 ros (row 107 (rI .u32) J.v out.2.1::row 107 (rI .u32) K.v out.2.2.2::rs) w):=by
 refine en func120 rfl ntmps120 fun Q Z=>?_
 refine z 5 3 ?_;intro L w a a0 w a a1 w a a2 w a N w a
 refine bE c fun a3 a4 c=>bE c fun a5 a6 c=>bE c fun a7 a8 c=>bE c fun a9 b0 c=>bE c fun b b1 c=>?_
 refine jN (Nat×Hdr×Hdr) [4,8] (fun (d,f,h)=>[(9,(pB d))]) (fun (d,f,h)=>St w0 ros (box L 146 [.bool i,k.v,.bool j,l.v]::box N 146 [.bool false,hnil.v,.bool false,hnil.v]::row 107 (rI .u32) f.v b.2.1::row 107 (rI .u32) h.v b.2.2.2::box d 146 [.bool b.1,f.v,.bool b.2.2.1,h.v]::rs)) rfl ?_ ?_
 ·refine dS [4,7,12,15,16,17,18] 7 E1 ?_
  replace a:=a.drew
  exact zx
 rintro ⟨d,f,h⟩ g w a
 exact vx
instance:CL prog 120 (type_of% @Re):=⟨@Re⟩
theorem Qe {d7:List (List (Bool×LI×Bool×LI))} {b7:Int} {f:Hdr} {d8:List Hdr} {out:(List (List (Bool×LI×Bool×LI)))×LI×Bool×LI×Bool×LI} (c:m_iz d7 b7=some out) (a:St w0 ros (row 149 rH f.v d8::fam 146 (rP rB (rP (rS (rI .u32)) (rP rB (rS (rI .u32))))) d8 d7::rs) w):
  Calls prog 119 #[f.v,iV b7] w (fun e w=>∃ (d9:List Hdr) (e1 e2 e3:Hdr),e=.returned (.tuple #[e1.v,.agg #[.bool out.2.2.1,e2.v,.bool out.2.2.2.2.1,e3.v]])∧St w0 ros (row 149 rH f.v d9::fam 146 (rP rB (rP (rS (rI .u32)) (rP rB (rS (rI .u32))))) d9 out.1::row 3 I1 e1.v out.2.1::row 107 (rI .u32) e2.v out.2.2.2.1::row 107 (rI .u32) e3.v out.2.2.2.2.2::rs) w):=by
 refine en func119 rfl ntmps119 fun Q i1=>q 3 rfl (yb (rAl a Za) fun k w a=>bE c fun e4 i2 c=>q 4 rfl (cO (w_f i2 a) fun e5 w a=>bE c fun e6 i3 c=>cO (w_f i3 a) fun e7 w a=>y (J9 (us:=[.bool e4.1,e5.v,.bool e6.1,e7.v]) [(0,.agg #[.bool e4.1,e5.v]),(1,.agg #[.bool e6.1,e7.v])] Ag (bp2 e0 e0) rfl) (yb (rAl a Za) fun m w a=>sB rfl a E4 fun w a=>?_)))
 refine q 14 rfl ?_
 obtain ⟨⟨e8,H,e9,I,f0,f1⟩,i4,c⟩:=bs c
 replace a:=a.rowNh 3 I1
 refine lpN ((List Hdr)×Hdr×Hdr×Hdr) ((List Hdr)×Hdr×Hdr×Hdr) i4 [0,1,5,6] (fun (J,C,K,o,z,h,A) (s,p,d,i)=>[(7,i.v),(8,iV A)]) (fun (J,C,K,o,z,h,A) (s,p,d,i)=>St w0 ros (row 149 rH f.v s::fam 146 (rP rB (rP (rS (rI .u32)) (rP rB (rS (rI .u32))))) s J::box k 146 [.bool false,hnil.v,.bool false,hnil.v]::row 107 (rI .u32) p.v K::row 107 (rI .u32) d.v z::box m 146 [.bool C,p.v,.bool o,d.v]::row 3 I1 i.v h::rs)) (fun | (e8,H,e9,I,f0,f1),(b8,D,E,R)=>(.exit 0,[(7,R.v)],St w0 ros (row 149 rH f.v b8::fam 146 (rP rB (rP (rS (rI .u32)) (rP rB (rS (rI .u32))))) b8 e8::box k 146 [.bool false,hnil.v,.bool false,hnil.v]::row 107 (rI .u32) D.v e9::row 107 (rI .u32) E.v f0::box m 146 [.bool H,D.v,.bool I,E.v]::row 3 I1 R.v f1::rs))) rfl (_,_,_,_) (a.k2c) rfl ?_ ?_
 ·clear a
  rintro ⟨b8,D,E,R⟩ g w a
  refine q 3 rfl (dS [2,3] 2 E1 ?_)
  replace a:=a.drew
  refine D1 3 0 2 rfl (qR 1 rfl (rQ rfl (I2 [.bool H,D.v,.bool I,E.v] E4 e0 a R5) (Rn QSn (Ly wn (a_ R.v e0) (dU (D0 0 2 3 rfl (Rn (sY rfl (I2 [.bool H,D.v,.bool I,E.v] E4 e0 a R5) QSn) ?_)))))))
  replace a:=a.k16
  refine LT wn (Z2 (vals':=[.bool H,D.v,.bool I,E.v]) (us:=[.bool H,D.v,.bool I,E.v]) a E4 e0 e0 rfl rfl (B3 rfl) rfl) fun w a=>Dw 0 0 (Rn QSn (qx 2 rfl ?_))
  cases c
  exact i1 _ _ _ (X3 results119 ⟨rfl,rfl⟩ (I3 rfl rfl a R0 E4 rfl) ⟨_,_,_,_,rfl,(a.k2d)⟩)
 rintro ⟨J,C,K,o,z,h,A⟩ ⟨s,p,d,i⟩ g w f2 a c
 refine q 8 rfl (cI c (fun i5 c=>?_) fun i5 c=>?_)
 ·refine q 3 rfl ?_
  refine jC ((List (List (Bool×LI×Bool×LI)))×Bool×LI×Bool×LI×LI×(List Hdr)×Hdr×Hdr×Hdr) [0,1,5,6,8] (fun (S,T,U,V,W,X,Z,a0,a1,a2)=>[(7,a2.v)]) (fun (S,T,U,V,W,X,Z,a0,a1,a2) w=>St w0 ros (row 149 rH f.v Z::fam 146 (rP rB (rP (rS (rI .u32)) (rP rB (rS (rI .u32))))) Z S::box k 146 [.bool false,hnil.v,.bool false,hnil.v]::row 107 (rI .u32) a0.v U::row 107 (rI .u32) a1.v W::box m 146 [.bool T,a0.v,.bool V,a1.v]::row 3 I1 a2.v X::rs) w∧m_it A S T U V W X=some f2) rfl ?_ ?_
  ·rintro ⟨S,T,U,V,W,X,Z,a0,a1,a2⟩ g w ⟨a,c⟩
   refine q 6 rfl ?_
   cases c
   exact ln (_,_,_,_) a
  refine q 4 rfl (y (Y2 V0 e0 a rO6) (bE c fun f3 i6 c=>q 11 rfl ?_))
  refine lp i6 [0,1,5,6,7,8,9] (fun b9=>[(10,iV b9)]) (fun b9=>St w0 ros (row 149 rH f.v s::fam 146 (rP rB (rP (rS (rI .u32)) (rP rB (rS (rI .u32))))) s J::box k 146 [.bool false,hnil.v,.bool false,hnil.v]::row 107 (rI .u32) p.v K::row 107 (rI .u32) d.v z::box m 146 [.bool C,p.v,.bool o,d.v]::row 3 I1 i.v h::rs)) (fun | f3=>(.exit 2,[(10,iV f3)],St w0 ros (row 149 rH f.v s::fam 146 (rP rB (rP (rS (rI .u32)) (rP rB (rS (rI .u32))))) s J::box k 146 [.bool false,hnil.v,.bool false,hnil.v]::row 107 (rI .u32) p.v K::row 107 (rI .u32) d.v z::box m 146 [.bool C,p.v,.bool o,d.v]::row 3 I1 i.v h::rs))) rfl a rfl ?_ ?_
  ·clear a
   intro g w a
   refine q 7 rfl (y (C6 w5 e0 a rO0 R1) (q 3 rfl (cI c (fun i7 c=>?_) fun i7 c=>?_)))
   ·exact q 3 rfl (jx (_,_,_,_,_,_,_,_,_,_) ⟨a,c⟩)
   ·refine q 10 rfl ?_
    refine jC ((List (List (Bool×LI×Bool×LI)))×Bool×LI×(List Hdr)×Hdr) [0,1,5,6,7,8,9] (fun (a3,N,a4,j,O)=>[]) (fun (a3,N,a4,j,O) w=>St w0 ros (row 149 rH f.v j::fam 146 (rP rB (rP (rS (rI .u32)) (rP rB (rS (rI .u32))))) j a3::box k 146 [.bool false,hnil.v,.bool false,hnil.v]::row 107 (rI .u32) O.v a4::row 107 (rI .u32) d.v z::box m 146 [.bool N,O.v,.bool o,d.v]::row 3 I1 i.v h::rs) w∧m_iw h A o z b7 a3 N a4=some f2) rfl ?_ ?_
    ·rintro ⟨a3,N,a4,j,O⟩ g w ⟨a,c⟩
     refine bE c fun l6 c0 c=>bE c fun c1 f4 c=>bE c fun l7 i8 c=>bE c fun l8 a5 c=>bE c fun L c2 c=>bE c fun l9 i9 c=>bE c fun b j0 c=>q 2 rfl (dS [10,21,22,23] 4 E1 ?_)
     replace a:=a.drew
     refine D1 2096127 0 10 rfl (qR 1 rfl (rQ rfl (I2 [.bool N,O.v] P0 e0 a R5) (qR 2 rfl ?_)))
     obtain ⟨m0,a6⟩:=a.famI R1 c0
     refine rQ rfl (yIa w5 e0 e0 a rO0 a6) (rQ rfl (yF1 w6 e0 a rO0 a6 rfl) (qR 1 rfl (rQ rfl (yIa S3 e0 e0 a (rdF R1 a6 c0) f4) (rQ rfl (yFe Ge e0) ?_))))
     obtain ⟨m1,m2,cc5068,a⟩:=a.ld (rdF R1 a6 c0) f4
     replace a:=a.eltP
     obtain ⟨m3,m4,rfl,a⟩:=a
     replace a:=a.eltB
     obtain ⟨rfl,a⟩:=a
     replace a:=a.eltP
     obtain ⟨m5,m6,rfl,a⟩:=a
     replace a:=a.eltS
     obtain ⟨f5,rfl,a⟩:=a
     replace a:=a.swf.eltP
     obtain ⟨m7,m8,rfl,a⟩:=a
     replace a:=a.eltB
     obtain ⟨rfl,a⟩:=a
     replace a:=a.eltS
     obtain ⟨j1,rfl,a⟩:=a
     refine rQ rfl (U5 (cs:=[.bool c1.1,f5.v,.bool c1.2.2.1,j1.v]) (us:=[.bool c1.1,f5.v]) P0 e0 cc5068 rfl rfl) (qR 1 rfl (rQ rfl (I2 [.bool o,d.v] P0 e0 a R5) (qR 2 rfl ?_)))
     obtain ⟨m9,F⟩:=a.famI R1 a5
     refine rQ rfl (yIa w5 e0 e0 a rO0 F) (rQ rfl (yF1 w6 e0 a rO0 F rfl) (qR 1 rfl (rQ rfl (yIa S3 e0 e0 a (rdF R1 F a5) c2) (rQ rfl (yFe y7 e0) ?_))))
     replace a:=(a.k10).pin0
     obtain ⟨n0,a⟩:=St.pinF F a5 a c2
     obtain ⟨n1,n2,rfl,a⟩:=a.eltP
     obtain ⟨rfl,a⟩:=a.eltB
     obtain ⟨n3,n4,rfl,a⟩:=a.eltP
     obtain ⟨f6,rfl,a⟩:=a.eltS
     replace a:=a.swf
     obtain ⟨n5,n6,rfl,a⟩:=a.eltP
     obtain ⟨rfl,a⟩:=a.eltB
     obtain ⟨a7,rfl,a⟩:=a.eltS
     refine rQ rfl (U5 (cs:=[.bool L.1,f6.v,.bool L.2.2.1,a7.v]) (us:=[.bool L.2.2.1,a7.v]) P0 e0 (a.cAtP R0 mhP) rfl rfl) (Rn QSn ?_)
     replace a:=(a.k1c).fz
     refine kO (ga i8 F0 F4 a) fun n7 w a=>dU (D1 0 2095104 21 rfl (Rn (qS rfl (sY rfl (I2 [.bool o,d.v] P0 e0 a R5) (qS rfl (qS rfl (sY rfl (yIa w5 e0 e0 a rO2 F) (sY rfl (yF1 w6 e0 a rO2 F rfl) (qS rfl (sY rfl (yIa S3 e0 e0 a (Zp R1 F a5) c2) (sY rfl (yFe y7 e0) (sY rfl (U5 (cs:=[.bool L.1,f6.v,.bool L.2.2.1,a7.v]) (us:=[.bool L.2.2.1,a7.v]) P0 e0 (a.cAtP R1 mhP) rfl rfl) QSn)))))))))) ?_))
     replace a:=(a.k1j).fz
     refine kO (ga i9 F0 F2 a) fun n8 w a=>dU (D1 0 0 22 rfl (Rn QSn ?_))
     replace a:=((a.k10).fz).fz
     refine kT_ (Se j0 F1 F0 a) fun t x w a=>dU (D0 0 0 23 rfl (Rn QSn ?_))
     replace a:=a.k1z
     refine LT wn (Z2 (vals':=[.bool b.1,t.v,.bool b.2.2.1,x.v]) (us:=[.bool b.1,t.v,.bool b.2.2.1,x.v]) a E4 e0 e0 rfl rfl (B3 rfl) rfl) fun w a=>Dw 0 0 (Rn QSn ?_)
     replace a:=(a.k1c).unpin
     refine bE c fun f7 j2 c=>qx 10 rfl ?_
     refine lp j2 [0,1,5,6,7,8,9] (fun (c3,c4)=>[(11,iV c4)]) (fun (c3,c4)=>St w0 ros (row 149 rH f.v j::fam 146 (rP rB (rP (rS (rI .u32)) (rP rB (rS (rI .u32))))) j c3::box k 146 [.bool false,hnil.v,.bool false,hnil.v]::row 107 (rI .u32) t.v b.2.1::row 107 (rI .u32) x.v b.2.2.2::box m 146 [.bool b.1,t.v,.bool b.2.2.1,x.v]::row 3 I1 i.v h::rs)) (fun | f7=>(.exit 4,[],St w0 ros (row 149 rH f.v j::fam 146 (rP rB (rP (rS (rI .u32)) (rP rB (rS (rI .u32))))) j f7::box k 146 [.bool false,hnil.v,.bool false,hnil.v]::row 107 (rI .u32) t.v b.2.1::row 107 (rI .u32) x.v b.2.2.2::box m 146 [.bool b.1,t.v,.bool b.2.2.1,x.v]::row 3 I1 i.v h::rs))) rfl ((a.k2e).fc) rfl ?_ ?_
     ·clear a
      intro g w a
      refine q 5 rfl (yh (rLt (n:=1) (l:=[A]) a V0 [iV A] (bp1 e0) rfl rfl (N1 (cs:=[iV A]) rfl mkI X1)) fun n9 w a=>bE c fun o0 j3 c=>?_)
      replace a:=a.k2f
      exact yh (rAp a V0 e0 e0 rO1 j3) fun o1 w a=>q 3 rfl (jx (_,_,_,_,_,_,_,_,_,_) ⟨(a.k2g),c⟩)
     rintro ⟨c3,c4⟩ g w o2 a c
     refine q 5 rfl (y (C6 w5 e0 a rO0 R1) (q 3 rfl (cI c (fun j4 c=>?_) fun j4 c=>?_)))
     ·refine q 8 rfl (bE c fun o3 c5 c=>?_)
      obtain ⟨o4,a8⟩:=a.famI R1 c5
      refine y (yIa w5 e0 e0 a rO0 a8) (y (yF1 w6 e0 a rO0 a8 rfl) (bE c fun B f8 c=>q 1 rfl (y (yIa S3 e0 e0 a (rdF R1 a8 c5) f8) ?_)))
      obtain ⟨o5,o6,cc5398,a⟩:=a.ld (rdF R1 a8 c5) f8
      replace a:=a.eltP
      obtain ⟨o7,o8,rfl,a⟩:=a
      replace a:=a.eltB
      obtain ⟨rfl,a⟩:=a
      replace a:=a.eltP
      obtain ⟨o9,p0,rfl,a⟩:=a
      replace a:=a.eltS
      obtain ⟨a9,rfl,a⟩:=a
      replace a:=a.swf.eltP
      obtain ⟨p1,p2,rfl,a⟩:=a
      replace a:=a.eltB
      obtain ⟨rfl,a⟩:=a
      replace a:=a.eltS
      obtain ⟨b0,rfl,a⟩:=a
      refine y (yCn (cs:=[.bool B.1,a9.v,.bool B.2.2.1,b0.v]) E4 rfl e0 cc5398) (yb (rAl a Za) fun j5 w a=>sB rfl a E4 fun w a=>bE c fun f9 j6 c=>q 9 rfl ?_)
      refine lp j6 [0,1,5,6,7,8,9,11,12] (fun (c6,c7)=>[(13,iV c7)]) (fun (c6,c7)=>St w0 (imm (rI .u32) a9.v B.2.1::imm (rI .u32) b0.v B.2.2.2::ros) (row 149 rH f.v j::fam 146 (rP rB (rP (rS (rI .u32)) (rP rB (rS (rI .u32))))) j c6::box k 146 [.bool false,hnil.v,.bool false,hnil.v]::row 107 (rI .u32) t.v b.2.1::row 107 (rI .u32) x.v b.2.2.2::box m 146 [.bool b.1,t.v,.bool b.2.2.1,x.v]::row 3 I1 i.v h::box j5 146 [.bool B.1,a9.v,.bool B.2.2.1,b0.v]::rs)) (fun | f9=>(.exit 6,[],St w0 ros (row 149 rH f.v j::fam 146 (rP rB (rP (rS (rI .u32)) (rP rB (rS (rI .u32))))) j f9::box k 146 [.bool false,hnil.v,.bool false,hnil.v]::row 107 (rI .u32) t.v b.2.1::row 107 (rI .u32) x.v b.2.2.2::box m 146 [.bool b.1,t.v,.bool b.2.2.1,x.v]::row 3 I1 i.v h::rs))) rfl ((a.k2h).facts (Q0 F1 (Q0 F0 (N0 (N0 A1))))) rfl ?_ ?_
      ·clear a
       intro g w a
       refine q 8 rfl ?_
       cases c
       exact lo a
      rintro ⟨c6,c7⟩ g w p3 a c
      refine q 8 rfl (cI c (fun j7 c=>?_) fun j7 c=>?_)
      ·refine q 4 rfl (bE c fun p4 c8 c=>bE c fun p5 c9 c=>bE c fun g0 g1 c=>bE c fun p6 d0 c=>bE c fun g2 g3 c=>bE c fun p7 d1 c=>bE c fun g4 g5 c=>bE c fun g6 j8 c=>bE c fun p8 g7 c=>bE c fun p9 j9 c=>dS [27,29] 2 E1 ?_)
       replace a:=a.drew
       refine D1 134217727 0 27 rfl (qR 2 rfl ?_)
       obtain ⟨q0,G⟩:=a.famI R1 c8
       refine rQ rfl (yIa w5 e0 e0 a rO0 G) (rQ rfl (yF1 w6 e0 a rO0 G rfl) (qR 3 rfl ?_))
       obtain ⟨q1,b1⟩:=a.famI R1 c9
       refine rQ rfl (yIa w5 e0 e0 a rO0 b1) (rQ rfl (yF1 w6 e0 a rO0 b1 rfl) (qR 1 rfl (rQ rfl (yIa S3 e0 e0 a (rdF R1 b1 c9) g1) ?_)))
       obtain ⟨q2,q3,cc5522,a⟩:=a.ld (rdF R1 b1 c9) g1
       replace a:=a.eltP
       obtain ⟨q4,q5,rfl,a⟩:=a
       replace a:=a.eltB
       obtain ⟨rfl,a⟩:=a
       replace a:=a.eltP
       obtain ⟨q6,q7,rfl,a⟩:=a
       replace a:=a.eltS
       obtain ⟨k0,rfl,a⟩:=a
       replace a:=a.swf.eltP
       obtain ⟨q8,q9,rfl,a⟩:=a
       replace a:=a.eltB
       obtain ⟨rfl,a⟩:=a
       replace a:=a.eltS
       obtain ⟨k1,rfl,a⟩:=a
       refine rQ rfl (yCn (cs:=[.bool g0.1,k0.v,.bool g0.2.2.1,k1.v]) E4 rfl e0 cc5522) (rQ rfl (I2 [.bool B.1,a9.v,.bool B.2.2.1,b0.v] E4 e0 a R7) (qR 2 rfl ?_))
       obtain ⟨r0,b2⟩:=a.famI R1 d0
       refine rQ rfl (yIa w5 e0 e0 a rO0 b2) (rQ rfl (yF1 w6 e0 a rO0 b2 rfl) (qR 1 rfl (rQ rfl (yIa S3 e0 e0 a (rdF R1 b2 d0) g3) ?_)))
       obtain ⟨r1,r2,cc5529,a⟩:=a.ld (rdF R1 b2 d0) g3
       replace a:=a.eltP
       obtain ⟨r3,r4,rfl,a⟩:=a
       replace a:=a.eltB
       obtain ⟨rfl,a⟩:=a
       replace a:=a.eltP
       obtain ⟨r5,r7,rfl,a⟩:=a
       replace a:=a.eltS
       obtain ⟨k2,rfl,a⟩:=a
       replace a:=a.swf.eltP
       obtain ⟨r9,s0,rfl,a⟩:=a
       replace a:=a.eltB
       obtain ⟨rfl,a⟩:=a
       replace a:=a.eltS
       obtain ⟨k3,rfl,a⟩:=a
       refine rQ rfl (yCn (cs:=[.bool g2.1,k2.v,.bool g2.2.2.1,k3.v]) E4 rfl e0 cc5529) (qR 2 rfl ?_)
       obtain ⟨s1,b3⟩:=a.famI R1 d1
       refine rQ rfl (yIa w5 e0 e0 a rO0 b3) (rQ rfl (yF1 w6 e0 a rO0 b3 rfl) (qR 1 rfl (rQ rfl (yIa S3 e0 e0 a (rdF R1 b3 d1) g5) ?_)))
       obtain ⟨s2,s3,cc5536,a⟩:=a.ld (rdF R1 b3 d1) g5
       replace a:=a.eltP
       obtain ⟨s4,s5,rfl,a⟩:=a
       replace a:=a.eltB
       obtain ⟨rfl,a⟩:=a
       replace a:=a.eltP
       obtain ⟨s6,s7,rfl,a⟩:=a
       replace a:=a.eltS
       obtain ⟨k4,rfl,a⟩:=a
       replace a:=a.swf.eltP
       obtain ⟨s8,s9,rfl,a⟩:=a
       replace a:=a.eltB
       obtain ⟨rfl,a⟩:=a
       replace a:=a.eltS
       obtain ⟨k5,rfl,a⟩:=a
       refine rQ rfl (yCn (cs:=[.bool g4.1,k4.v,.bool g4.2.2.1,k5.v]) E4 rfl e0 cc5536) (Rn QSn (kT_ (Re j8 F5 F4 F6 F7 F3 F2 F1 F0 a) fun k6 k7 w a=>dU (D0 268435456 31 29 rfl (rQ rfl (yIs S3 e0 e0 a (rdF R3 G c8) g7) (Rn (qS rfl (qS rfl (sY rfl (yIa w5 e0 e0 a rO2 G) (sY rfl (yF1 w6 e0 a rO2 G rfl) (qS rfl QSn))))) ?_)))))
       replace a:=(a.fz.fz).k10
       refine LT wn (T7 (cs:=[.bool g6.1,k6.v,.bool g6.2.2.1,k7.v]) (a.foc G c8) E4 e0 e0 rfl (mkP mkB (mkP (mkS F1) (mkP mkB (mkS F0)))) g7) fun w a=>?_
       replace a:=a.unfoc' G j9
       refine Dw 0 0 (Rn QSn (qx 7 rfl ?_))
       cases c
       exact lo ((a.k2i).facts (Q0 F8 (Q0 F9 (N0 (N0 (N0 (N0 (N0 (N0 (N0 (N0 (N0 (N0 A1)))))))))))))
      ·refine q 2 rfl ?_
       cases c
       exact xo ((a.k2j).fc)
     ·refine q 2 rfl ?_
      cases c
      exact xo a
    refine cIn c (fun k8 c=>?_) fun k8 c=>?_
    ·exact q 1 rfl (jx (_,_,_,_,_) ⟨a,c⟩)
    ·refine q 1 rfl (bE c fun t0 g8 c=>bE c fun t1 g9 c=>bE c fun t2 d2 c=>bE c fun t3 h0 c=>dS [13,15] 2 E1 ?_)
     replace a:=a.drew
     refine D0 8191 0 13 rfl (qR 6 rfl ?_)
     obtain ⟨h1,d3⟩:=a.famI R1 g8
     refine rQ rfl (yIa w5 e0 e0 a rO0 d3) (rQ rfl (yF1 w6 e0 a rO0 d3 rfl) (qR 2 rfl ?_))
     obtain ⟨h3,d4⟩:=a.famI R1 g9
     refine rQ rfl (yIa w5 e0 e0 a rO0 d4) (rQ rfl (yF1 w6 e0 a rO0 d4 rfl) ?_)
     obtain ⟨t4,b4⟩:=Y8 (u:=h1) d2 (a.famL (mtR mhR))
     refine rQ rfl (yIs w5 e0 e0 a rO0 b4) (Rn QSn (LT wn (Q3 (cs:=[h1.v]) a w6 rfl e0 e0 rfl (mkF rfl) b4) fun w a=>D0 16384 12 15 rfl ?_))
     obtain ⟨t5,d5⟩:=Y8 (u:=h3) h0 (kf d2 b4 (a.famL (mtR mhR)))
     refine rQ rfl (yIs w5 e0 e0 a rO0 d5) (Rn (qS rfl (qS rfl QSn)) (LT wn (Q3 (cs:=[h3.v]) a w6 rfl e0 e0 rfl (mkF rfl) d5) fun w a=>?_))
     replace a:=(a.k10).fswap d3 g8 d4 g9 b4 d2 d5 h0
     refine Dw 0 0 (Rn QSn (qx 3 rfl (y (I2 [.bool C,p.v] P0 e0 a R5) (bE c fun h4 k9 c=>?_))))
     replace a:=(a.k1c).fz
     refine cO (w_m k9 F0 a) fun h5 w a=>q 1 rfl ?_
     replace a:=a.k1z
     exact yt (Z2 (vals':=[.bool h4.1,h5.v,.bool o,d.v]) (us:=[.bool h4.1,h5.v]) a P0 e0 e0 rfl rfl (B3 rfl) rfl) fun w a=>q 1 rfl (jx (_,_,_,_,_) ⟨((a.k2k).fc),c⟩)
  rintro b9 g w t6 a c
  refine q 5 rfl (y (C6 w5 e0 a rO0 R1) (bE c fun l0 r c=>q 2 rfl ?_))
  refine jW 9 [0,1,5,6,7,8,9,10] [(38,.bool l0)] (St w0 ros (row 149 rH f.v s::fam 146 (rP rB (rP (rS (rI .u32)) (rP rB (rS (rI .u32))))) s J::box k 146 [.bool false,hnil.v,.bool false,hnil.v]::row 107 (rI .u32) p.v K::row 107 (rI .u32) d.v z::box m 146 [.bool C,p.v,.bool o,d.v]::row 3 I1 i.v h::rs)) rfl (fun h6=>?_) ?_
  ·refine gI 29 r rfl (fun l1 r=>?_) fun l1 r=>?_
   ·refine q 2 rfl (bE r fun t7 d6 r=>?_)
    obtain ⟨t8,b6⟩:=a.famI R1 d6
    refine y (yIa w5 e0 e0 a rO0 b6) (y (yF1 w6 e0 a rO0 b6 rfl) (bE r fun h8 i0 r=>q 1 rfl (y (yIa S3 e0 e0 a (rdF R1 b6 d6) i0) ?_)))
    obtain ⟨t9,u0,cc5575,a⟩:=a.ld (rdF R1 b6 d6) i0
    replace a:=a.eltP
    obtain ⟨u1,u2,rfl,a⟩:=a
    replace a:=a.eltB
    obtain ⟨rfl,a⟩:=a
    replace a:=a.eltP
    obtain ⟨u3,u4,rfl,a⟩:=a
    replace a:=a.eltS
    obtain ⟨l2,rfl,a⟩:=a
    replace a:=a.swf.eltP
    obtain ⟨u5,u6,rfl,a⟩:=a
    replace a:=a.eltB
    obtain ⟨rfl,a⟩:=a
    replace a:=a.eltS
    obtain ⟨l3,rfl,a⟩:=a
    refine y (yCn (cs:=[.bool h8.1,l2.v,.bool h8.2.2.1,l3.v]) E4 rfl e0 cc5575) (bE r fun u7 l4 r=>cZ (zh l4 F1 F0 a) fun w a=>q 1 rfl ?_)
    cases r
    exact h6 _ _ (a.fc) rfl
   ·refine q 9 rfl ?_
    cases r
    exact h6 _ _ a rfl
  intro g w a
  refine q 2 rfl ?_
  refine cJ c (fun l5 c=>?_) fun l5 c=>?_
  ·refine q 9 rfl ?_
   cases c
   exact lo a
  ·refine q 2 rfl ?_
   cases c
   exact xo a
 ·refine q 2 rfl ?_
  cases c
  exact lx (_,_,_,_) a
instance:CL prog 119 (type_of% @Qe):=⟨@Qe⟩
theorem Ll {b:List (List (Bool×LI))} {d:Hdr} {out:Int} (c:m_i0 b=some out) (e:imm (rS (rP rB (rS (rI .u32)))) d.v b∈ros) (a:St w0 ros rs w):
  Calls prog 116 #[d.v] w (rv w0 ros rs (iV out)):=by
 refine en func116 rfl ntmps116 fun Q f=>bE c fun j g c=>q 8 rfl (cT_ (Ve g e a) fun k l w a=>bE c fun m h c=>q 1 rfl (cZ (Ue h e a) fun w a=>bE c fun n i c=>yC (W8 Wt (a2 e0 e0)) (Qe i a) ?_))
 rintro _ w ⟨o,p,r,s,rfl,a⟩
 refine ⟨_,rfl,?_⟩
 refine nf (q 3 rfl (yb (rAl a Za) fun t w a=>q 1 rfl (sB rfl a E4 fun w a=>q 5 rfl (y (Y2 V0 e0 a rO3) (q 4 rfl ?_)))))
 cases c
 exact za f results116 ⟨rfl,(a.k2l)⟩
instance:CL prog 116 (type_of% @Ll):=⟨@Ll⟩
theorem Kl {b:List (List (Bool×LI))} {d:Int} {e:Hdr} {out:Int} (c:m_i1 b d=some out) (f:imm (rS (rP rB (rS (rI .u32)))) e.v b∈ros) (a:St w0 ros rs w):
  Calls prog 56 #[e.v,iV d] w (rv w0 ros rs (iV out)):=by
 exact en func56 rfl ntmps56 fun Q g=>vx
instance:CL prog 56 (type_of% @Kl):=⟨@Kl⟩
theorem Jl {d8:List (List (Bool×LI))} {d9:Hdr} {out:(List (Bool×LI))} (c:m_i8 d8=some out) (e1:imm (rS (rP rB (rS (rI .u32)))) d9.v d8∈ros) (a:St w0 ros rs w):
  Calls prog 58 #[d9.v] w (ro w0 ros rs 62 (rP rB (rS (rI .u32))) out):=by
 refine en func58 rfl ntmps58 fun Q e2=>bE c fun l6 h4 c=>q 8 rfl (cZ (Ue h4 e1 a) fun w a=>bE c fun l7 h6 c=>q 6 rfl (cT_ (Ve h6 e1 a) fun x l8 w a=>bE c fun p h7 c=>q 7 rfl (yC (W8 Wt (a2 e0 e0)) (Qe h7 a) ?_)))
 rintro _ w ⟨b,e3,l9,m0,rfl,a⟩
 refine ⟨_,rfl,?_⟩
 refine nf (q 3 rfl (yb (rAl a Za) fun m1 w a=>q 1 rfl (sB rfl a E4 fun w a=>q 6 rfl (y (Y2 V0 e0 a rO3) (q 4 rfl (cI c (fun h8 c=>?_) fun h8 c=>?_))))))
 ·refine q 7 rfl ?_
  cases c
  replace a:=a.rowNh 62 (rP rB (rS (rI .u32)))
  exact e2 _ _ _ (V2 results58 ⟨rfl,rfl⟩ ⟨_,rfl,(a.k27)⟩)
 ·refine q 9 rfl (bE c fun e4 i0 c=>?_)
  refine lp i0 [3,4,5] (fun b7=>[(7,iV b7)]) (fun b7=>St w0 ros (row 149 rH x.v b::fam 146 (rP rB (rP (rS (rI .u32)) (rP rB (rS (rI .u32))))) b p.1::row 3 I1 e3.v p.2.1::rs)) (fun | e4=>(.exit 0,[(7,iV e4)],St w0 ros (row 149 rH x.v b::fam 146 (rP rB (rP (rS (rI .u32)) (rP rB (rS (rI .u32))))) b p.1::rs))) rfl (a.k2m) rfl ?_ ?_
  ·clear a
   intro g w a
   refine bE c fun e i1 c=>q 4 rfl (cO (w_f i1 a) fun f w a=>bE c fun h i2 c=>cO (w_f i2 a) fun i w a=>y (J9 (us:=[.bool e.1,f.v,.bool h.1,i.v]) [(0,.agg #[.bool e.1,f.v]),(1,.agg #[.bool h.1,i.v])] Ag (bp2 e0 e0) rfl) (yb (rAl a Za) fun N w a=>sB rfl a E4 fun w a=>bE c fun m2 i3 c=>q 5 rfl (yh (rMk a S3 e0 i3) fun o w a=>?_)))
   refine bE c fun e5 i4 c=>q 10 rfl ?_
   refine lp i4 [3,4,7,8,9] (fun (b8,b9)=>[(10,iV b9)]) (fun (b8,b9)=>St w0 ros (row 149 rH x.v b::fam 146 (rP rB (rP (rS (rI .u32)) (rP rB (rS (rI .u32))))) b p.1::row 107 (rI .u32) f.v e.2::row 107 (rI .u32) i.v h.2::box N 146 [.bool e.1,f.v,.bool h.1,i.v]::row 146 (rP rB (rP (rS (rI .u32)) (rP rB (rS (rI .u32))))) o.v b8::rs)) (fun | e5=>(.exit 2,[],St w0 ros (row 149 rH x.v b::fam 146 (rP rB (rP (rS (rI .u32)) (rP rB (rS (rI .u32))))) b p.1::row 107 (rI .u32) f.v e.2::row 107 (rI .u32) i.v h.2::box N 146 [.bool e.1,f.v,.bool h.1,i.v]::row 146 (rP rB (rP (rS (rI .u32)) (rP rB (rS (rI .u32))))) o.v e5::rs))) rfl (a.k2n) rfl ?_ ?_
   ·clear a
    intro g w a
    refine q 6 rfl (y (I2 [.bool e.1,f.v,.bool h.1,i.v] E4 e0 a R4) (bE c fun m3 e6 c=>y (yIs S3 e0 e0 a rO5 e6) ?_))
    replace a:=((((a.k16).fz).k16).fz).k1c
    refine yt (T7 (cs:=[.bool e.1,f.v,.bool h.1,i.v]) a E4 e0 e0 rfl (mkP mkB (mkP (mkS F1) (mkP mkB (mkS F0)))) e6) fun w a=>bE c fun B i5 c=>q 11 rfl ?_
    refine lp i5 [3,4,7,8,9] (fun (O,c0)=>[(11,iV c0)]) (fun (O,c0)=>St w0 (imm (rI .u32) f.v e.2::imm (rI .u32) i.v h.2::ros) (row 149 rH x.v b::fam 146 (rP rB (rP (rS (rI .u32)) (rP rB (rS (rI .u32))))) b p.1::box N 146 [.bool e.1,f.v,.bool h.1,i.v]::row 146 (rP rB (rP (rS (rI .u32)) (rP rB (rS (rI .u32))))) o.v O::rs)) (fun | B=>(.exit 4,[],St w0 ros (row 146 (rP rB (rP (rS (rI .u32)) (rP rB (rS (rI .u32))))) o.v B::rs))) rfl ((a.k2o).facts (Q0 F1 (Q0 F0 (N0 (N0 A1))))) rfl ?_ ?_
    ·clear a
     intro g w a
     refine bE c fun m4 i6 c=>q 4 rfl (cO (w_f i6 a) fun m5 w a=>yb (rAl a B4) fun R w a=>sB rfl a P0 fun w a=>q 9 rfl ?_)
     obtain ⟨⟨G,a0⟩,i7,c⟩:=bs c
     refine lpN Hdr Hdr i7 [3,9,14] (fun (C,a1,c1) t=>[(15,iV c1)]) (fun (C,a1,c1) t=>St w0 ros (row 146 (rP rB (rP (rS (rI .u32)) (rP rB (rS (rI .u32))))) o.v B::row 107 (rI .u32) t.v a1::box R 62 [.bool C,t.v]::rs)) (fun | (G,a0),u=>(.exit 8,[],St w0 ros (row 146 (rP rB (rP (rS (rI .u32)) (rP rB (rS (rI .u32))))) o.v B::row 107 (rI .u32) u.v a0::box R 62 [.bool G,u.v]::rs))) rfl _ (a.k18) rfl ?_ ?_
     ·clear a
      rintro u g w a
      refine bE c fun e7 i8 c=>q 14 rfl ?_
      replace a:=((a.k10).fz).rowNh 62 (rP rB (rS (rI .u32)))
      refine lpN Hdr Hdr i8 [3,9,14] (fun (a3,c2) S=>[(18,S.v),(19,iV c2)]) (fun (a3,c2) S=>St w0 (imm (rI .u32) u.v a0::ros) (row 146 (rP rB (rP (rS (rI .u32)) (rP rB (rS (rI .u32))))) o.v B::box R 62 [.bool G,u.v]::row 62 (rP rB (rS (rI .u32))) S.v a3::rs)) (fun | e7,c3=>(.exit 10,[(18,c3.v)],St w0 ros (row 62 (rP rB (rS (rI .u32))) c3.v e7::rs))) rfl _ (a.k1d) rfl ?_ ?_
      ·clear a
       rintro c3 g w a
       refine q 9 rfl ?_
       cases c
       exact e2 _ _ _ (V2 results58 ⟨rfl,rfl⟩ ⟨_,rfl,a⟩)
      rintro ⟨a3,c2⟩ S g w m6 a c
      refine q 8 rfl (cI c (fun i9 c=>?_) fun i9 c=>?_)
      ·refine q 5 rfl (bE c fun H c4 c=>bE c fun m7 e8 c=>bE c fun j I c=>bE c fun d c5 c=>?_)
       refine jN (Nat×Hdr) [3,9,14,18,19] (fun (a4,D)=>[(20,(pB a4))]) (fun (a4,D)=>St w0 (imm (rI .u32) u.v a0::ros) (row 146 (rP rB (rP (rS (rI .u32)) (rP rB (rS (rI .u32))))) o.v B::box R 62 [.bool G,u.v]::row 62 (rP rB (rS (rI .u32))) S.v a3::row 107 (rI .u32) D.v d.2.1::box a4 62 [.bool d.1,D.v]::rs)) rfl ?_ ?_
       ·refine dS [6,12,16,17,18] 5 E1 ?_
        replace a:=a.drew
        refine Dm 4031 0 [6,16] (qR 2 rfl (rQ rfl (yIa S3 e0 e0 a rO0 c4) (rQ rfl (yFe Ge e0) ?_)))
        replace a:=a.pin0
        obtain ⟨m8,a⟩:=a.pinO c4
        obtain ⟨m9,n0,rfl,a⟩:=a.eltP
        obtain ⟨rfl,a⟩:=a.eltB
        obtain ⟨n1,n2,rfl,a⟩:=a.eltP
        obtain ⟨a5,rfl,a⟩:=a.eltS
        replace a:=a.swf
        obtain ⟨n3,n4,rfl,a⟩:=a.eltP
        obtain ⟨rfl,a⟩:=a.eltB
        obtain ⟨e9,rfl,a⟩:=a.eltS
        refine rQ rfl (U5 (cs:=[.bool H.1,a5.v,.bool H.2.2.1,e9.v]) (us:=[.bool H.1,a5.v]) P0 e0 (a.cAtP R0 mhP) rfl rfl) (rQ rfl (I2 [.bool G,u.v] P0 e0 a R1) (qR 2 rfl (rQ rfl (yIa S3 e0 e0 a (G8 R0) I) (rQ rfl (yFe y7 e0) ?_))))
        obtain ⟨n5,a⟩:=a.pinO I
        obtain ⟨n6,n7,rfl,a⟩:=a.eltP
        obtain ⟨rfl,a⟩:=a.eltB
        obtain ⟨n8,n9,rfl,a⟩:=a.eltP
        obtain ⟨T,rfl,a⟩:=a.eltS
        replace a:=a.swf
        obtain ⟨o0,o1,rfl,a⟩:=a.eltP
        obtain ⟨rfl,a⟩:=a.eltB
        obtain ⟨r,rfl,a⟩:=a.eltS
        refine rQ rfl (U5 (cs:=[.bool j.1,T.v,.bool j.2.2.1,r.v]) (us:=[.bool j.2.2.1,r.v]) P0 e0 (a.cAtP R0 mhP) rfl rfl) (Rn QSn ?_)
        refine La1 rfl ?_ (La1 rfl ?_ LAn)
        ·refine kO (ga e8 F3 F4 a) fun j0 w a=>dU (Dm 0 3968 [12,16] (Rn (qS rfl (qS rfl (sY rfl (yIa S3 e0 e0 a (G8 R1) I) (sY rfl (yFe y7 e0) (sY rfl (U5 (cs:=[.bool j.1,T.v,.bool j.2.2.1,r.v]) (us:=[.bool j.2.2.1,r.v]) P0 e0 (a.cAtP R1 mhP) rfl rfl) QSn))))) ?_))
         refine La1 rfl ?_ (La1 rfl ?_ LAn)
         ·replace a:=a.fz
          refine kO (Oa c5 F0 F1 a) fun z w a=>dU (D1 57344 0 16 rfl (qR 3 rfl (Rn QSn (LB wn (rAl a B4) fun f0 w a=>dU (D0 0 57344 17 rfl (Rn (qS rfl (qS rfl (qS rfl QSn))) (LT wn (Z2 (vals':=[.bool d.1,z.v]) (us:=[.bool d.1,z.v]) a P0 e0 e0 rfl rfl (B3 rfl) rfl) fun w a=>D1 0 32768 18 rfl (Rn (qS rfl QSn) ?_))))))))
          refine Ly wn (a_ (.bool d.2.2) e0) (dU (Dw 0 0 (Rn QSn ?_)))
          replace a:=(a.k16).unpin
          exact jr (_,_) ((a.k2p).facts (Q0 F5 (N0 (N0 (N0 (N0 (N0 (N0 A1))))))))
         ·refine LB wn (rAl a B4) fun f0 w a=>dU (D1 0 3968 12 rfl (Rn (qS rfl (qS rfl (sY rfl (yIa S3 e0 e0 a (G8 R2) I) (sY rfl (yFe y7 e0) (sY rfl (U5 (cs:=[.bool j.1,T.v,.bool j.2.2.1,r.v]) (us:=[.bool j.2.2.1,r.v]) P0 e0 (a.cAtP R2 mhP) rfl rfl) QSn))))) ?_))
          replace a:=(a.k10).fz
          refine kO (Oa c5 F0 F1 a) fun z w a=>dU (D0 57344 0 17 rfl (qR 3 rfl (Rn QSn ?_)))
          replace a:=a.k10
          refine LT wn (Z2 (vals':=[.bool d.1,z.v]) (us:=[.bool d.1,z.v]) a P0 e0 e0 rfl rfl (B3 rfl) rfl) fun w a=>D1 0 32768 18 rfl (Rn (qS rfl QSn) (Ly wn (a_ (.bool d.2.2) e0) (dU (Dw 0 0 (Rn QSn ?_)))))
          replace a:=(a.k16).unpin
          exact jr (_,_) ((a.k2p).facts (Q0 F5 (N0 (N0 (N0 (N0 (N0 (N0 A1))))))))
        ·refine LB wn (rAl a B4) fun f0 w a=>dU (D1 0 4031 6 rfl (Rn (qS rfl (qS rfl (sY rfl (yIa S3 e0 e0 a (G8 R1) c4) (sY rfl (yFe Ge e0) (sY rfl (U5 (cs:=[.bool H.1,a5.v,.bool H.2.2.1,e9.v]) (us:=[.bool H.1,a5.v]) P0 e0 (a.cAtP R1 (mtP mhP)) rfl rfl) (sY rfl (I2 [.bool G,u.v] P0 e0 a R2) (qS rfl (qS rfl (sY rfl (yIa S3 e0 e0 a (G8 R1) I) (sY rfl (yFe y7 e0) (sY rfl (U5 (cs:=[.bool j.1,T.v,.bool j.2.2.1,r.v]) (us:=[.bool j.2.2.1,r.v]) P0 e0 (a.cAtP R1 mhP) rfl rfl) QSn))))))))))) (kO (ga e8 F3 F4 a) fun j0 w a=>dU (D1 0 3968 12 rfl (Rn (qS rfl (qS rfl (sY rfl (yIa S3 e0 e0 a (G8 R2) I) (sY rfl (yFe y7 e0) (sY rfl (U5 (cs:=[.bool j.1,T.v,.bool j.2.2.1,r.v]) (us:=[.bool j.2.2.1,r.v]) P0 e0 (a.cAtP R2 mhP) rfl rfl) QSn))))) ?_)))))
         replace a:=a.fz
         refine kO (Oa c5 F0 F1 a) fun z w a=>dU (D0 57344 0 17 rfl (qR 3 rfl (Rn QSn ?_)))
         replace a:=a.k10
         refine LT wn (Z2 (vals':=[.bool d.1,z.v]) (us:=[.bool d.1,z.v]) a P0 e0 e0 rfl rfl (B3 rfl) rfl) fun w a=>D1 0 32768 18 rfl (Rn (qS rfl QSn) (Ly wn (a_ (.bool d.2.2) e0) (dU (Dw 0 0 (Rn QSn ?_)))))
         replace a:=(a.k16).unpin
         exact jr (_,_) ((a.k2p).facts (Q0 F5 (N0 (N0 (N0 (N0 (N0 (N0 A1))))))))
       rintro ⟨a4,D⟩ g w a
       refine q 3 rfl (y (I2 [.bool d.1,D.v] P0 e0 a R4) ?_)
       replace a:=(a.k1c).fz
       refine yh (rLt (n:=1) (l:=[(d.1,d.2.1)]) a Q2 [.agg #[.bool d.1,D.v]] (bp1 e0) rfl rfl (N1 (cs:=[.bool d.1,D.v]) rfl (mkP mkB (mkS F0)) X1)) fun o2 w a=>bE c fun o3 j1 c=>?_
       replace a:=a.k1c
       refine yh (rAp a Q2 e0 e0 rO1 j1) fun o4 w a=>q 9 rfl ?_
       cases c
       exact ln _ ((a.k2q).facts (Q0 F1 (N0 (N0 A1))))
      ·refine q 2 rfl ?_
       cases c
       exact lx _ ((a.k2r).fc)
     rintro ⟨C,a1,c1⟩ t g w o5 a c
     refine q 8 rfl (cI c (fun j2 c=>?_) fun j2 c=>?_)
     ·refine q 5 rfl (bE c fun k J c=>bE c fun K c6 c=>bE c fun o6 f1 c=>bE c fun m c7 c=>?_)
      refine jN (Nat×Hdr) [3,9,14,15] (fun (a6,U)=>[(16,(pB a6))]) (fun (a6,U)=>St w0 (imm (rI .u32) t.v a1::ros) (row 146 (rP rB (rP (rS (rI .u32)) (rP rB (rS (rI .u32))))) o.v B::box R 62 [.bool C,t.v]::row 107 (rI .u32) U.v m.2.1::box a6 62 [.bool m.1,U.v]::rs)) rfl ?_ ?_
      ·refine dS [11,12,16,17,18] 5 E1 ?_
       replace a:=a.drew
       refine Dm 2047 0 [11,16] (qR 2 rfl (rQ rfl (yIa S3 e0 e0 a rO0 J) (rQ rfl (yFe y7 e0) ?_)))
       replace a:=a.pin0
       obtain ⟨o7,a⟩:=a.pinO J
       obtain ⟨o8,o9,rfl,a⟩:=a.eltP
       obtain ⟨rfl,a⟩:=a.eltB
       obtain ⟨p0,p1,rfl,a⟩:=a.eltP
       obtain ⟨V,rfl,a⟩:=a.eltS
       replace a:=a.swf
       obtain ⟨p2,p3,rfl,a⟩:=a.eltP
       obtain ⟨rfl,a⟩:=a.eltB
       obtain ⟨s,rfl,a⟩:=a.eltS
       refine rQ rfl (U5 (cs:=[.bool k.1,V.v,.bool k.2.2.1,s.v]) (us:=[.bool k.2.2.1,s.v]) P0 e0 (a.cAtP R0 mhP) rfl rfl) (rQ rfl (I2 [.bool C,t.v] P0 e0 a R2) (qR 2 rfl (rQ rfl (yIa S3 e0 e0 a (G8 R0) c6) (rQ rfl (yFe y7 e0) ?_))))
       obtain ⟨p4,a⟩:=a.pinO c6
       obtain ⟨p5,p6,rfl,a⟩:=a.eltP
       obtain ⟨rfl,a⟩:=a.eltB
       obtain ⟨p7,p8,rfl,a⟩:=a.eltP
       obtain ⟨f2,rfl,a⟩:=a.eltS
       replace a:=a.swf
       obtain ⟨p9,q0,rfl,a⟩:=a.eltP
       obtain ⟨rfl,a⟩:=a.eltB
       obtain ⟨a7,rfl,a⟩:=a.eltS
       refine rQ rfl (U5 (cs:=[.bool K.1,f2.v,.bool K.2.2.1,a7.v]) (us:=[.bool K.2.2.1,a7.v]) P0 e0 (a.cAtP R0 mhP) rfl rfl) (Rn QSn ?_)
       refine La1 rfl ?_ (La1 rfl ?_ LAn)
       ·replace a:=a.k10
        replace a:=a.fz
        refine kO (Te f1 F0 F1 a) fun j3 w a=>dU (Dm 0 31 [12,16] (Rn (qS rfl (qS rfl (sY rfl (yIa S3 e0 e0 a (G8 R0) J) (sY rfl (yFe y7 e0) (sY rfl (U5 (cs:=[.bool k.1,V.v,.bool k.2.2.1,s.v]) (us:=[.bool k.2.2.1,s.v]) P0 e0 (a.cAtP R0 (mtP mhP)) rfl rfl) QSn))))) ?_))
        refine La1 rfl ?_ (La1 rfl ?_ LAn)
        ·refine kO (Oa c7 F4 F0 a) fun A w a=>dU (D1 57344 0 16 rfl (qR 3 rfl (Rn QSn (LB wn (rAl a B4) fun f3 w a=>dU (D0 0 57344 17 rfl (Rn (qS rfl (qS rfl (qS rfl QSn))) (LT wn (Z2 (vals':=[.bool m.1,A.v]) (us:=[.bool m.1,A.v]) a P0 e0 e0 rfl rfl (B3 rfl) rfl) fun w a=>D1 0 32768 18 rfl (Rn (qS rfl QSn) ?_))))))))
         refine Ly wn (a_ (.bool m.2.2) e0) (dU (Dw 0 0 (Rn QSn ?_)))
         replace a:=(a.k16).unpin
         exact jr (_,_) ((a.k2s).facts (Q0 F1 (N0 (N0 (N0 (N0 (N0 (N0 A1))))))))
        ·refine LB wn (rAl a B4) fun f3 w a=>dU (D1 0 31 12 rfl (Rn (qS rfl (qS rfl (sY rfl (yIa S3 e0 e0 a (G8 R1) J) (sY rfl (yFe y7 e0) (sY rfl (U5 (cs:=[.bool k.1,V.v,.bool k.2.2.1,s.v]) (us:=[.bool k.2.2.1,s.v]) P0 e0 (a.cAtP R1 (mtP mhP)) rfl rfl) QSn))))) (kO (Oa c7 F4 F0 a) fun A w a=>dU (D0 57344 0 17 rfl (qR 3 rfl (Rn QSn ?_))))))
         replace a:=a.k10
         refine LT wn (Z2 (vals':=[.bool m.1,A.v]) (us:=[.bool m.1,A.v]) a P0 e0 e0 rfl rfl (B3 rfl) rfl) fun w a=>D1 0 32768 18 rfl (Rn (qS rfl QSn) (Ly wn (a_ (.bool m.2.2) e0) (dU (Dw 0 0 (Rn QSn ?_)))))
         replace a:=(a.k16).unpin
         exact jr (_,_) ((a.k2s).facts (Q0 F1 (N0 (N0 (N0 (N0 (N0 (N0 A1))))))))
       ·refine LB wn (rAl a B4) fun f3 w a=>dU (D1 0 2047 11 rfl (Rn (qS rfl (qS rfl (sY rfl (yIa S3 e0 e0 a (G8 R1) J) (sY rfl (yFe y7 e0) (sY rfl (U5 (cs:=[.bool k.1,V.v,.bool k.2.2.1,s.v]) (us:=[.bool k.2.2.1,s.v]) P0 e0 (a.cAtP R1 (mtP mhP)) rfl rfl) (sY rfl (I2 [.bool C,t.v] P0 e0 a R3) (qS rfl (qS rfl (sY rfl (yIa S3 e0 e0 a (G8 R1) c6) (sY rfl (yFe y7 e0) (sY rfl (U5 (cs:=[.bool K.1,f2.v,.bool K.2.2.1,a7.v]) (us:=[.bool K.2.2.1,a7.v]) P0 e0 (a.cAtP R1 mhP) rfl rfl) QSn))))))))))) ?_))
        replace a:=(a.k16).fz
        refine kO (Te f1 F0 F1 a) fun j3 w a=>dU (D1 0 31 12 rfl (Rn (qS rfl (qS rfl (sY rfl (yIa S3 e0 e0 a (G8 R1) J) (sY rfl (yFe y7 e0) (sY rfl (U5 (cs:=[.bool k.1,V.v,.bool k.2.2.1,s.v]) (us:=[.bool k.2.2.1,s.v]) P0 e0 (a.cAtP R1 (mtP mhP)) rfl rfl) QSn))))) (kO (Oa c7 F4 F0 a) fun A w a=>dU (D0 57344 0 17 rfl (qR 3 rfl (Rn QSn ?_))))))
        replace a:=a.k10
        refine LT wn (Z2 (vals':=[.bool m.1,A.v]) (us:=[.bool m.1,A.v]) a P0 e0 e0 rfl rfl (B3 rfl) rfl) fun w a=>D1 0 32768 18 rfl (Rn (qS rfl QSn) (Ly wn (a_ (.bool m.2.2) e0) (dU (Dw 0 0 (Rn QSn ?_)))))
        replace a:=(a.k16).unpin
        exact jr (_,_) ((a.k2s).facts (Q0 F1 (N0 (N0 (N0 (N0 (N0 (N0 A1))))))))
      rintro ⟨a6,U⟩ g w a
      refine q 2 rfl (y (I2 [.bool C,t.v] P0 e0 a R1) (y (I2 [.bool m.1,U.v] P0 e0 a R3) (bE c fun q2 j4 c=>?_)))
      replace a:=(a.k16).fz
      refine cO (ga j4 F1 F0 a) fun q3 w a=>?_
      replace a:=a.k16
      refine sB rfl a P0 fun w a=>q 8 rfl ?_
      cases c
      exact ln _ ((a.k2t).fc)
     ·refine q 2 rfl ?_
      cases c
      exact lx _ a
    rintro ⟨O,c0⟩ g w q4 a c
    refine q 7 rfl (cI c (fun j5 c=>?_) fun j5 c=>?_)
    ·refine q 8 rfl (bE c fun f4 f5 c=>y (yIa S3 e0 e0 a rO3 f5) ?_)
     obtain ⟨q5,q6,cc555,a⟩:=a.ld rO3 f5
     replace a:=a.eltP
     obtain ⟨q7,q8,rfl,a⟩:=a
     replace a:=a.eltB
     obtain ⟨rfl,a⟩:=a
     replace a:=a.eltP
     obtain ⟨q9,r0,rfl,a⟩:=a
     replace a:=a.eltS
     obtain ⟨j6,rfl,a⟩:=a
     replace a:=a.swf.eltP
     obtain ⟨r1,r2,rfl,a⟩:=a
     replace a:=a.eltB
     obtain ⟨rfl,a⟩:=a
     replace a:=a.eltS
     obtain ⟨j7,rfl,a⟩:=a
     refine y (yCn (cs:=[.bool f4.1,j6.v,.bool f4.2.2.1,j7.v]) E4 rfl e0 cc555) (yb (rAl a Za) fun f6 w a=>sB rfl a E4 fun w a=>q 11 rfl ?_)
     obtain ⟨⟨c8,f7,a8,f8⟩,j8,c⟩:=bs c
     refine lpN (Hdr×Hdr) (Hdr×Hdr) j8 [3,4,7,8,9,11,12] (fun (a9,c9,b0,d0,d1) (W,X)=>[(13,iV d1)]) (fun (a9,c9,b0,d0,d1) (W,X)=>St w0 (imm (rI .u32) f.v e.2::imm (rI .u32) i.v h.2::imm (rI .u32) W.v c9::imm (rI .u32) X.v d0::ros) (row 149 rH x.v b::fam 146 (rP rB (rP (rS (rI .u32)) (rP rB (rS (rI .u32))))) b p.1::box N 146 [.bool e.1,f.v,.bool h.1,i.v]::row 146 (rP rB (rP (rS (rI .u32)) (rP rB (rS (rI .u32))))) o.v O::box f6 146 [.bool a9,W.v,.bool b0,X.v]::rs)) (fun | (c8,f7,a8,f8),(b1,Z)=>(.exit 6,[],St w0 (imm (rI .u32) f.v e.2::imm (rI .u32) i.v h.2::imm (rI .u32) b1.v f7::imm (rI .u32) Z.v f8::ros) (row 149 rH x.v b::fam 146 (rP rB (rP (rS (rI .u32)) (rP rB (rS (rI .u32))))) b p.1::box N 146 [.bool e.1,f.v,.bool h.1,i.v]::row 146 (rP rB (rP (rS (rI .u32)) (rP rB (rS (rI .u32))))) o.v O::box f6 146 [.bool c8,b1.v,.bool a8,Z.v]::rs))) rfl (_,_) ((a.k1u).facts (Q0 F2 (Q0 F3 (Q0 F1 (Q0 F0 (N0 (N0 (N0 (N0 A1))))))))) rfl ?_ ?_
     ·clear a
      rintro ⟨b1,Z⟩ g w a
      refine bE c fun r5 d2 c=>bE c fun d3 f9 c=>bE c fun r6 j9 c=>bE c fun r8 b2 c=>bE c fun L d4 c=>bE c fun r9 k0 c=>bE c fun g0 k1 c=>bE c fun s0 g1 c=>q 2 rfl (dS [12,23,24,26] 4 E1 ?_)
      replace a:=a.drew
      refine D1 8384511 0 12 rfl (qR 3 rfl (rQ rfl (I2 [.bool c8,b1.v] P0 e0 a R4) (qR 2 rfl ?_)))
      obtain ⟨s1,b3⟩:=a.famI R1 d2
      refine rQ rfl (yIa w5 e0 e0 a rO0 b3) (rQ rfl (yF1 w6 e0 a rO0 b3 rfl) (qR 1 rfl (rQ rfl (yIa S3 e0 e0 a (rdF R1 b3 d2) f9) (rQ rfl (yFe y7 e0) ?_))))
      obtain ⟨s2,s3,cc653,a⟩:=a.ld (rdF R1 b3 d2) f9
      replace a:=a.eltP
      obtain ⟨s4,s5,rfl,a⟩:=a
      replace a:=a.eltB
      obtain ⟨rfl,a⟩:=a
      replace a:=a.eltP
      obtain ⟨s6,s7,rfl,a⟩:=a
      replace a:=a.eltS
      obtain ⟨k2,rfl,a⟩:=a
      replace a:=a.swf.eltP
      obtain ⟨s8,s9,rfl,a⟩:=a
      replace a:=a.eltB
      obtain ⟨rfl,a⟩:=a
      replace a:=a.eltS
      obtain ⟨g2,rfl,a⟩:=a
      refine rQ rfl (U5 (cs:=[.bool d3.1,k2.v,.bool d3.2.2.1,g2.v]) (us:=[.bool d3.2.2.1,g2.v]) P0 e0 cc653 rfl rfl) (qR 1 rfl (rQ rfl (I2 [.bool a8,Z.v] P0 e0 a R4) (qR 2 rfl ?_)))
      obtain ⟨t0,E⟩:=a.famI R1 b2
      refine rQ rfl (yIa w5 e0 e0 a rO0 E) (rQ rfl (yF1 w6 e0 a rO0 E rfl) (qR 1 rfl (rQ rfl (yIa S3 e0 e0 a (rdF R1 E b2) d4) (rQ rfl (yFe Ge e0) ?_))))
      replace a:=(a.k10).pin0
      obtain ⟨t1,a⟩:=St.pinF E b2 a d4
      obtain ⟨t2,t3,rfl,a⟩:=a.eltP
      obtain ⟨rfl,a⟩:=a.eltB
      obtain ⟨t4,t5,rfl,a⟩:=a.eltP
      obtain ⟨b4,rfl,a⟩:=a.eltS
      replace a:=a.swf
      obtain ⟨t6,t7,rfl,a⟩:=a.eltP
      obtain ⟨rfl,a⟩:=a.eltB
      obtain ⟨g3,rfl,a⟩:=a.eltS
      refine rQ rfl (U5 (cs:=[.bool L.1,b4.v,.bool L.2.2.1,g3.v]) (us:=[.bool L.1,b4.v]) P0 e0 (a.cAtP R0 mhP) rfl rfl) (Rn QSn (kO (ga j9 F6 F2 a) fun t8 w a=>dU (D1 0 8380419 23 rfl (Rn (qS rfl (qS rfl (qS rfl (sY rfl (I2 [.bool a8,Z.v] P0 e0 a R5) (qS rfl (qS rfl (sY rfl (yIa w5 e0 e0 a rO2 E) (sY rfl (yF1 w6 e0 a rO2 E rfl) (qS rfl (sY rfl (yIa S3 e0 e0 a (Zp R1 E b2) d4) (sY rfl (yFe Ge e0) (sY rfl (U5 (cs:=[.bool L.1,b4.v,.bool L.2.2.1,g3.v]) (us:=[.bool L.1,b4.v]) P0 e0 (a.cAtP R1 mhP) rfl rfl) QSn)))))))))))) (kO (ga k0 F7 F1 a) fun t9 w a=>dU (D1 0 3 24 rfl (Rn (qS rfl (qS rfl QSn)) ?_)))))))
      replace a:=((a.k10).fz).fz
      refine kT_ (Se k1 F1 F0 a) fun k3 k4 w a=>dU (D0 33554432 3 26 rfl (rQ rfl (yIs S3 e0 e0 a rO5 g1) (Rn (qS rfl (qS rfl QSn)) ?_)))
      replace a:=(a.fz.fz).k1c
      refine LT wn (T7 (cs:=[.bool g0.1,k3.v,.bool g0.2.2.1,k4.v]) a E4 e0 e0 rfl (mkP mkB (mkP (mkS F1) (mkP mkB (mkS F0)))) g1) fun w a=>Dw 0 0 (Rn QSn ?_)
      replace a:=(a.k10).unpin
      refine qx 7 rfl ?_
      cases c
      exact lo ((a.k2u).facts (Q0 F8 (Q0 F9 (N0 (N0 (N0 (N0 (N0 (N0 (N0 (N0 (N0 (N0 (N0 (N0 A1)))))))))))))))
     rintro ⟨a9,c9,b0,d0,d1⟩ ⟨W,X⟩ g w u0 a c
     refine q 8 rfl (cI c (fun k5 c=>?_) fun k5 c=>?_)
     ·refine q 4 rfl (bE c fun u1 d5 c=>bE c fun g4 g5 c=>bE c fun g6 g7 c=>bE c fun b5 k6 c=>dS [13,14] 2 E1 ?_)
      replace a:=a.drew
      refine D1 8191 0 13 rfl (rQ rfl (I2 [.bool a9,W.v,.bool b0,X.v] E4 e0 a R4) (qR 2 rfl ?_))
      obtain ⟨u2,b6⟩:=a.famI R1 d5
      refine rQ rfl (yIa w5 e0 e0 a rO0 b6) (rQ rfl (yF1 w6 e0 a rO0 b6 rfl) (qR 1 rfl (rQ rfl (yIa S3 e0 e0 a (rdF R1 b6 d5) g5) ?_)))
      obtain ⟨u3,u4,cc679,a⟩:=a.ld (rdF R1 b6 d5) g5
      replace a:=a.eltP
      obtain ⟨u5,u6,rfl,a⟩:=a
      replace a:=a.eltB
      obtain ⟨rfl,a⟩:=a
      replace a:=a.eltP
      obtain ⟨u7,u8,rfl,a⟩:=a
      replace a:=a.eltS
      obtain ⟨k7,rfl,a⟩:=a
      replace a:=a.swf.eltP
      obtain ⟨u9,v0,rfl,a⟩:=a
      replace a:=a.eltB
      obtain ⟨rfl,a⟩:=a
      replace a:=a.eltS
      obtain ⟨k8,rfl,a⟩:=a
      refine rQ rfl (yCn (cs:=[.bool g4.1,k7.v,.bool g4.2.2.1,k8.v]) E4 rfl e0 cc679) (qR 2 rfl (rQ rfl (yIa S3 e0 e0 a rO3 g7) ?_))
      obtain ⟨v1,v2,cc686,a⟩:=a.ld rO3 g7
      replace a:=a.eltP
      obtain ⟨v3,v4,rfl,a⟩:=a
      replace a:=a.eltB
      obtain ⟨rfl,a⟩:=a
      replace a:=a.eltP
      obtain ⟨v5,v6,rfl,a⟩:=a
      replace a:=a.eltS
      obtain ⟨k9,rfl,a⟩:=a
      replace a:=a.swf.eltP
      obtain ⟨v7,v8,rfl,a⟩:=a
      replace a:=a.eltB
      obtain ⟨rfl,a⟩:=a
      replace a:=a.eltS
      obtain ⟨l0,rfl,a⟩:=a
      refine rQ rfl (yCn (cs:=[.bool g6.1,k9.v,.bool g6.2.2.1,l0.v]) E4 rfl e0 cc686) (rQ rfl (I2 [.bool e.1,f.v,.bool h.1,i.v] E4 e0 a R2) (Rn QSn (kT_ (Re k6 F6 F7 F3 F2 F1 F0 F4 F5 a) fun g8 g9 w a=>dU (D0 0 0 14 rfl (Rn QSn ?_)))))
      replace a:=a.k1i
      refine LT wn (Z2 (vals':=[.bool b5.1,g8.v,.bool b5.2.2.1,g9.v]) (us:=[.bool b5.1,g8.v,.bool b5.2.2.1,g9.v]) a E4 e0 e0 rfl rfl (B3 rfl) rfl) fun w a=>Dw 0 0 (Rn QSn (qx 7 rfl ?_))
      replace a:=(((a.k10).fz).k10).fz
      cases c
      exact ln (_,_) ((a.k1u).facts (Q0 F6 (Q0 F7 (Q0 F1 (Q0 F0 (N0 (N0 (N0 (N0 (N0 (N0 (N0 (N0 (N0 (N0 A1)))))))))))))))
     ·refine q 2 rfl ?_
      cases c
      exact lx (_,_) a
    ·refine q 2 rfl ?_
     cases c
     exact xo ((a.k1x).fc)
   rintro ⟨b8,b9⟩ g w v9 a c
   refine q 8 rfl (cI c (fun l1 c=>?_) fun l1 c=>?_)
   ·refine q 7 rfl (y (J9 (us:=[.bool false,hnil.v]) [] Qs bp0 rfl) (bE c fun d6 l2 c=>cO (w_f l2 a) fun d7 w a=>y (J9 (us:=[.bool false,hnil.v,.bool d6.1,d7.v]) [(0,.agg #[.bool false,hnil.v]),(1,.agg #[.bool d6.1,d7.v])] Ag (bp2 e0 e0) rfl) (bE c fun w1 h0 c=>y (yIs S3 e0 e0 a rO6 h0) ?_)))
    replace a:=a.fz.k1z
    refine yt (T7 (cs:=[.bool false,hnil.v,.bool d6.1,d7.v]) a E4 e0 e0 rfl (mkP mkB (mkP Nq (mkP mkB (mkS F0)))) h0) fun w a=>q 8 rfl ?_
    cases c
    exact lo ((a.k2v).fc)
   ·refine q 2 rfl ?_
    cases c
    exact xo a
  rintro b7 g w w2 a c
  refine q 5 rfl (y (Y2 V0 e0 a rO2) (bE c fun l3 F c=>q 2 rfl ?_))
  refine jW 7 [3,4,5,7] [(47,.bool l3)] (St w0 ros (row 149 rH x.v b::fam 146 (rP rB (rP (rS (rI .u32)) (rP rB (rS (rI .u32))))) b p.1::row 3 I1 e3.v p.2.1::rs)) rfl (fun h1=>?_) ?_
  ·refine gI 40 F rfl (fun l4 F=>?_) fun l4 F=>?_
   ·refine q 2 rfl (bE F fun w3 h3 F=>y (yIa V0 e0 e0 a rO2 h3) (y (yI O_3 e0 a rO2 h3) (q 3 rfl ?_)))
    cases F
    exact h1 _ _ a rfl
   ·refine q 7 rfl ?_
    cases F
    exact h1 _ _ a rfl
  intro g w a
  refine q 2 rfl ?_
  refine cJ c (fun l5 c=>?_) fun l5 c=>?_
  ·refine q 9 rfl ?_
   cases c
   exact lo a
  ·refine q 2 rfl ?_
   cases c
   exact xo (a.k1r)
instance:CL prog 58 (type_of% @Jl):=⟨@Jl⟩
theorem vh {A:List (List (Bool×LI))} {B:Int} {C:Hdr} {out:(List (List (Bool×LI)))} (c:m_jd A B=some out) (a8:imm (rS (rP rB (rS (rI .u32)))) C.v A∈ros) (a:St w0 ros rs w):
  Calls prog 21 #[C.v,iV B] w (fun e w=>∃ (D:Hdr),e=.returned (D.v)∧St w0 ros (row 56 (rS (rP rB (rS (rI .u32)))) D.v out::rs) w):=by
 refine en func21 rfl ntmps21 fun Q T=>bE c fun E U c=>q 22 rfl ?_
 replace a:=(a.rowNh 56 (rS (rP rB (rS (rI .u32))))).immNh I1
 refine lpN (Hdr×Hdr) Hdr U [0,1] (fun (d,f,h) (i,j)=>[(5,i.v),(6,j.v),(7,iV h)]) (fun (d,f,h) (i,j)=>St w0 (imm I1 j.v f::ros) (row 56 (rS (rP rB (rS (rI .u32)))) i.v d::rs)) (fun | E,t=>(.exit 0,[(5,t.v)],St w0 ros (row 56 (rS (rP rB (rS (rI .u32)))) t.v E::rs))) rfl (_,_) a rfl ?_ ?_
 ·clear a
  rintro t g w a
  refine q 9 rfl ?_
  cases c
  exact T _ _ _ (V2 results21 ⟨rfl,rfl⟩ ⟨_,rfl,a⟩)
 rintro ⟨d,f,h⟩ ⟨i,j⟩ g w F a c
 refine q 8 rfl (cI c (fun V c=>?_) fun V c=>?_)
 ·refine q 3 rfl ?_
  refine jC ((List (List (Bool×LI)))×LI×Hdr×Hdr) [0,1,7] (fun (o,p,r,s)=>[(5,r.v),(6,s.v)]) (fun (o,p,r,s) w=>St w0 (imm I1 s.v p::ros) (row 56 (rS (rP rB (rS (rI .u32)))) r.v o::rs) w∧m_i9 h o p=some F) rfl ?_ ?_
  ·rintro ⟨o,p,r,s⟩ g w ⟨a,c⟩
   refine q 6 rfl ?_
   cases c
   exact ln (_,_) a
  refine q 3 rfl (yh (rLt (n:=0) (l:=[]) a V0 [] bp0 rfl rfl X1) fun a9 w a=>?_)
  refine z 1 1 ?_;intro b0 b1 c b2 w a
  refine yh (rLt (n:=1) (l:=[h]) a V0 [iV h] (bp1 e0) rfl rfl (N1 (cs:=[iV h]) rfl mkI X1)) fun b3 w a=>?_
  refine z 2 2 ?_;intro G b4 c H w a
  refine bE c fun W b c=>?_
  refine jW 10 [0,1,5,6,7,8] [(36,.bool W)] (St w0 (imm I1 j.v f::imm I1 H.v G::ros) (row 56 (rS (rP rB (rS (rI .u32)))) i.v d::rs)) rfl (fun I=>?_) ?_
  ·refine gI 26 b rfl (fun X b=>?_) fun X b=>?_
   ·refine q 2 rfl (bE b fun b5 b6 b=>?_)
    refine z 2 0 ?_;intro b7 w a
    refine bE b fun b8 b9 b=>?_
    refine z 2 2 ?_;intro w a
    cases b
    exact I _ _ ((a.k12).facts (Q0 F2 (Q0 F1 (N0 (N0 (N0 A1)))))) rfl
   ·refine q 10 rfl ?_
    cases b
    replace a:=a.fz
    exact I _ _ ((a.k12).facts (Q0 F1 (Q0 F0 (N0 (N0 A1))))) rfl
  intro g w a
  refine q 2 rfl ?_
  refine cJ c (fun Z c=>?_) fun Z c=>?_
  ·exact q 9 rfl (jx (_,_,_,_) ⟨(a.facts (Q0 F1 (N0 (N0 A1)))),c⟩)
  ·refine q 5 rfl (bE c fun c0 a0 c=>yh (rMk a Q2 e0 a0) fun k w a=>?_)
   refine z 1 0 ?_;intro a1 c1 c a2 w a
   refine bE c fun c2 J c=>y (yIs Q2 e0 e0 a rO1 J) ?_
   replace a:=a.fz
   refine yt (T7 (cs:=[.bool a1.1,a2.v]) a P0 e0 e0 rfl (mkP mkB (mkS F0)) J) fun w a=>?_
   refine z 1 3 ?_
   refine jC (List (Bool×LI)) [0,1,5,6,7,9] (fun m=>[]) (fun m w=>St w0 (imm I1 j.v f::ros) (row 56 (rS (rP rB (rS (rI .u32)))) i.v d::row 62 (rP rB (rS (rI .u32))) k.v m::rs) w∧m_ja d h f m=some F) rfl ?_ ?_
   ·rintro m g w ⟨a,c⟩
    refine q 4 rfl ?_
    replace a:=(a.k10).fz
    refine yh (rLt (n:=1) (l:=[m]) a P5 [k.v] (bp1 e0) rfl rfl (N1 (cs:=[k.v]) rfl (mkS F0) X1)) fun c3 w a=>?_
    refine z 1 3 ?_;intro c4 c5 c c6 w a
    exact jx (_,_,_,_) ⟨((a.k11).facts (Q0 F1 (N0 (N0 A1)))),c⟩
   refine cI c (fun a3 c=>?_) fun a3 c=>?_
   ·refine z 2 9 ?_;intro c7 c8 c c9 w a a4 d0 c a5 w a
    refine bE c fun K a6 c=>?_
    refine lp a6 [0,1,5,6,7,8,9,10] (fun (u,x)=>[(11,iV x)]) (fun (u,x)=>St w0 (imm I1 j.v f::imm I1 H.v G::ros) (row 56 (rS (rP rB (rS (rI .u32)))) i.v d::row 62 (rP rB (rS (rI .u32))) k.v u::row 62 (rP rB (rS (rI .u32))) a5.v a4::rs)) (fun | K=>(.exit 2,[],St w0 (imm I1 j.v f::ros) (row 56 (rS (rP rB (rS (rI .u32)))) i.v d::row 62 (rP rB (rS (rI .u32))) k.v K::rs))) rfl ((a.k18).facts (Q0 F2 (Q0 F3 (N0 (N0 (N0 (N0 A1))))))) rfl ?_ ?_
    ·clear a
     intro g w a
     exact q 1 rfl (jx _ ⟨a,c⟩)
    rintro ⟨u,x⟩ g w d1 a c
    refine z 1 3 ?_
    refine cI c (fun a7 c=>?_) fun a7 c=>?_
    ·refine q 4 rfl (bE c fun d2 L c=>bE c fun N O c=>bE c fun d3 R c=>dS [10] 1 E1 ?_)
     replace a:=a.drew
     refine D0 1023 0 10 rfl (qR 3 rfl (rQ rfl (yIa V0 e0 e0 a (rdI F1) L) (rQ rfl (yI O_3 e0 a (rdI F1) L) (qR 2 rfl (rQ rfl (yIa Q2 e0 e0 a rO2 O) ?_)))))
     obtain ⟨d4,d5,cc865,a⟩:=a.ld rO2 O
     replace a:=a.eltP
     obtain ⟨d6,d7,rfl,a⟩:=a
     replace a:=a.eltB
     obtain ⟨rfl,a⟩:=a
     replace a:=a.eltS
     obtain ⟨S,rfl,a⟩:=a
     refine rQ rfl (yCn (cs:=[.bool N.1,S.v]) P0 rfl e0 cc865) (rQ rfl (yIs Q2 e0 e0 a rO1 R) (Rn QSn ?_))
     replace a:=a.k10
     refine LT wn (T7 (cs:=[.bool N.1,S.v]) a P0 e0 e0 rfl (mkP mkB (mkS F0)) R) fun w a=>?_
     refine z 1 7 ?_
     cases c
     exact lo ((a.k1q).facts (Q0 F1 (Q0 F2 (N0 (N0 (N0 A1))))))
    ·refine q 2 rfl ?_
     cases c
     exact xo ((a.k1r).facts (Q0 F0 (N0 (N0 A1))))
   ·exact q 1 rfl (jx _ ⟨((a.k10).facts (Q0 F1 (N0 (N0 (N0 A1))))),c⟩)
 ·refine q 2 rfl ?_
  cases c
  exact lx _ (a.fc)
instance:CL prog 21 (type_of% @vh):=⟨@vh⟩
theorem Il {b:Int} {out:Bool} (c:m_jf b=some out) (a:St w0 ros rs w):
  Calls prog 59 #[iV b] w (rv w0 ros rs (.bool out)):=by
 refine en func59 rfl ntmps59 fun Q j=>q 11 rfl ?_
 refine jW 3 [0] [(9,.bool ((decide (b < 2)) || (decide ((2147483647:Int) < b))))] (St w0 ros rs) rfl (fun f=>?_) ?_
 ·refine gB 6 rfl (fun d=>?_) fun d=>?_
  ·exact q 3 rfl (f _ _ a (J1 (Z0 Value.bool (orT d)) rfl))
  ·exact q 3 rfl (f _ _ a (J1 (Z0 Value.bool (orF d)) rfl))
 intro g w a
 refine v 0 ?_
 refine ⟨vt,fun _ c=>?_⟩
 refine bE c fun h i c=>?_
 refine lp i [0] (fun e=>[(3,iV e)]) (fun e=>St w0 ros rs) (fun | .inl ()=>(.exit 0,[],St w0 ros rs) | .inr ()=>(.ret,[(2,.bool false)],St w0 ros rs)) rfl a rfl ?_ ?_
 ·clear a
  intro g w a
  rcases h with ⟨⟩ | ⟨⟩
  ·exact vx
  ·exact vx
 rintro e g w k a c
 exact vx
instance:CL prog 59 (type_of% @Il):=⟨@Il⟩
theorem uh {m i:Int} {out:LI} (c:m_ji m i=some out) (a:St w0 ros rs w):
  Calls prog 22 #[iV m,iV i] w (ro w0 ros rs 3 I1 out):=by
 refine en func22 rfl ntmps22 fun Q o=>q 17 rfl (cI c (fun s c=>?_) fun s c=>?_)
 ·refine q 8 rfl ?_
  cases c
  replace a:=a.rowNh 3 I1
  exact o _ _ _ (V2 results22 ⟨rfl,rfl⟩ ⟨_,rfl,a⟩)
 ·refine q 12 rfl (bE c fun p t c=>?_)
  replace a:=a.rowNh 3 I1
  refine lpN Hdr Hdr t [1] (fun (d,b) e=>[(5,e.v),(6,iV b)]) (fun (d,b) e=>St w0 ros (row 3 I1 e.v d::rs)) (fun | p,j=>(.exit 0,[(5,j.v)],St w0 ros (row 3 I1 j.v p::rs))) rfl _ a rfl ?_ ?_
  ·clear a
   rintro j g w a
   refine q 9 rfl ?_
   cases c
   exact o _ _ _ (V2 results22 ⟨rfl,rfl⟩ ⟨_,rfl,a⟩)
  rintro ⟨d,b⟩ e g w u a c
  refine q 6 rfl ?_
  refine jW 6 [1,5,6] [(21,.bool ((decide ((1:Int) < b)) && (decide ((d.length:Int) < (imin i 100)))))] (St w0 ros (row 3 I1 e.v d::rs)) rfl (fun r=>?_) ?_
  ·refine gB 15 rfl (fun k=>?_) fun k=>?_
   ·refine z 1 4 ?_
    exact r _ _ a (J1 (Z0 Value.bool (W5 k)) rfl)
   ·exact q 6 rfl (r _ _ a (J1 (Z0 Value.bool (X5 k)) rfl))
  intro g w a
  refine q 2 rfl ?_
  refine cJ c (fun x c=>?_) fun x c=>?_
  ·refine z 1 2 ?_;intro A B c w a
   refine jC (LI×Hdr) [1,6] (fun (f,h)=>[(5,h.v)]) (fun (f,h) w=>St w0 ros (row 3 I1 h.v f::rs) w∧m_jg b f=some u) rfl ?_ ?_
   ·rintro ⟨f,h⟩ g w ⟨a,c⟩
    refine q 7 rfl ?_
    cases c
    exact ln _ a
   refine cJ c (fun y c=>?_) fun y c=>?_
   ·refine q 3 rfl (yh (rLt (n:=1) (l:=[b]) a V0 [iV b] (bp1 e0) rfl rfl (N1 (cs:=[iV b]) rfl mkI X1)) fun C w a=>?_)
    refine z 1 2 ?_;intro D E c F w a
    exact jx (_,_) ⟨(a.k11),c⟩
   ·exact q 1 rfl (jx (_,_) ⟨a,c⟩)
  ·refine q 2 rfl ?_
   cases c
   exact lx _ a
instance:CL prog 22 (type_of% @uh):=⟨@uh⟩
theorem th {e:Bool} {f:LI} {h:Int} {i:Hdr} {out:Int} (c:m_jj e f h=some out) (k:imm (rI .u32) i.v f∈ros) (a:St w0 ros rs w):
  Calls prog 60 #[.agg #[.bool e,i.v],iV h] w (rv w0 ros rs (iV out)):=by
 refine en func60 rfl ntmps60 fun Q l=>?_
 refine z 1 4 ?_;intro m w a
 refine bE c fun n o c=>bE c fun j p c=>?_
 refine jN (Nat×Hdr) [] (fun (b,d)=>[(6,(pB b))]) (fun (b,d)=>St w0 (imm (rI .u32) d.v j.2.2.2::ros) (box b 62 [.bool j.2.2.1,d.v]::rs)) rfl ?_ ?_
 ·refine dS [2,3,7,8,9,10] 6 E1 ?_
  replace a:=a.drew
  exact zx
 rintro ⟨b,d⟩ g w a
 exact vx
instance:CL prog 60 (type_of% @th):=⟨@th⟩
theorem rh {r:List (List (Bool×LI))} {s:Int} {t:Hdr} {out:L2} (c:m_jm r s=some out) (d:imm (rS (rP rB (rS (rI .u32)))) t.v r∈ros) (a:St w0 ros rs w):
  Calls prog 23 #[t.v,iV s] w (ro w0 ros rs 23 S1 out):=by
 refine en func23 rfl ntmps23 fun Q B=>bE c fun u C c=>q 17 rfl ?_
 replace a:=a.rowNh 23 S1
 refine lpN Hdr Hdr C [0,1] (fun (e,i) b=>[(5,b.v),(6,iV i)]) (fun (e,i) b=>St w0 ros (row 23 S1 b.v e::rs)) (fun | u,j=>(.exit 0,[(5,j.v)],St w0 ros (row 23 S1 j.v u::rs))) rfl _ a rfl ?_ ?_
 ·clear a
  rintro j g w a
  refine q 9 rfl ?_
  cases c
  exact B _ _ _ (V2 results23 ⟨rfl,rfl⟩ ⟨_,rfl,a⟩)
 rintro ⟨e,i⟩ b g w L a c
 refine q 5 rfl (y (Y2 P5 e0 a (rdI d)) (q 3 rfl (cI c (fun D c=>?_) fun D c=>?_)))
 ·refine q 16 rfl (bE c fun k E c=>?_)
  replace a:=a.rowNh 3 I1
  refine lpN Hdr Hdr E [0,1,5,6] (fun (m,o) h=>[(7,h.v),(8,iV o)]) (fun (m,o) h=>St w0 ros (row 23 S1 b.v e::row 3 I1 h.v m::rs)) (fun | k,f=>(.exit 2,[(7,f.v)],St w0 ros (row 23 S1 b.v e::row 3 I1 f.v k::rs))) rfl _ (a.k10) rfl ?_ ?_
  ·clear a
   rintro f g w a
   refine q 5 rfl ?_
   replace a:=(a.k10).fz
   refine yh (rLt (n:=1) (l:=[k]) a M8 [f.v] (bp1 e0) rfl rfl (N1 (cs:=[f.v]) rfl (mkS F0) X1)) fun N w a=>bE c fun O F c=>?_
   replace a:=a.k10
   refine yh (rAp a M8 e0 e0 rO1 F) fun R w a=>q 9 rfl ?_
   cases c
   exact ln _ ((a.k11).fc)
  rintro ⟨m,o⟩ h g w S a c
  refine bE c fun T x c=>q 6 rfl (y (yIa P5 e0 e0 a (rdI d) x) ?_)
  obtain ⟨U,a⟩:=iLs a d x
  refine y (yCt Q4 e0 a F1 rfl) (y (Y2 Q2 e0 a (rdI F0)) (q 3 rfl (cI c (fun G c=>?_) fun G c=>?_)))
  ·refine q 8 rfl (bE c fun V z c=>y (yIa P5 e0 e0 a (rdI (F_2 d)) z) ?_)
   obtain ⟨W,a⟩:=iLs a (F_2 d) z
   refine y (yCt Q4 e0 a F1 rfl) (bE c fun H A c=>q 1 rfl (y (yIa Q2 e0 e0 a (rdI F0) A) ?_))
   obtain ⟨X,Z,a⟩:=iLd a F0 A
   obtain ⟨a0,a1,rfl,a⟩:=a.eltP
   obtain ⟨rfl,a⟩:=a.eltB
   obtain ⟨I,rfl,a⟩:=a.eltS
   refine y (D6 (cs:=[.bool H.1,I.v]) P0 rfl e0 a F1) (bE c fun p J c=>q 1 rfl (cZ (th J F0 a) fun w a=>yh (rLt (n:=1) (l:=[p]) a V0 [iV p] (bp1 e0) rfl rfl (N1 (cs:=[iV p]) rfl mkI X1)) fun a2 w a=>bE c fun a3 K c=>?_))
   replace a:=a.k16
   refine yh (rAp a V0 e0 e0 rO1 K) fun a4 w a=>q 9 rfl ?_
   cases c
   exact ln _ ((a.k1o).fc)
  ·refine q 2 rfl ?_
   cases c
   exact lx _ (a.fc)
 ·refine q 2 rfl ?_
  cases c
  exact lx _ a
instance:CL prog 23 (type_of% @rh):=⟨@rh⟩
end Go.Proofs.YthekfonboblioaaGreatDoor
