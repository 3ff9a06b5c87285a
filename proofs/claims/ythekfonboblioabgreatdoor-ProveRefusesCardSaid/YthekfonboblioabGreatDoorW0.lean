/- Walks: each function computes its model, printed. -/
import Derived.Test.YthekfonboblioabGreatDoorSxX
import Derived.Test.YthekfonboblioabGreatDoorTy
import Derived.Test.YthekfonboblioabGreatDoorM13
import Derived.Test.YthekfonboblioabGreatDoorSxT
namespace Go.Proofs.YthekfonboblioabGreatDoor
open Go Sx M Go.Proofs.Tryz
set_option maxRecDepth 100000
set_option maxHeartbeats 40000000
set_option linter.unusedVariables false
attribute [local irreducible] wpList Code.wp Calls DR QR QS LA LS St row box fam imm rowS loop
variable {w0:World} {ax:List Fact} {rs:List Res} {w:World}
theorem w_a {b d out:Int} (c:m_a b d=some out) (a:St w0 ax rs w):
  Calls prog 5 #[iV b,iV d] w (rv w0 ax rs (iV out)):=by
 exact en func5 rfl ntmps5 fun Q e=>vx
instance:CL prog 5 (type_of% @w_a):=⟨@w_a⟩
theorem w_b {b:LI} {d:Int} {e:Hdr} {out:Int} (c:m_c b d=some out) (f:imm Ow e.v b∈ax) (a:St w0 ax rs w):
  Calls prog 15 #[e.v,iV d] w (rv w0 ax rs (.int .u64 out)):=by
 exact en func15 rfl ntmps15 fun Q g=>vx
instance:CL prog 15 (type_of% @w_b):=⟨@w_b⟩
theorem w_c {b:Int} {out:Bool} (c:m_d b=some out) (a:St w0 ax rs w):
  Calls prog 46 #[.int .u64 b] w (rv w0 ax rs (.bool out)):=by
 exact en func46 rfl ntmps46 fun Q d=>vx
instance:CL prog 46 (type_of% @w_c):=⟨@w_c⟩
theorem w_d {j:LI} {k:Hdr} {out:LI} (c:m_g j=some out) (t:imm xw k.v j∈ax) (a:St w0 ax rs w):
  Calls prog 145 #[k.v] w (ro w0 ax rs 126 xw out):=by
 refine en func145 rfl ntmps145 fun Q u=>?_
 refine z 1 5 ?_
 refine bE c fun l o c=>?_
 refine lp o [0] (fun e=>[(3,iV e)]) (fun e=>St w0 ax rs) (fun | l=>(.exit 0,[(3,iV l)],St w0 ax rs)) rfl a rfl ?_ ?_
 ·clear a
  intro g w a
  refine bE c fun m p c=>q 14 rfl ?_
  replace a:=a.rowNh 126 xw
  refine lpN Hdr Hdr p [0,3] (fun (f,h) d=>[(4,d.v),(5,iV h)]) (fun (f,h) d=>St w0 ax (row 126 xw d.v f::rs)) (fun | m,i=>(.exit 2,[(4,i.v)],St w0 ax (row 126 xw i.v m::rs))) rfl _ a rfl ?_ ?_
  ·clear a
   rintro i g w a
   exact vx
  rintro ⟨f,h⟩ d g w x a c
  exact vx
 rintro e g w y a c
 refine bE c fun r b c=>q 6 rfl ?_
 refine jW 7 [0,3] [(17,.bool r)] (St w0 ax rs) rfl (fun n=>?_) ?_
 ·refine gI 10 b rfl (fun s b=>?_) fun s b=>?_
  ·refine q 3 rfl (bE b fun A B b=>?_)
   refine z 2 2 ?_
   cases b
   exact n _ _ a rfl
  ·refine q 7 rfl ?_
   cases b
   exact n _ _ a rfl
 intro g w a
 exact vx
instance:CL prog 145 (type_of% @w_d):=⟨@w_d⟩
theorem w_e {b:Bool} {d:LI} {e:Hdr} {out:Bool×LI} (c:m_h b d=some out) (f:imm xw e.v d∈ax) (a:St w0 ax rs w):
  Calls prog 88 #[.bool b,e.v] w (rc w0 ax rs 126 out):=by
 exact en func88 rfl ntmps88 fun Q g=>vx
instance:CL prog 88 (type_of% @w_e):=⟨@w_e⟩
theorem w_f {d:Int} {out:Bool×LI} (c:m_j d=some out) (a:St w0 ax rs w):
  Calls prog 45 #[iV d] w (rc w0 ax rs 126 out):=by
 refine en func45 rfl ntmps45 fun Q f=>?_
 refine z 1 16 ?_;intro e w a
 refine jC Int [0,2] (fun b=>[(3,.int .u64 b)]) (fun b w=>St w0 ax (box e 62 [.bool false,hnil.v]::rs) w∧m_i d b=some out) rfl ?_ ?_
 ·rintro b g w ⟨a,c⟩
  exact q 10 rfl (yh (rLt (n:=2) (l:=[wc .u32 b,wc .u32 (wsrc .u64 b 32)]) a X1 [.int .u32 (wc .u32 b),.int .u32 (wc .u32 (wsrc .u64 b 32))] (bp2 e0 e0) rfl rfl (U1 (cs:=[.int .u32 (wc .u32 b)]) rfl mkI (U1 (cs:=[.int .u32 (wc .u32 (wsrc .u64 b 32))]) rfl mkI E2))) fun h w a=>vx)
 exact vx
instance:CL prog 45 (type_of% @w_f):=⟨@w_f⟩
theorem w_g {b:Bool} {d:LI} {e:Hdr} {out:Bool×LI} (c:m_k b d=some out) (f:imm xw e.v d∈ax) (a:St w0 ax rs w):
  Calls prog 82 #[.agg #[.bool b,e.v]] w (rc w0 ax rs 126 out):=by
 exact en func82 rfl ntmps82 fun Q g=>vx
instance:CL prog 82 (type_of% @w_g):=⟨@w_g⟩
theorem w_h {out:Bool×Bool×Int} (c:m_l=some out) (a:St w0 ax rs w):
  Calls prog 114 #[] w (rv w0 ax rs (.agg #[.bool out.1,.bool out.2.1,hnil.v,iV out.2.2])):=by
 exact en func114 rfl ntmps114 fun Q b=>vx
instance:CL prog 114 (type_of% @w_h):=⟨@w_h⟩
theorem w_i {d:Bool} {e:LI} {f:Hdr} {out:Int} (c:m_n d e=some out) (o:imm xw f.v e∈ax) (i:globF∈ax) (a:St w0 ax rs w):
  Calls prog 166 #[.agg #[.bool d,f.v]] w (rv w0 ax rs (iV out)):=by
 refine en func166 rfl ntmps166 fun Q p=>?_
 refine z 3 10 ?_;intro q w a j r c k w a
 refine bE c fun l m c=>?_
 refine lp m [3] (fun b=>[(4,iV b)]) (fun b=>St w0 ax (row 126 xw k.v j::rs)) (fun | .inl ()=>(.exit 0,[],St w0 ax rs) | .inr h=>(.ret,[(2,iV h)],St w0 ax rs)) rfl (a.k11) rfl ?_ ?_
 ·clear a
  intro g w a
  rcases l with ⟨⟩ | h
  ·exact vx
  ·exact vx
 rintro b g w s a c
 refine v 0 ?_
 refine ⟨fun _ _ _ _ _=>⟨vt,fun _ _ _ _ c=>?_⟩,vt⟩
 exact bE c fun t n c=>cZ (Gq n i a) fun w a=>vx
instance:CL prog 166 (type_of% @w_i):=⟨@w_i⟩
theorem w_j {b:Bool} {d:LI} {e:Hdr} {out:Bool×LI} (c:m_o b d=some out) (f:imm xw e.v d∈ax) (a:St w0 ax rs w):
  Calls prog 144 #[.agg #[.bool b,e.v]] w (rc w0 ax rs 126 out):=by
 exact en func144 rfl ntmps144 fun Q g=>vx
instance:CL prog 144 (type_of% @w_j):=⟨@w_j⟩
theorem w_k {i:LI} {j:Int} {k:Hdr} {out:LI} (c:m_q i j=some out) (p:imm xw k.v i∈ax) (a:St w0 ax rs w):
  Calls prog 119 #[k.v,iV j] w (ro w0 ax rs 126 xw out):=by
 refine en func119 rfl ntmps119 fun Q r=>bE c fun s n c=>q 9 rfl (yh (rMk a X1 e0 n) fun t w a=>q 15 rfl ?_)
 obtain ⟨⟨l,m⟩,o,c⟩:=bs c
 refine lpN Hdr Hdr o [0,1] (fun (d,e,f) b=>[(5,b.v),(6,.int .u64 e),(7,iV f)]) (fun (d,e,f) b=>St w0 ax (row 126 xw b.v d::rs)) (fun | (l,m),h=>(.exit 0,[(5,h.v),(6,.int .u64 m)],St w0 ax (row 126 xw h.v l::rs))) rfl _ a rfl ?_ ?_
 ·clear a
  rintro h g w a
  exact vx
 rintro ⟨d,e,f⟩ b g w u a c
 exact vx
instance:CL prog 119 (type_of% @w_k):=⟨@w_k⟩
theorem w_l {m:LI} {i:Int} {x:Hdr} {out:LI×Bool} (c:m_v m i=some out) (y:imm xw x.v m∈ax) (a:St w0 ax rs w):
  Calls prog 120 #[x.v,iV i] w (fun e w=>∃ (A:Hdr),e=.returned (.tuple #[A.v,.bool out.2])∧St w0 ax (row 126 xw A.v out.1::rs) w):=by
 refine en func120 rfl ntmps120 fun Q S=>bE c fun B I c=>q 18 rfl ?_
 refine lp I [0,1] (fun (p,j)=>[(6,.bool p),(7,iV j)]) (fun (p,j)=>St w0 ax rs) (fun | B=>(.exit 0,[(6,.bool B)],St w0 ax rs)) rfl a rfl ?_ ?_
 ·clear a
  intro g w a
  refine q 23 rfl ?_
  obtain ⟨⟨C,D⟩,J,c⟩:=bs c
  replace a:=a.rowNh 126 xw
  refine lpN Hdr Hdr J [0,1,9] (fun (n,d,k) f=>[(6,.bool n),(8,f.v),(10,iV k)]) (fun (n,d,k) f=>St w0 ax (row 126 xw f.v d::rs)) (fun | (C,D),r=>(.exit 2,[(6,.bool C),(8,r.v)],St w0 ax (row 126 xw r.v D::rs))) rfl _ a rfl ?_ ?_
  ·clear a
   rintro r g w a
   exact vx
  rintro ⟨n,d,k⟩ f g w E a c
  refine v 52 ?_
  refine ⟨fun _ _ _ _ c=>?_,vt⟩
  refine jC Int [0,1,6,8,9,10] (fun l=>[(11,.int .u64 l)]) (fun l w=>St w0 ax (row 126 xw f.v d::rs) w∧m_s k i m d n l=some E) rfl ?_ ?_
  ·rintro l g w ⟨a,c⟩
   refine bE c fun s b c=>q 3 rfl ?_
   refine jN Unit [0,1,6,8,9,10,11] (fun _=>[(75,.bool s)]) (fun _=>St w0 ax (row 126 xw f.v d::rs)) rfl ?_ ?_
   ·rcases G5 b with ⟨t,b⟩ | ⟨t,b⟩
    ·refine bE b fun T F b=>bE b fun U K b=>?_
     have L:=J1 b
     refine dS [] 0 A1 ?_
     replace a:=a.drew
     exact Dw 32767 0 (qR 5 rfl (rK 65 rfl (dT t) (qR 2 rfl (rQ rfl (yIa X1 e0 e0 a (rdI y) F) (rQ rfl (yI Z3 e0 a (rdI y) F) (qR 1 rfl (rQ rfl (Xh rfl e0 K) (qR 3 rfl (rQ rfl (pt_ (.bool s) e0 rfl (eqv L e0)) (Rn QSn (jr () a)))))))))))
    ·have N:=J1 b
     refine dS [] 0 A1 ?_
     replace a:=a.drew
     exact Dw 32767 0 (qR 5 rfl (rK 65 rfl (dF t) (qR 9 rfl (rQ rfl (pf_ (.bool s) e0 rfl (eqv N rfl)) (Rn QSn (jr () a))))))
   rintro _ g w a
   refine q 1 rfl ?_
   refine jC Bool [0,1,8,9,10,11] (fun o=>[(6,.bool o)]) (fun o w=>St w0 ax (row 126 xw f.v d::rs) w∧m_r l i d k o=some E) rfl ?_ ?_
   ·rintro o g w ⟨a,c⟩
    exact vx
   exact vx
  exact vx
 rintro ⟨p,j⟩ g w V a c
 refine q 8 rfl ?_
 refine jW 5 [0,1,6,7] [(21,.bool ((decide (j < (wqc .i64 i 32))) && (decide (j < (m.length:Int)))))] (St w0 ax rs) rfl (fun G=>?_) ?_
 ·refine gB 16 rfl (fun u=>?_) fun u=>?_
  ·refine z 1 2 ?_
   exact G _ _ a (O1 (C1 Value.bool (B6 u)) rfl)
  ·exact q 5 rfl (G _ _ a (O1 (C1 Value.bool (C6 u)) rfl))
 intro g w a
 refine v 26 ?_
 refine ⟨fun _ c=>?_,vt⟩
 refine bE c fun O h c=>?_
 refine jW 6 [0,1,7] [(31,.bool O)] (St w0 ax rs) rfl (fun H=>?_) ?_
 ·refine gJ 25 h rfl (fun R h=>?_) fun R h=>?_
  ·refine q 6 rfl ?_
   cases h
   exact H _ _ a rfl
  ·refine q 2 rfl (bE h fun W X h=>?_)
   refine z 2 2 ?_
   cases h
   exact H _ _ a rfl
 intro g w a
 exact vx
instance:CL prog 120 (type_of% @w_l):=⟨@w_l⟩
theorem w_m {b:Bool} {d:LI} {e:Hdr} {out:Bool×LI} (c:m_w b d=some out) (f:imm xw e.v d∈ax) (a:St w0 ax rs w):
  Calls prog 142 #[.agg #[.bool b,e.v]] w (rc w0 ax rs 126 out):=by
 exact en func142 rfl ntmps142 fun Q g=>vx
instance:CL prog 142 (type_of% @w_m):=⟨@w_m⟩
theorem w_n {i j:LI} {k l:Hdr} {out:LI} (c:m_0 i j=some out) (p:imm xw k.v i∈ax) (r:imm xw l.v j∈ax) (a:St w0 ax rs w):
  Calls prog 176 #[k.v,l.v] w (ro w0 ax rs 126 xw out):=by
 refine en func176 rfl ntmps176 fun Q s=>q 22 rfl ?_
 obtain ⟨⟨m,n⟩,o,c⟩:=bs c
 replace a:=a.rowNh 126 xw
 refine lpN Hdr Hdr o [0,1] (fun (d,e,f) b=>[(5,b.v),(6,.int .u64 e),(7,iV f)]) (fun (d,e,f) b=>St w0 ax (row 126 xw b.v d::rs)) (fun | (m,n),h=>(.exit 0,[(5,h.v),(6,.int .u64 n)],St w0 ax (row 126 xw h.v m::rs))) rfl _ a rfl ?_ ?_
 ·clear a
  rintro h g w a
  exact vx
 rintro ⟨d,e,f⟩ b g w t a c
 exact vx
instance:CL prog 176 (type_of% @w_n):=⟨@w_n⟩
end Go.Proofs.YthekfonboblioabGreatDoor
