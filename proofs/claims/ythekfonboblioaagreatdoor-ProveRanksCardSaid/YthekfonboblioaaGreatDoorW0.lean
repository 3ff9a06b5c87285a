/- Walks: each function computes its model, printed. -/
import Derived.Test.YthekfonboblioaaGreatDoorSxX
import Derived.Test.YthekfonboblioaaGreatDoorTy
import Derived.Test.YthekfonboblioaaGreatDoorM13
import Derived.Test.YthekfonboblioaaGreatDoorSxT
namespace Go.Proofs.YthekfonboblioaaGreatDoor
open Go Sx M Go.Proofs.Tryz
set_option maxRecDepth 100000
set_option maxHeartbeats 40000000
set_option linter.unusedVariables false
attribute [local irreducible] wpList Code.wp Calls DR QR QS LA LS St row box fam imm rowS loop
variable {w0:World} {ros:List Fact} {rs:List Res} {w:World}
theorem w_a {b d out:Int} (c:m_a b d=some out) (a:St w0 ros rs w):
  Calls prog 9 #[iV b,iV d] w (rv w0 ros rs (iV out)):=by
 exact en func9 rfl ntmps9 fun Q e=>vx
instance:CL prog 9 (type_of% @w_a):=⟨@w_a⟩
theorem w_b {b:LI} {d:Int} {e:Hdr} {out:Int} (c:m_c b d=some out) (f:imm (rI .u64) e.v b∈ros) (a:St w0 ros rs w):
  Calls prog 11 #[e.v,iV d] w (rv w0 ros rs (.int .u64 out)):=by
 exact en func11 rfl ntmps11 fun Q g=>vx
instance:CL prog 11 (type_of% @w_b):=⟨@w_b⟩
theorem w_c {b:Int} {out:Bool} (c:m_d b=some out) (a:St w0 ros rs w):
  Calls prog 72 #[.int .u64 b] w (rv w0 ros rs (.bool out)):=by
 exact en func72 rfl ntmps72 fun Q d=>vx
instance:CL prog 72 (type_of% @w_c):=⟨@w_c⟩
theorem w_d {i:LI} {j:Hdr} {out:LI} (c:m_g i=some out) (o:imm (rI .u32) j.v i∈ros) (a:St w0 ros rs w):
  Calls prog 128 #[j.v] w (ro w0 ros rs 107 (rI .u32) out):=by
 refine en func128 rfl ntmps128 fun Q p=>?_
 refine z 1 5 ?_
 refine bE c fun k m c=>?_
 refine lp m [0] (fun d=>[(3,iV d)]) (fun d=>St w0 ros rs) (fun | k=>(.exit 0,[(3,iV k)],St w0 ros rs)) rfl a rfl ?_ ?_
 ·clear a
  intro g w a
  refine bE c fun l n c=>q 14 rfl ?_
  replace a:=a.rowNh 107 (rI .u32)
  refine lpN Hdr Hdr n [0,3] (fun (e,f) b=>[(4,b.v),(5,iV f)]) (fun (e,f) b=>St w0 ros (row 107 (rI .u32) b.v e::rs)) (fun | l,h=>(.exit 2,[(4,h.v)],St w0 ros (row 107 (rI .u32) h.v l::rs))) rfl _ a rfl ?_ ?_
  ·clear a
   rintro h g w a
   exact vx
  rintro ⟨e,f⟩ b g w r a c
  exact vx
 rintro d g w s a c
 exact vx
instance:CL prog 128 (type_of% @w_d):=⟨@w_d⟩
theorem w_e {b:Bool} {d:LI} {e:Hdr} {out:Bool×LI} (c:m_h b d=some out) (f:imm (rI .u32) e.v d∈ros) (a:St w0 ros rs w):
  Calls prog 67 #[.bool b,e.v] w (rc w0 ros rs 107 out):=by
 exact en func67 rfl ntmps67 fun Q g=>vx
instance:CL prog 67 (type_of% @w_e):=⟨@w_e⟩
theorem w_f {d:Int} {out:Bool×LI} (c:m_j d=some out) (a:St w0 ros rs w):
  Calls prog 31 #[iV d] w (rc w0 ros rs 107 out):=by
 refine en func31 rfl ntmps31 fun Q f=>?_
 refine z 1 16 ?_;intro e w a
 refine jC Int [0,2] (fun b=>[(3,.int .u64 b)]) (fun b w=>St w0 ros (box e 62 [.bool false,hnil.v]::rs) w∧m_i d b=some out) rfl ?_ ?_
 ·rintro b g w ⟨a,c⟩
  exact q 10 rfl (yh (rLt (n:=2) (l:=[wc .u32 b,wc .u32 (wsrc .u64 b 32)]) a Q1 [.int .u32 (wc .u32 b),.int .u32 (wc .u32 (wsrc .u64 b 32))] (bp2 e0 e0) rfl rfl (N1 (cs:=[.int .u32 (wc .u32 b)]) rfl mkI (N1 (cs:=[.int .u32 (wc .u32 (wsrc .u64 b 32))]) rfl mkI X1))) fun h w a=>vx)
 exact vx
instance:CL prog 31 (type_of% @w_f):=⟨@w_f⟩
theorem w_g {b:Bool} {d:LI} {e:Hdr} {out:Bool×LI} (c:m_k b d=some out) (f:imm (rI .u32) e.v d∈ros) (a:St w0 ros rs w):
  Calls prog 112 #[.agg #[.bool b,e.v]] w (rc w0 ros rs 107 out):=by
 exact en func112 rfl ntmps112 fun Q g=>vx
instance:CL prog 112 (type_of% @w_g):=⟨@w_g⟩
theorem w_h {out:Bool×Bool×Int} (c:m_l=some out) (a:St w0 ros rs w):
  Calls prog 78 #[] w (rv w0 ros rs (.agg #[.bool out.1,.bool out.2.1,hnil.v,iV out.2.2])):=by
 exact en func78 rfl ntmps78 fun Q b=>vx
instance:CL prog 78 (type_of% @w_h):=⟨@w_h⟩
theorem w_i {d:Bool} {e:LI} {f:Hdr} {out:Int} (c:m_n d e=some out) (o:imm (rI .u32) f.v e∈ros) (i:globF∈ros) (a:St w0 ros rs w):
  Calls prog 136 #[.agg #[.bool d,f.v]] w (rv w0 ros rs (iV out)):=by
 refine en func136 rfl ntmps136 fun Q p=>?_
 refine z 3 10 ?_;intro q w a j r c k w a
 refine bE c fun l m c=>?_
 refine lp m [3] (fun b=>[(4,iV b)]) (fun b=>St w0 ros (row 107 (rI .u32) k.v j::rs)) (fun | .inl ()=>(.exit 0,[],St w0 ros rs) | .inr h=>(.ret,[(2,iV h)],St w0 ros rs)) rfl (a.k11) rfl ?_ ?_
 ·clear a
  intro g w a
  rcases l with ⟨⟩ | h
  ·exact vx
  ·exact vx
 rintro b g w s a c
 refine v 0 ?_
 refine ⟨fun _ _ _ _ _=>⟨vt,fun _ _ _ _ c=>?_⟩,vt⟩
 exact bE c fun t n c=>cZ (Jo n i a) fun w a=>vx
instance:CL prog 136 (type_of% @w_i):=⟨@w_i⟩
theorem w_j {b:Bool} {d:LI} {e:Hdr} {out:Bool×LI} (c:m_o b d=some out) (f:imm (rI .u32) e.v d∈ros) (a:St w0 ros rs w):
  Calls prog 77 #[.agg #[.bool b,e.v]] w (rc w0 ros rs 107 out):=by
 exact en func77 rfl ntmps77 fun Q g=>vx
instance:CL prog 77 (type_of% @w_j):=⟨@w_j⟩
theorem w_k {i:LI} {j:Int} {k:Hdr} {out:LI} (c:m_q i j=some out) (p:imm (rI .u32) k.v i∈ros) (a:St w0 ros rs w):
  Calls prog 113 #[k.v,iV j] w (ro w0 ros rs 107 (rI .u32) out):=by
 refine en func113 rfl ntmps113 fun Q r=>bE c fun s n c=>q 9 rfl (yh (rMk a Q1 e0 n) fun t w a=>q 15 rfl ?_)
 obtain ⟨⟨l,m⟩,o,c⟩:=bs c
 refine lpN Hdr Hdr o [0,1] (fun (d,e,f) b=>[(5,b.v),(6,.int .u64 e),(7,iV f)]) (fun (d,e,f) b=>St w0 ros (row 107 (rI .u32) b.v d::rs)) (fun | (l,m),h=>(.exit 0,[(5,h.v),(6,.int .u64 m)],St w0 ros (row 107 (rI .u32) h.v l::rs))) rfl _ a rfl ?_ ?_
 ·clear a
  rintro h g w a
  exact vx
 rintro ⟨d,e,f⟩ b g w u a c
 exact vx
instance:CL prog 113 (type_of% @w_k):=⟨@w_k⟩
theorem w_l {o:LI} {i:Int} {B:Hdr} {out:LI×Bool} (c:m_v o i=some out) (C:imm (rI .u32) B.v o∈ros) (a:St w0 ros rs w):
  Calls prog 114 #[B.v,iV i] w (fun e w=>∃ (D:Hdr),e=.returned (.tuple #[D.v,.bool out.2])∧St w0 ros (row 107 (rI .u32) D.v out.1::rs) w):=by
 refine en func114 rfl ntmps114 fun Q L=>bE c fun E N c=>q 18 rfl ?_
 refine lp N [0,1] (fun (s,j)=>[(6,.bool s),(7,iV j)]) (fun (s,j)=>St w0 ros rs) (fun | E=>(.exit 0,[(6,.bool E)],St w0 ros rs)) rfl a rfl ?_ ?_
 ·clear a
  intro g w a
  refine q 23 rfl ?_
  obtain ⟨⟨F,G⟩,O,c⟩:=bs c
  replace a:=a.rowNh 107 (rI .u32)
  refine lpN Hdr Hdr O [0,1,9] (fun (p,d,k) f=>[(6,.bool p),(8,f.v),(10,iV k)]) (fun (p,d,k) f=>St w0 ros (row 107 (rI .u32) f.v d::rs)) (fun | (F,G),t=>(.exit 2,[(6,.bool F),(8,t.v)],St w0 ros (row 107 (rI .u32) t.v G::rs))) rfl _ a rfl ?_ ?_
  ·clear a
   rintro t g w a
   refine q 11 rfl ?_
   cases c
   exact L _ _ _ (X3 results114 ⟨rfl,rfl⟩ ⟨rfl,rfl⟩ ⟨_,rfl,a⟩)
  rintro ⟨p,d,k⟩ f g w H a c
  refine z 1 3 ?_
  refine cI c (fun R c=>?_) fun R c=>?_
  ·refine z 3 3 ?_;intro a1 a2 c
   refine jC Int [0,1,6,8,9,10] (fun m=>[(11,.int .u64 m)]) (fun m w=>St w0 ros (row 107 (rI .u32) f.v d::rs) w∧m_s k i o d p m=some H) rfl ?_ ?_
   ·rintro m g w ⟨a,c⟩
    refine bE c fun u b c=>q 3 rfl ?_
    refine jN Unit [0,1,6,8,9,10,11] (fun _=>[(75,.bool u)]) (fun _=>St w0 ros (row 107 (rI .u32) f.v d::rs)) rfl ?_ ?_
    ·rcases V5 b with ⟨x,b⟩ | ⟨x,b⟩
     ·refine bE b fun a3 I b=>bE b fun a4 S b=>?_
      have T:=P1 b
      refine dS [] 0 E1 ?_
      replace a:=a.drew
      exact Dw 32767 0 (qR 5 rfl (rK 65 rfl (dT x) (qR 2 rfl (rQ rfl (yIa Q1 e0 e0 a (rdI C) I) (rQ rfl (yI V3 e0 a (rdI C) I) (qR 1 rfl (rQ rfl (dh rfl e0 S) (qR 3 rfl (rQ rfl (pt_ (.bool u) e0 rfl (eqv T e0)) (Rn QSn (jr () a)))))))))))
     ·have U:=P1 b
      refine dS [] 0 E1 ?_
      replace a:=a.drew
      exact Dw 32767 0 (qR 5 rfl (rK 65 rfl (dF x) (qR 9 rfl (rQ rfl (pf_ (.bool u) e0 rfl (eqv U rfl)) (Rn QSn (jr () a))))))
    rintro _ g w a
    refine q 1 rfl ?_
    refine jC Bool [0,1,8,9,10,11] (fun r=>[(6,.bool r)]) (fun r w=>St w0 ros (row 107 (rI .u32) f.v d::rs) w∧m_r m i d k r=some H) rfl ?_ ?_
    ·rintro r g w ⟨a,c⟩
     refine z 1 1 ?_;intro y a5 c
     refine yh (rLt (n:=1) (l:=[wc .u32 y]) a Q1 [.int .u32 (wc .u32 y)] (bp1 e0) rfl rfl (N1 (cs:=[.int .u32 (wc .u32 y)]) rfl mkI X1)) fun a6 w a=>?_
     refine z 1 9 ?_;intro a7 a8 c a9 w a
     cases c
     exact ln _ (a.k11)
    refine cJ c (fun V c=>?_) fun V c=>?_
    ·exact q 3 rfl (jx _ ⟨a,c⟩)
    ·exact q 1 rfl (jx _ ⟨a,c⟩)
   refine cI c (fun W c=>?_) fun W c=>?_
   ·refine z 2 5 ?_;intro b0 b1 c
    exact jx _ ⟨a,c⟩
   ·exact q 1 rfl (jx _ ⟨a,c⟩)
  ·refine q 2 rfl ?_
   cases c
   exact lx _ a
 rintro ⟨s,j⟩ g w b2 a c
 refine q 8 rfl ?_
 refine jW 5 [0,1,6,7] [(21,.bool ((decide (j < (wqc .i64 i 32))) && (decide (j < (o.length:Int)))))] (St w0 ros rs) rfl (fun J=>?_) ?_
 ·refine gB 16 rfl (fun A=>?_) fun A=>?_
  ·refine z 1 2 ?_
   exact J _ _ a (J1 (Z0 Value.bool (W5 A)) rfl)
  ·exact q 5 rfl (J _ _ a (J1 (Z0 Value.bool (X5 A)) rfl))
 intro g w a
 refine q 2 rfl ?_
 refine cJ c (fun X c=>?_) fun X c=>?_
 ·refine q 7 rfl (bE c fun Z h c=>?_)
  refine jW 6 [0,1,7] [(31,.bool Z)] (St w0 ros rs) rfl (fun K=>?_) ?_
  ·refine gJ 25 h rfl (fun a0 h=>?_) fun a0 h=>?_
   ·refine q 6 rfl ?_
    cases h
    exact K _ _ a rfl
   ·refine q 2 rfl (bE h fun b3 b4 h=>?_)
    refine z 2 2 ?_
    cases h
    exact K _ _ a rfl
  intro g w a
  refine q 9 rfl ?_
  cases c
  exact lo a
 ·refine q 2 rfl ?_
  cases c
  exact xo a
instance:CL prog 114 (type_of% @w_l):=⟨@w_l⟩
theorem w_m {b:Bool} {d:LI} {e:Hdr} {out:Bool×LI} (c:m_w b d=some out) (f:imm (rI .u32) e.v d∈ros) (a:St w0 ros rs w):
  Calls prog 163 #[.agg #[.bool b,e.v]] w (rc w0 ros rs 107 out):=by
 exact en func163 rfl ntmps163 fun Q g=>vx
instance:CL prog 163 (type_of% @w_m):=⟨@w_m⟩
theorem w_n {i j:LI} {k l:Hdr} {out:LI} (c:m_0 i j=some out) (p:imm (rI .u32) k.v i∈ros) (r:imm (rI .u32) l.v j∈ros) (a:St w0 ros rs w):
  Calls prog 187 #[k.v,l.v] w (ro w0 ros rs 107 (rI .u32) out):=by
 refine en func187 rfl ntmps187 fun Q s=>q 22 rfl ?_
 obtain ⟨⟨m,n⟩,o,c⟩:=bs c
 replace a:=a.rowNh 107 (rI .u32)
 refine lpN Hdr Hdr o [0,1] (fun (d,e,f) b=>[(5,b.v),(6,.int .u64 e),(7,iV f)]) (fun (d,e,f) b=>St w0 ros (row 107 (rI .u32) b.v d::rs)) (fun | (m,n),h=>(.exit 0,[(5,h.v),(6,.int .u64 n)],St w0 ros (row 107 (rI .u32) h.v m::rs))) rfl _ a rfl ?_ ?_
 ·clear a
  rintro h g w a
  exact vx
 rintro ⟨d,e,f⟩ b g w t a c
 exact vx
instance:CL prog 187 (type_of% @w_n):=⟨@w_n⟩
end Go.Proofs.YthekfonboblioaaGreatDoor
