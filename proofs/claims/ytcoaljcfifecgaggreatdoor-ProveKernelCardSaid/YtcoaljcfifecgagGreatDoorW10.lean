/- Walks: each function computes its model, printed. -/
import Derived.Test.YtcoaljcfifecgagGreatDoorW9
namespace Go.Proofs.YtcoaljcfifecgagGreatDoor
open Go Sx M Go.Proofs.Tryz
set_option maxRecDepth 100000
set_option maxHeartbeats 40000000
set_option linter.unusedVariables false
attribute [local irreducible] wpList Code.wp Calls DR QR QS LA LS St
variable {w0:World} {ros:List Fact} {rs:List Res} {w:World}
theorem modular_Primes_ok {p k:Int} {out:LI} (c:modular_Primes p k=some out) (a:St w0 ros rs w):
  Calls prog 64 #[iV p,iV k] w (fun e w=>∃ (r:Hdr),e=.returned (r.v)∧St w0 ros (row 3 I1 r.v out::rs) w):=by
 refine en func64 rfl ntmps64 fun Q s=>q 17 rfl (cI c (fun x c=>?_) fun x c=>?_)
 ·refine q 7 rfl ?_
  cases c
  replace a:=a.rowNh 3 I1
  exact s _ _ _ (fin1r results64 ⟨rfl,rfl⟩ ⟨_,rfl,a⟩)
 ·refine q 12 rfl (bE c fun t z c=>?_)
  replace a:=a.rowNh 3 I1
  refine lpN Hdr Hdr z [1] (fun (f,d) h=>[(5,h.v),(6,iV d)]) (fun (f,d) h=>St w0 ros (row 3 I1 h.v f::rs)) (fun | t,m=>(.exit 0,[(5,m.v)],St w0 ros (row 3 I1 m.v t::rs))) rfl _ a rfl ?_ ?_
  ·clear a
   rintro m g w a
   refine q 9 rfl ?_
   cases c
   exact s _ _ _ (fin1r results64 ⟨rfl,rfl⟩ ⟨_,rfl,a⟩)
  rintro ⟨f,d⟩ h g w A a b
  refine q 6 rfl ?_
  refine jW 6 [1,5,6] [(20,.bool ((decide ((2:Int)≤d)) && (decide ((f.length:Int) < (imin k 100)))))] (St w0 ros (row 3 I1 h.v f::rs)) rfl (fun u=>?_) ?_
  ·refine gB 14 rfl (fun o=>?_) fun o=>?_
   ·exact q 1 rfl (y (yLen SL_23 e0 a rO0) (q 4 rfl (u _ _ a (hasC (congrArg Value.bool (andT o)) rfl))))
   ·exact q 6 rfl (u _ _ a (hasC (congrArg Value.bool (andF o)) rfl))
  intro g w a
  refine q 2 rfl ?_
  refine cJ b (fun B b=>?_) fun B b=>?_
  ·refine q 7 rfl (bE b fun F C b=>cZ (modular_IsPrime_ok C a) fun w a=>q 2 rfl ?_)
   refine jC (LI×Hdr) [1,6] (fun (i,j)=>[(5,j.v)]) (fun (i,j) w=>St w0 ros (row 3 I1 j.v i::rs) w∧modular_Primes_j7 d i=some A) rfl ?_ ?_
   ·rintro ⟨i,j⟩ g w ⟨a,c⟩
    refine q 7 rfl ?_
    cases c
    exact ln _ a
   refine cJ b (fun D b=>?_) fun D b=>?_
   ·refine q 3 rfl (yh (rLt (n:=1) (l:=[d]) a SL_23 [iV d] (bp1 e0) rfl rfl (mks1 (cs:=[iV d]) rfl mkI mks0)) fun G w a=>bE b fun H E b=>?_)
    replace a:=a.k10
    exact yh (rAp a SL_23 e0 e0 rO1 E) fun I w a=>q 2 rfl (jx (_,_) ⟨(a.k11),b⟩)
   ·exact q 1 rfl (jx (_,_) ⟨a,b⟩)
  ·refine q 2 rfl ?_
   cases b
   exact lx _ a
theorem integer_Int_ok {c:Bool} {r:LI} {f:Hdr} {out:Int×Bool} (b:integer_Int c r=some out) (A:imm (rI .u32) f.v r∈ros) (a:St w0 ros rs w):
  Calls prog 160 #[.agg #[.bool c,f.v]] w (fun e w=>e=.returned (.tuple #[iV out.1,.bool out.2])∧St w0 ros rs w):=by
 refine en func160 rfl ntmps160 fun Q i=>q 2 rfl (yb (r_box (vals:=[.bool c,f.v]) a e0 rfl) fun j w a=>q 7 rfl (y (lb_ f.v O_38 e0 a R0) (bE b fun B C b=>cO (integer_trim_ok C A a) fun D w a=>q 7 rfl (y (yLen SL_38 e0 a (rdI F0)) (q 3 rfl (cI b (fun E b=>?_) fun E b=>?_))))))
 ·refine q 8 rfl ?_
  cases b
  exact zb i results160 ⟨rfl,((a.k14).fc)⟩
 ·refine q 11 rfl (y (yLen SL_38 e0 a (rdI F0)) (bE b fun h F b=>q 4 rfl ?_))
  refine lp F [1,14,15] (fun (k,l)=>[(5,.int .u64 k),(16,iV l)]) (fun (k,l)=>St w0 (imm (rI .u32) D.v B::ros) (box j 40 [.bool c,f.v]::rs)) (fun | h=>(.exit 0,[(5,.int .u64 h)],St w0 ros (box j 40 [.bool c,f.v]::rs))) rfl a rfl ?_ ?_
  ·clear a
   intro g w a
   refine q 7 rfl (y (lb_ (.bool c) O_4 e0 a R0) (q 1 rfl ?_))
   refine jW 3 [1,5] [(35,.bool (c && (decide ((0:Int) < h))))] (St w0 ros (box j 40 [.bool c,f.v]::rs)) rfl (fun s=>?_) ?_
   ·refine gB 32 rfl (fun m=>?_) fun m=>?_
    ·exact q 3 rfl (s _ _ a (hasC (congrArg Value.bool (andT m)) rfl))
    ·exact q 3 rfl (s _ _ a (hasC (congrArg Value.bool (andF m)) rfl))
   intro g w a
   refine q 1 rfl ?_
   refine jW 3 [1,5] [(39,.bool ((c && (decide ((0:Int) < h))) && (decide (h≤9223372036854775808))))] (St w0 ros (box j 40 [.bool c,f.v]::rs)) rfl (fun t=>?_) ?_
   ·refine gB 36 rfl (fun n=>?_) fun n=>?_
    ·exact q 3 rfl (t _ _ a (hasC (congrArg Value.bool (andT n)) rfl))
    ·exact q 3 rfl (t _ _ a (hasC (congrArg Value.bool (andF n)) rfl))
   intro g w a
   refine q 3 rfl ?_
   refine cJ b (fun G b=>?_) fun G b=>?_
   ·refine q 14 rfl ?_
    cases b
    exact zb i results160 ⟨rfl,(a.k14)⟩
   ·refine q 5 rfl ?_
    refine jW 8 [5] [(56,.bool ((decide (h < 9223372036854775808)) && ((!c) || (decide (h=0)))))] (St w0 ros rs) rfl (fun u=>?_) ?_
    ·refine gB 48 rfl (fun o=>?_) fun o=>?_
     ·refine q 1 rfl (y (lb_ (.bool c) O_4 e0 a R0) (q 2 rfl ?_))
      refine jW 3 [5,48] [(55,.bool ((!c) || (decide (h=0))))] (St w0 ros rs) rfl (fun x=>?_) ?_
      ·refine gB 52 rfl (fun p=>?_) fun p=>?_
       ·exact q 3 rfl (x _ _ (a.k14) (hasC (congrArg Value.bool (orT p)) rfl))
       ·exact q 3 rfl (x _ _ (a.k14) (hasC (congrArg Value.bool (orF p)) rfl))
      intro g w a
      exact q 1 rfl (u _ _ a (hasC (congrArg Value.bool (andT o)) rfl))
     ·exact q 8 rfl (u _ _ (a.k14) (hasC (congrArg Value.bool (andF o)) rfl))
    intro g w a
    refine q 3 rfl ?_
    refine cJ b (fun H b=>?_) fun H b=>?_
    ·refine q 11 rfl ?_
     cases b
     exact zb i results160 ⟨rfl,a⟩
    ·refine q 10 rfl ?_
     cases b
     exact zb i results160 ⟨rfl,a⟩
  rintro ⟨k,l⟩ g w K a d
  refine q 6 rfl (cI d (fun I d=>?_) fun I d=>?_)
  ·refine q 7 rfl (bE d fun L z d=>y (yIa SL_38 e0 e0 a (rdI F0) z) (y (yI O_96 e0 a (rdI F0) z) (bE d fun N J d=>q 10 rfl (y (yshl e0 e0 J) (q 9 rfl ?_)))))
   cases d
   exact lo a
  ·refine q 2 rfl ?_
   cases d
   exact xo (a.fc)
theorem modular_remainder_ok {f:Bool} {s:LI} {t:Int} {h:Hdr} {out:Int} (m:modular_remainder f s t=some out) (i:imm (rI .u32) h.v s∈ros) (a:St w0 ros rs w):
  Calls prog 141 #[.agg #[.bool f,h.v],iV t] w (fun e w=>e=.returned (iV out)∧St w0 ros rs w):=by
 refine en func141 rfl ntmps141 fun Q u=>q 2 rfl (yb (r_box (vals:=[.bool f,h.v]) a e0 rfl) fun z w a=>bE m fun A n m=>bE m fun b j m=>q 4 rfl ?_)
 refine jN (Nat×Hdr) [] (fun (p,o)=>[(6,(pB p))]) (fun (p,o)=>St w0 (imm (rI .u32) o.v b.2.2.2.1::ros) (box p 40 [.bool b.2.2.1,o.v]::rs)) rfl ?_ ?_
 ·refine dR [0,0,2,7,15,31,31,31,0,0,831,1919,4095] [2,3,8,9,10,11,12] 7 folM ?_
  replace a:=a.drew
  refine Dn [0,1] [] [2,8,9] (rQ rfl (lbs_ [.bool f,h.v] ST_40 e0 a R0) (qR 1 rfl (Rn QSn ?_)))
  refine La1 rfl ?_ (La1 rfl ?_ (La1 rfl ?_ LAn))
  ·refine kO (integer_FromInt_ok n a) fun r w a=>dU (Dn [] [0] [3,8,9] (Rn (sY rfl (lbs_ [.bool f,h.v] ST_40 e0 a R0) QSn) ?_))
   refine La1 rfl ?_ (La1 rfl ?_ (La1 rfl ?_ LAn))
   ·refine kT_ (integer_DivMod_ok j (mtF i) F0 a) fun c d w a=>dU (Dn [4,5,6,7] [] [8,9] (qR 4 rfl (Rn QSn ?_)))
    refine La1 rfl ?_ (La1 rfl ?_ LAn)
    ·refine LB wn (rAl a ZT_40) fun k w a=>dU (D1 [] [4,5,6,7] 9 rfl (Rn (qS rfl (qS rfl (qS rfl (qS rfl QSn)))) (LB wn (rAl a ZT_40) fun l w a=>dU (D0 [] [4,5,6,7] 10 rfl (Rn (qS rfl (qS rfl (qS rfl (qS rfl QSn)))) ?_)))))
     replace a:=a.k10
     refine LT wn (r_stbn (vals':=[.bool b.1,c.v]) (us:=[.bool b.1,c.v]) a ST_40 e0 e0 rfl rfl (one_of rfl) rfl) fun w a=>D0 [] [6,7] 11 rfl (Rn (qS rfl (qS rfl QSn)) ?_)
     replace a:=a.k10
     exact LT wn (r_stbn (vals':=[.bool b.2.2.1,d.v]) (us:=[.bool b.2.2.1,d.v]) a ST_40 e0 e0 rfl rfl (one_of rfl) rfl) fun w a=>D1 [] [7] 12 rfl (Rn (qS rfl QSn) (Ly wn (a_ (iV b.2.2.2.2) e0) (dU (Dz [] [] (Rn QSn (jr (_,_) ((a.k1c).facts (allC F1 (allT (allT (allT allI)))))))))))
    ·refine LB wn (rAl a ZT_40) fun l w a=>dU (D1 [] [4,5,6,7] 8 rfl (Rn (qS rfl (qS rfl (qS rfl (qS rfl QSn)))) (LB wn (rAl a ZT_40) fun k w a=>dU (D0 [] [4,5,6,7] 10 rfl (Rn (qS rfl (qS rfl (qS rfl (qS rfl QSn)))) (LT wn (r_stbn (vals':=[.bool b.1,c.v]) (us:=[.bool b.1,c.v]) a ST_40 e0 e0 rfl rfl (one_of rfl) rfl) fun w a=>D0 [] [6,7] 11 rfl (Rn (qS rfl (qS rfl QSn)) ?_)))))))
     replace a:=a.k10
     exact LT wn (r_stbn (vals':=[.bool b.2.2.1,d.v]) (us:=[.bool b.2.2.1,d.v]) a ST_40 e0 e0 rfl rfl (one_of rfl) rfl) fun w a=>D1 [] [7] 12 rfl (Rn (qS rfl QSn) (Ly wn (a_ (iV b.2.2.2.2) e0) (dU (Dz [] [] (Rn QSn (jr (_,_) ((a.k1c).facts (allC F1 (allT (allT (allT allI)))))))))))
   ·refine LB wn (rAl a ZT_40) fun k w a=>dU (Dn [] [0] [3,9] (Rn (sY rfl (lbs_ [.bool f,h.v] ST_40 e0 a R1) QSn) ?_))
    refine La1 rfl ?_ (La1 rfl ?_ LAn)
    ·refine kT_ (integer_DivMod_ok j (mtF i) F0 a) fun c d w a=>dU (D1 [4,5,6,7] [] 9 rfl (qR 4 rfl (Rn QSn (LB wn (rAl a ZT_40) fun l w a=>dU (D0 [] [4,5,6,7] 10 rfl (Rn (qS rfl (qS rfl (qS rfl (qS rfl QSn)))) ?_))))))
     replace a:=a.k10
     refine LT wn (r_stbn (vals':=[.bool b.1,c.v]) (us:=[.bool b.1,c.v]) a ST_40 e0 e0 rfl rfl (one_of rfl) rfl) fun w a=>D0 [] [6,7] 11 rfl (Rn (qS rfl (qS rfl QSn)) ?_)
     replace a:=a.k10
     exact LT wn (r_stbn (vals':=[.bool b.2.2.1,d.v]) (us:=[.bool b.2.2.1,d.v]) a ST_40 e0 e0 rfl rfl (one_of rfl) rfl) fun w a=>D1 [] [7] 12 rfl (Rn (qS rfl QSn) (Ly wn (a_ (iV b.2.2.2.2) e0) (dU (Dz [] [] (Rn QSn (jr (_,_) ((a.k1c).facts (allC F1 (allT (allT (allT allI)))))))))))
    ·refine LB wn (rAl a ZT_40) fun l w a=>dU (D1 [] [0] 3 rfl (Rn (sY rfl (lbs_ [.bool f,h.v] ST_40 e0 a R2) QSn) (kT_ (integer_DivMod_ok j (mtF i) F0 a) fun c d w a=>dU (D0 [4,5,6,7] [] 10 rfl (qR 4 rfl (Rn QSn ?_))))))
     replace a:=a.k10
     refine LT wn (r_stbn (vals':=[.bool b.1,c.v]) (us:=[.bool b.1,c.v]) a ST_40 e0 e0 rfl rfl (one_of rfl) rfl) fun w a=>D0 [] [6,7] 11 rfl (Rn (qS rfl (qS rfl QSn)) ?_)
     replace a:=a.k10
     exact LT wn (r_stbn (vals':=[.bool b.2.2.1,d.v]) (us:=[.bool b.2.2.1,d.v]) a ST_40 e0 e0 rfl rfl (one_of rfl) rfl) fun w a=>D1 [] [7] 12 rfl (Rn (qS rfl QSn) (Ly wn (a_ (iV b.2.2.2.2) e0) (dU (Dz [] [] (Rn QSn (jr (_,_) ((a.k1c).facts (allC F1 (allT (allT (allT allI)))))))))))
   ·refine LB wn (rAl a ZT_40) fun l w a=>dU (Dn [] [0] [3,8] (Rn (sY rfl (lbs_ [.bool f,h.v] ST_40 e0 a R1) QSn) ?_))
    refine La1 rfl ?_ (La1 rfl ?_ LAn)
    ·refine kT_ (integer_DivMod_ok j (mtF i) F0 a) fun c d w a=>dU (D1 [4,5,6,7] [] 8 rfl (qR 4 rfl (Rn QSn (LB wn (rAl a ZT_40) fun k w a=>dU (D0 [] [4,5,6,7] 10 rfl (Rn (qS rfl (qS rfl (qS rfl (qS rfl QSn)))) (LT wn (r_stbn (vals':=[.bool b.1,c.v]) (us:=[.bool b.1,c.v]) a ST_40 e0 e0 rfl rfl (one_of rfl) rfl) fun w a=>D0 [] [6,7] 11 rfl (Rn (qS rfl (qS rfl QSn)) ?_))))))))
     replace a:=a.k10
     exact LT wn (r_stbn (vals':=[.bool b.2.2.1,d.v]) (us:=[.bool b.2.2.1,d.v]) a ST_40 e0 e0 rfl rfl (one_of rfl) rfl) fun w a=>D1 [] [7] 12 rfl (Rn (qS rfl QSn) (Ly wn (a_ (iV b.2.2.2.2) e0) (dU (Dz [] [] (Rn QSn (jr (_,_) ((a.k1c).facts (allC F1 (allT (allT (allT allI)))))))))))
    ·refine LB wn (rAl a ZT_40) fun k w a=>dU (D1 [] [0] 3 rfl (Rn (sY rfl (lbs_ [.bool f,h.v] ST_40 e0 a R2) QSn) (kT_ (integer_DivMod_ok j (mtF i) F0 a) fun c d w a=>dU (D0 [4,5,6,7] [] 10 rfl (qR 4 rfl (Rn QSn (LT wn (r_stbn (vals':=[.bool b.1,c.v]) (us:=[.bool b.1,c.v]) a ST_40 e0 e0 rfl rfl (one_of rfl) rfl) fun w a=>D0 [] [6,7] 11 rfl (Rn (qS rfl (qS rfl QSn)) ?_))))))))
     replace a:=a.k10
     exact LT wn (r_stbn (vals':=[.bool b.2.2.1,d.v]) (us:=[.bool b.2.2.1,d.v]) a ST_40 e0 e0 rfl rfl (one_of rfl) rfl) fun w a=>D1 [] [7] 12 rfl (Rn (qS rfl QSn) (Ly wn (a_ (iV b.2.2.2.2) e0) (dU (Dz [] [] (Rn QSn (jr (_,_) ((a.k1c).facts (allC F1 (allT (allT (allT allI)))))))))))
  ·refine LB wn (rAl a ZT_40) fun k w a=>dU (Dn [] [0,1] [2,9] (Rn (sY rfl (lbs_ [.bool f,h.v] ST_40 e0 a R1) (qS rfl QSn)) ?_))
   refine La1 rfl ?_ (La1 rfl ?_ LAn)
   ·refine kO (integer_FromInt_ok n a) fun r w a=>dU (Dn [] [0] [3,9] (Rn (sY rfl (lbs_ [.bool f,h.v] ST_40 e0 a R1) QSn) ?_))
    refine La1 rfl ?_ (La1 rfl ?_ LAn)
    ·refine kT_ (integer_DivMod_ok j (mtF i) F0 a) fun c d w a=>dU (D1 [4,5,6,7] [] 9 rfl (qR 4 rfl (Rn QSn (LB wn (rAl a ZT_40) fun l w a=>dU (D0 [] [4,5,6,7] 10 rfl (Rn (qS rfl (qS rfl (qS rfl (qS rfl QSn)))) ?_))))))
     replace a:=a.k10
     refine LT wn (r_stbn (vals':=[.bool b.1,c.v]) (us:=[.bool b.1,c.v]) a ST_40 e0 e0 rfl rfl (one_of rfl) rfl) fun w a=>D0 [] [6,7] 11 rfl (Rn (qS rfl (qS rfl QSn)) ?_)
     replace a:=a.k10
     exact LT wn (r_stbn (vals':=[.bool b.2.2.1,d.v]) (us:=[.bool b.2.2.1,d.v]) a ST_40 e0 e0 rfl rfl (one_of rfl) rfl) fun w a=>D1 [] [7] 12 rfl (Rn (qS rfl QSn) (Ly wn (a_ (iV b.2.2.2.2) e0) (dU (Dz [] [] (Rn QSn (jr (_,_) ((a.k1c).facts (allC F1 (allT (allT (allT allI)))))))))))
    ·refine LB wn (rAl a ZT_40) fun l w a=>dU (D1 [] [0] 3 rfl (Rn (sY rfl (lbs_ [.bool f,h.v] ST_40 e0 a R2) QSn) (kT_ (integer_DivMod_ok j (mtF i) F0 a) fun c d w a=>dU (D0 [4,5,6,7] [] 10 rfl (qR 4 rfl (Rn QSn ?_))))))
     replace a:=a.k10
     refine LT wn (r_stbn (vals':=[.bool b.1,c.v]) (us:=[.bool b.1,c.v]) a ST_40 e0 e0 rfl rfl (one_of rfl) rfl) fun w a=>D0 [] [6,7] 11 rfl (Rn (qS rfl (qS rfl QSn)) ?_)
     replace a:=a.k10
     exact LT wn (r_stbn (vals':=[.bool b.2.2.1,d.v]) (us:=[.bool b.2.2.1,d.v]) a ST_40 e0 e0 rfl rfl (one_of rfl) rfl) fun w a=>D1 [] [7] 12 rfl (Rn (qS rfl QSn) (Ly wn (a_ (iV b.2.2.2.2) e0) (dU (Dz [] [] (Rn QSn (jr (_,_) ((a.k1c).facts (allC F1 (allT (allT (allT allI)))))))))))
   ·refine LB wn (rAl a ZT_40) fun l w a=>dU (D1 [] [0,1] 2 rfl (Rn (sY rfl (lbs_ [.bool f,h.v] ST_40 e0 a R2) (qS rfl QSn)) (kO (integer_FromInt_ok n a) fun r w a=>dU (D1 [] [0] 3 rfl (Rn (sY rfl (lbs_ [.bool f,h.v] ST_40 e0 a R2) QSn) (kT_ (integer_DivMod_ok j (mtF i) F0 a) fun c d w a=>dU (D0 [4,5,6,7] [] 10 rfl (qR 4 rfl (Rn QSn ?_)))))))))
    replace a:=a.k10
    refine LT wn (r_stbn (vals':=[.bool b.1,c.v]) (us:=[.bool b.1,c.v]) a ST_40 e0 e0 rfl rfl (one_of rfl) rfl) fun w a=>D0 [] [6,7] 11 rfl (Rn (qS rfl (qS rfl QSn)) ?_)
    replace a:=a.k10
    exact LT wn (r_stbn (vals':=[.bool b.2.2.1,d.v]) (us:=[.bool b.2.2.1,d.v]) a ST_40 e0 e0 rfl rfl (one_of rfl) rfl) fun w a=>D1 [] [7] 12 rfl (Rn (qS rfl QSn) (Ly wn (a_ (iV b.2.2.2.2) e0) (dU (Dz [] [] (Rn QSn (jr (_,_) ((a.k1c).facts (allC F1 (allT (allT (allT allI)))))))))))
  ·refine LB wn (rAl a ZT_40) fun l w a=>dU (Dn [] [0,1] [2,8] (Rn (sY rfl (lbs_ [.bool f,h.v] ST_40 e0 a R1) (qS rfl QSn)) ?_))
   refine La1 rfl ?_ (La1 rfl ?_ LAn)
   ·refine kO (integer_FromInt_ok n a) fun r w a=>dU (Dn [] [0] [3,8] (Rn (sY rfl (lbs_ [.bool f,h.v] ST_40 e0 a R1) QSn) ?_))
    refine La1 rfl ?_ (La1 rfl ?_ LAn)
    ·refine kT_ (integer_DivMod_ok j (mtF i) F0 a) fun c d w a=>dU (D1 [4,5,6,7] [] 8 rfl (qR 4 rfl (Rn QSn (LB wn (rAl a ZT_40) fun k w a=>dU (D0 [] [4,5,6,7] 10 rfl (Rn (qS rfl (qS rfl (qS rfl (qS rfl QSn)))) (LT wn (r_stbn (vals':=[.bool b.1,c.v]) (us:=[.bool b.1,c.v]) a ST_40 e0 e0 rfl rfl (one_of rfl) rfl) fun w a=>D0 [] [6,7] 11 rfl (Rn (qS rfl (qS rfl QSn)) ?_))))))))
     replace a:=a.k10
     exact LT wn (r_stbn (vals':=[.bool b.2.2.1,d.v]) (us:=[.bool b.2.2.1,d.v]) a ST_40 e0 e0 rfl rfl (one_of rfl) rfl) fun w a=>D1 [] [7] 12 rfl (Rn (qS rfl QSn) (Ly wn (a_ (iV b.2.2.2.2) e0) (dU (Dz [] [] (Rn QSn (jr (_,_) ((a.k1c).facts (allC F1 (allT (allT (allT allI)))))))))))
    ·refine LB wn (rAl a ZT_40) fun k w a=>dU (D1 [] [0] 3 rfl (Rn (sY rfl (lbs_ [.bool f,h.v] ST_40 e0 a R2) QSn) (kT_ (integer_DivMod_ok j (mtF i) F0 a) fun c d w a=>dU (D0 [4,5,6,7] [] 10 rfl (qR 4 rfl (Rn QSn (LT wn (r_stbn (vals':=[.bool b.1,c.v]) (us:=[.bool b.1,c.v]) a ST_40 e0 e0 rfl rfl (one_of rfl) rfl) fun w a=>D0 [] [6,7] 11 rfl (Rn (qS rfl (qS rfl QSn)) ?_))))))))
     replace a:=a.k10
     exact LT wn (r_stbn (vals':=[.bool b.2.2.1,d.v]) (us:=[.bool b.2.2.1,d.v]) a ST_40 e0 e0 rfl rfl (one_of rfl) rfl) fun w a=>D1 [] [7] 12 rfl (Rn (qS rfl QSn) (Ly wn (a_ (iV b.2.2.2.2) e0) (dU (Dz [] [] (Rn QSn (jr (_,_) ((a.k1c).facts (allC F1 (allT (allT (allT allI)))))))))))
   ·refine LB wn (rAl a ZT_40) fun k w a=>dU (D1 [] [0,1] 2 rfl (Rn (sY rfl (lbs_ [.bool f,h.v] ST_40 e0 a R2) (qS rfl QSn)) (kO (integer_FromInt_ok n a) fun r w a=>dU (D1 [] [0] 3 rfl (Rn (sY rfl (lbs_ [.bool f,h.v] ST_40 e0 a R2) QSn) (kT_ (integer_DivMod_ok j (mtF i) F0 a) fun c d w a=>dU (D0 [4,5,6,7] [] 10 rfl (qR 4 rfl (Rn QSn ?_)))))))))
    refine LT wn (r_stbn (vals':=[.bool b.1,c.v]) (us:=[.bool b.1,c.v]) a ST_40 e0 e0 rfl rfl (one_of rfl) rfl) fun w a=>D0 [] [6,7] 11 rfl (Rn (qS rfl (qS rfl QSn)) ?_)
    replace a:=a.k10
    exact LT wn (r_stbn (vals':=[.bool b.2.2.1,d.v]) (us:=[.bool b.2.2.1,d.v]) a ST_40 e0 e0 rfl rfl (one_of rfl) rfl) fun w a=>D1 [] [7] 12 rfl (Rn (qS rfl QSn) (Ly wn (a_ (iV b.2.2.2.2) e0) (dU (Dz [] [] (Rn QSn (jr (_,_) ((a.k1c).facts (allC F1 (allT (allT (allT allI)))))))))))
 rintro ⟨p,o⟩ g w a
 refine q 3 rfl (y (lbs_ [.bool b.2.2.1,o.v] ST_40 e0 a R0) (bE m fun B x m=>cZ (integer_Int_ok x F0 a) fun w a=>q 14 rfl ?_))
 cases m
 exact za u results141 ⟨rfl,((a.k14).fc)⟩
theorem modular_Reduce_ok {c:Bool} {f:LI} {g:Int} {d:Hdr} {out:Int×Int} (a:modular_Reduce c f g=some out) (i:imm (rI .u32) d.v f∈ros) (b:St w0 ros rs w):
  Calls prog 110 #[.agg #[.bool c,d.v],iV g] w (fun e w=>e=.returned (.tuple #[iV out.1,iV out.2])∧St w0 ros rs w):=by
 refine en func110 rfl ntmps110 fun Q h=>q 2 rfl (yb (r_box (vals:=[.bool c,d.v]) b e0 rfl) fun m w b=>bE a fun n j a=>q 8 rfl (cZ (modular_IsPrime_ok j b) fun w b=>q 3 rfl ?_))
 refine cJn a (fun k a=>?_) fun k a=>?_
 ·refine q 4 rfl (y (lbs_ [.bool c,d.v] ST_40 e0 b R0) (bE a fun o l a=>q 1 rfl (cZ (modular_remainder_ok l i b) fun w b=>q 5 rfl ?_)))
  cases a
  exact zb h results110 ⟨rfl,(b.k14)⟩
 ·refine q 8 rfl ?_
  cases a
  exact zb h results110 ⟨rfl,(b.k14)⟩
theorem prove_reduced_ok {A:List (List (Bool×LI))} {B:Int} {C:Hdr} {out:L2} (d:prove_reduced A B=some out) (f:imm (rS (rP rB (rS (rI .u32)))) C.v A∈ros) (a:St w0 ros rs w):
  Calls prog 65 #[C.v,iV B] w (fun e w=>∃ (D:Hdr) (E:List Hdr),e=.returned (D.v)∧St w0 ros (row 23 rH D.v E::fam 3 I1 E out::rs) w):=by
 refine en func65 rfl ntmps65 fun Q R=>q 8 rfl (y (yLen SL_32 e0 a (rdI f)) (bE d fun a4 S d=>?_))
 obtain ⟨T,em5,U⟩:=mkL_rep S hnil
 refine yh (rMk a SLH_109 e0 U) fun h w a=>?_
 replace a:=(a.fReps 3 I1 T).k10
 rw [← em5] at a
 refine q 7 rfl (y (yLen SL_32 e0 a (rdI f)) (bE d fun F V d=>q 4 rfl ?_))
 refine lpN (List Hdr) (List Hdr) V [1,5,15,16] (fun (m,o) i=>[(17,iV o)]) (fun (m,o) i=>St w0 ros (row 23 rH h.v i::fam 3 I1 i m::rs)) (fun | F,p=>(.exit 0,[],St w0 ros (row 23 rH h.v p::fam 3 I1 p F::rs))) rfl _ a rfl ?_ ?_
 ·clear a
  rintro p g w a
  refine q 9 rfl ?_
  cases d
  exact R _ _ _ (fin1r results65 ⟨rfl,rfl⟩ ⟨_,_,rfl,a⟩)
 rintro ⟨m,o⟩ i g w a5 a c
 refine q 6 rfl (cI c (fun W c=>?_) fun W c=>?_)
 ·refine q 7 rfl (bE c fun X G c=>y (yIa SL_32 e0 e0 a (rdI f) G) ?_)
  obtain ⟨Z,a⟩:=iLs a f G
  refine y (yCt O_28 e0 a F1 rfl) (q 7 rfl (y (yLen SL_28 e0 a (rdI F0)) (bE c fun H a0 c=>q 4 rfl ?_)))
  refine lpN (List Hdr) (List Hdr) a0 [1,5,6,15,16,17,22,23] (fun (r,s) j=>[(24,iV s)]) (fun (r,s) j=>St w0 (imm (rP rB (rS (rI .u32))) Z.v X::ros) (row 23 rH h.v j::fam 3 I1 j r::rs)) (fun | H,t=>(.exit 2,[],St w0 ros (row 23 rH h.v t::fam 3 I1 t H::rs))) rfl _ (a.facts (allC F0 (allT (allT allI)))) rfl ?_ ?_
  ·clear a
   rintro t g w a
   refine q 7 rfl ?_
   cases c
   exact ln _ a
  rintro ⟨r,s⟩ j g w a6 a b
  refine q 6 rfl (cI b (fun a1 b=>?_) fun a1 b=>?_)
  ·refine q 6 rfl (bE b fun I J b=>y (yIa SL_28 e0 e0 a (rdI F0) J) ?_)
   obtain ⟨a7,a8,a⟩:=iLd a F0 J
   obtain ⟨a9,b0,rfl,a⟩:=a.eltP
   obtain ⟨rfl,a⟩:=a.eltB
   obtain ⟨K,rfl,a⟩:=a.eltS
   refine y (yCtn (cs:=[.bool I.1,K.v]) ST_40 rfl e0 a F1) (yb (rAl a ZT_40) fun b1 w a=>sB rfl a ST_40 fun w a=>q 4 rfl (y (lbs_ [.bool I.1,K.v] ST_40 e0 a R0) (bE b fun x a2 b=>q 1 rfl (cZ (modular_Reduce_ok a2 F0 a) fun w a=>bE b fun b2 L b=>q 12 rfl ?_))))
   obtain ⟨b3,k⟩:=a.famI R2 L
   refine y (yIa SLH_109 e0 e0 a rO1 k) (y (yF1 O_23 e0 a rO1 k rfl) (q 1 rfl (yh (rLt (n:=1) (l:=[x.1]) a SL_23 [iV x.1] (bp1 e0) rfl rfl (mks1 (cs:=[iV x.1]) rfl mkI mks0)) fun b4 w a=>bE b fun b5 a3 b=>?_)))
   replace a:=(a.k1d).foc k L
   refine yh (rAp a SL_23 e0 e0 rO2 a3) fun N w a=>bE b fun b6 O b=>?_
   obtain ⟨b7,z⟩:=setI_len (u:=N) O (a.famLx (mtR mhR))
   refine y (yIs SLH_109 e0 e0 a rO4 z) ?_
   replace a:=a.k1e
   refine yt (r_sti (cs:=[N.v]) a O_23 rfl e0 e0 rfl (mkF rfl) z) fun w a=>?_
   replace a:=(a.k1f).unfS k z O
   refine q 7 rfl ?_
   cases b
   exact ln _ ((a.k1g).facts (allC F2 (allT (allT (allT allI)))))
  ·refine q 2 rfl ?_
   cases b
   exact lx _ (a.fc)
 ·refine q 2 rfl ?_
  cases c
  exact lx _ a
theorem slices_Clip_int_ok {d:L2} {b:Hdr} {out:Unit} (f:slices_Clip_int d=some out) (c:imm S1 b.v d∈ros) (a:St w0 ros rs w):
  Calls prog 111 #[b.v] w (fun e w=>e=.returned ((clH b).v)∧St w0 ros rs w):=by
 refine en func111 rfl ntmps111 fun Q g=>q 9 rfl (y (yLen SL_109 e0 a (rdI c)) (q 1 rfl (y (yLen SL_109 e0 a (rdI c)) (y (ySl3 SL_109 e0 a (rdI c) e0 e0 rfl rfl) (q 4 rfl ?_)))))
 cases f
 exact za g results111 ⟨rfl,a⟩
theorem modular_columns_ok {d:L2} {f:Hdr} {out:Int} (b:modular_columns d=some out) (c:imm S1 f.v d∈ros) (a:St w0 ros rs w):
  Calls prog 161 #[f.v] w (fun e w=>e=.returned (iV out)∧St w0 ros rs w):=by
 refine en func161 rfl ntmps161 fun Q g=>q 9 rfl (y (yLen SL_109 e0 a (rdI c)) (q 3 rfl (cI b (fun i b=>?_) fun i b=>?_)))
 ·refine q 7 rfl ?_
  cases b
  exact za g results161 ⟨rfl,a⟩
 ·refine q 5 rfl (bE b fun j h b=>y (yIa SL_109 e0 rfl a (rdI c) h) ?_)
  obtain ⟨k,a⟩:=iLs a c h
  refine y (yCt O_23 e0 a F1 rfl) (y (yLen SL_23 e0 a (rdI F0)) (q 4 rfl ?_))
  cases b
  exact za g results161 ⟨rfl,(a.fc)⟩
theorem modular_check_1_ok {d:LI} {a:Int} {f:Hdr} {b:Nat} {out:Bool} (g:modular_check_1 d a=some out) (h:imm I1 f.v d∈ros) (c:St w0 ros (box b 3 [iV a]::rs) w):
  Calls prog 163 #[f.v,(pB b)] w (fun e w=>e=.returned (.bool out)∧St w0 ros (box b 3 [iV a]::rs) w):=by
 refine en func163 rfl ntmps163 fun Q i=>q 8 rfl (y (yLen SL_23 e0 c (rdI h)) (y (lb_ (iV a) O_3 e0 c R0) (q 5 rfl ?_)))
 cases g
 exact za i results163 ⟨rfl,c⟩
theorem slices_IndexFunc_int_ok {j:L2} {c:Int} {k:Hdr} {d:Nat} {out:Int} (f:slices_IndexFunc_int j c=some out) (h:imm S1 k.v j∈ros) (a:St w0 ros (box d 3 [iV c]::rs) w):
  Calls prog 164 #[k.v,.func (.func 163) #[] #[(pB d)]] w (fun e w=>e=.returned (iV out)∧St w0 ros (box d 3 [iV c]::rs) w):=by
 refine en func164 rfl ntmps164 fun Q l=>q 9 rfl (y (yLen SL_109 e0 a (rdI h)) (bE f fun o p f=>q 4 rfl ?_))
 refine lp p [0,1,7] (fun i=>[(8,iV i)]) (fun i=>St w0 ros (box d 3 [iV c]::rs)) (fun | .inl ()=>(.exit 0,[],St w0 ros (box d 3 [iV c]::rs)) | .inr m=>(.ret,[(4,iV m)],St w0 ros (box d 3 [iV c]::rs))) rfl a rfl ?_ ?_
 ·clear a
  intro g w a
  rcases o with ⟨⟩ | m
  ·refine q 8 rfl ?_
   cases f
   exact za l results164 ⟨rfl,a⟩
  ·refine q 2 rfl ?_
   cases f
   exact za l results164 ⟨rfl,a⟩
 rintro i g w u a b
 refine q 6 rfl (cI b (fun r b=>?_) fun r b=>?_)
 ·refine q 15 rfl (bE b fun x n b=>y (yIa SL_109 e0 e0 a (rdI h) n) ?_)
  obtain ⟨z,a⟩:=iLs a h n
  refine y (yCt O_23 e0 a F1 rfl) (bE b fun A s b=>yC (yCallw FN_163 e0 (a1 e0)) (modular_check_1_ok s F0 a) ?_)
  rintro _ w ⟨rfl,a⟩
  refine ⟨_,rfl,?_⟩
  refine nf (q 2 rfl ?_)
  refine cJ b (fun t b=>?_) fun t b=>?_
  ·refine q 9 rfl ?_
   cases b
   exact xo (a.fc)
  ·refine q 7 rfl ?_
   cases b
   exact lo (a.fc)
 ·refine q 2 rfl ?_
  cases b
  exact xo a
theorem slices_ContainsFunc_int_ok {f:L2} {a:Int} {g:Hdr} {b:Nat} {out:Bool} (c:slices_ContainsFunc_int f a=some out) (h:imm S1 g.v f∈ros) (d:St w0 ros (box b 3 [iV a]::rs) w):
  Calls prog 162 #[g.v,.func (.func 163) #[] #[(pB b)]] w (fun e w=>e=.returned (.bool out)∧St w0 ros (box b 3 [iV a]::rs) w):=by
 refine en func162 rfl ntmps162 fun Q i=>bE c fun k j c=>q 9 rfl (cZ (slices_IndexFunc_int_ok j h d) fun w d=>q 5 rfl ?_)
 cases c
 exact za i results162 ⟨rfl,d⟩
theorem modular_check_ok {d:L2} {j:Int} {k:Hdr} {out:Int} (a:modular_check d j=some out) (f:imm S1 k.v d∈ros) (b:St w0 ros rs w):
  Calls prog 142 #[k.v,iV j] w (fun e w=>e=.returned (iV out)∧St w0 ros rs w):=by
 refine en func142 rfl ntmps142 fun Q c=>bE a fun h m a=>q 8 rfl (cZ (modular_columns_ok m f b) fun w b=>yb (rAl b ZT_3) fun n w b=>yt (r_stb1 (vals':=[iV h]) b O_3 e0 e0 rfl rfl rfl rfl) fun w b=>bE a fun u o a=>q 7 rfl (cZ (modular_IsPrime_ok o b) fun w b=>q 4 rfl ?_))
 refine cJn a (fun p a=>?_) fun p a=>?_
 ·refine q 3 rfl (y (ymf (vf:=#[]) (vc:=#[(pB n)]) a0 (a1 e0)) (bE a fun x r a=>cZ (slices_ContainsFunc_int_ok r f b) fun w b=>q 3 rfl ?_))
  refine cJ a (fun s a=>?_) fun s a=>?_
  ·refine q 8 rfl ?_
   cases a
   exact za c results142 ⟨rfl,(b.k14)⟩
  ·refine q 3 rfl (y (yLen SL_109 e0 b (rdI f)) (q 2 rfl ?_))
   refine jW 3 [] [(23,.bool ((decide ((200:Int) < (d.length:Int))) || (decide ((200:Int) < h))))] (St w0 ros rs) rfl (fun l=>?_) ?_
   ·refine gB 20 rfl (fun i=>?_) fun i=>?_
    ·exact q 3 rfl (l _ _ (b.k14) (hasC (congrArg Value.bool (orT i)) rfl))
    ·exact y (lb_ (iV h) O_3 e0 b R0) (q 2 rfl (l _ _ (b.k14) (hasC (congrArg Value.bool (orF i)) rfl)))
   intro g w b
   refine q 3 rfl ?_
   refine cJ a (fun t a=>?_) fun t a=>?_
   ·refine q 8 rfl ?_
    cases a
    exact za c results142 ⟨rfl,b⟩
   ·refine q 9 rfl ?_
    cases a
    exact za c results142 ⟨rfl,b⟩
 ·refine q 8 rfl ?_
  cases a
  exact za c results142 ⟨rfl,(b.k14)⟩
theorem modular_mod_ok {d f out:Int} (a:modular_mod d f=some out) (b:St w0 ros rs w):
  Calls prog 166 #[iV d,iV f] w (fun e w=>e=.returned (iV out)∧St w0 ros rs w):=by
 refine en func166 rfl ntmps166 fun Q h=>bE a fun k i a=>q 9 rfl (y (yrem e0 e0 i) (q 10 rfl ?_))
 refine jC Int [] (fun c=>[(5,iV c)]) (fun c w=>St w0 ros rs w∧modular_mod_j1 c=some out) rfl ?_ ?_
 ·rintro c g w ⟨b,a⟩
  refine q 8 rfl ?_
  cases a
  exact za h results166 ⟨rfl,b⟩
 refine cI a (fun j a=>?_) fun j a=>?_
 ·exact q 6 rfl (jx _ ⟨b,a⟩)
 ·exact q 1 rfl (jx _ ⟨b,a⟩)
theorem modular_reduced_ok {z:L2} {A:Int} {B:Hdr} {out:L2} (k:modular_reduced z A=some out) (m:imm S1 B.v z∈ros) (a:St w0 ros rs w):
  Calls prog 144 #[B.v,iV A] w (fun e w=>∃ (C:Hdr) (D:List Hdr),e=.returned (C.v)∧St w0 ros (row 23 rH C.v D::fam 3 I1 D out::rs) w):=by
 refine en func144 rfl ntmps144 fun Q I=>q 14 rfl (y (yLen SL_109 e0 a (rdI m)) (bE k fun E J k=>q 4 rfl ?_))
 replace a:=((a.rowNh 23 rH).fNew 3 I1).k10
 refine lpN (Hdr×(List Hdr)) (Hdr×(List Hdr)) J [1,11,12] (fun (i,o) (f,d)=>[(5,f.v),(13,iV o)]) (fun (i,o) (f,d)=>St w0 ros (row 23 rH f.v d::fam 3 I1 d i::rs)) (fun | E,(p,r)=>(.exit 0,[(5,p.v)],St w0 ros (row 23 rH p.v r::fam 3 I1 r E::rs))) rfl (_,_) a rfl ?_ ?_
 ·clear a
  rintro ⟨p,r⟩ g w a
  refine q 9 rfl ?_
  cases k
  exact I _ _ _ (fin1r results144 ⟨rfl,rfl⟩ ⟨_,_,rfl,a⟩)
 rintro ⟨i,o⟩ ⟨f,d⟩ g w V a b
 refine q 6 rfl (cI b (fun K b=>?_) fun K b=>?_)
 ·refine q 6 rfl (bE b fun L F b=>y (yIa SL_109 e0 e0 a (rdI m) F) ?_)
  obtain ⟨N,a⟩:=iLs a m F
  refine y (yCt O_23 e0 a F1 rfl) (q 12 rfl (y (yLen SL_23 e0 a (rdI F0)) (bE b fun s O b=>q 4 rfl ?_)))
  replace a:=a.rowNh 3 I1
  refine lpN Hdr Hdr O [1,5,11,12,13,17,18] (fun (t,u) j=>[(8,j.v),(19,iV u)]) (fun (t,u) j=>St w0 (imm I1 N.v L::ros) (row 23 rH f.v d::fam 3 I1 d i::row 3 I1 j.v t::rs)) (fun | s,h=>(.exit 2,[(8,h.v)],St w0 ros (row 23 rH f.v d::fam 3 I1 d i::row 3 I1 h.v s::rs))) rfl _ ((a.k1f).facts (allC F0 (allT (allT allI)))) rfl ?_ ?_
  ·clear a
   rintro h g w a
   refine q 5 rfl (yh (rLt (n:=1) (l:=[h]) a SLH_109 [h.v] (bp1 e0) rfl rfl (mks1 rfl (mkF rfl) mks0)) fun W w a=>bE b fun X G b=>?_)
   replace a:=a.k10
   obtain ⟨Z,ey110,R⟩:=app_rep G (a.famL R2) (show [h].length=[s].length from rfl)
   refine yh (rAp a SLH_109 e0 e0 rO1 R) fun a0 w a=>?_
   replace a:=(a.k1h).fPush
   rw [← ey110,← (app_some G).1] at a
   refine q 8 rfl ?_
   cases b
   exact ln (_,_) (a.k1i)
  rintro ⟨t,u⟩ j g w a1 a c
  refine q 6 rfl (cI c (fun S c=>?_) fun S c=>?_)
  ·refine q 6 rfl (bE c fun a2 H c=>y (yIa SL_23 e0 e0 a (rdI F0) H) (y (yI O_3 e0 a (rdI F0) H) (bE c fun x T c=>q 7 rfl (cZ (modular_mod_ok T a) fun w a=>yh (rLt (n:=1) (l:=[x]) a SL_23 [iV x] (bp1 e0) rfl rfl (mks1 (cs:=[iV x]) rfl mkI mks0)) fun a3 w a=>bE c fun a4 U c=>?_))))
   replace a:=a.k1d
   refine yh (rAp a SL_23 e0 e0 rO1 U) fun a5 w a=>q 8 rfl ?_
   cases c
   exact ln _ (a.k1j)
  ·refine q 2 rfl ?_
   cases c
   exact lx _ (a.fc)
 ·refine q 2 rfl ?_
  cases b
  exact lx (_,_) a
theorem modular_echelon_1_ok {f:LI} {a:Int} {g:Hdr} {c:Nat} {out:Bool} (d:modular_echelon_1 f a=some out) (h:imm I1 g.v f∈ros) (b:St w0 ros (box c 3 [iV a]::rs) w):
  Calls prog 165 #[g.v,(pB c)] w (fun e w=>e=.returned (.bool out)∧St w0 ros (box c 3 [iV a]::rs) w):=by
 refine en func165 rfl ntmps165 fun Q j=>q 8 rfl (y (lb_ (iV a) O_3 e0 b R0) (bE d fun k i d=>y (yIa SL_23 e0 e0 b (rdI h) i) (y (yI O_3 e0 b (rdI h) i) (q 5 rfl ?_))))
 cases d
 exact za j results165 ⟨rfl,b⟩
end Go.Proofs.YtcoaljcfifecgagGreatDoor
