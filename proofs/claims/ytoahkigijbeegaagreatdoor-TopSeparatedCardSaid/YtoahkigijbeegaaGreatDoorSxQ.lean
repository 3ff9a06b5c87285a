/- The law's lift where a package variable is laid (the table of bits). It holds over any program. -/
import Derived.Test.YtoahkigijbeegaaGreatDoorSxR
import Derived.Test.YtoahkigijbeegaaGreatDoorSxT
import Derived.LaidMore
import Derived.LaidLaws
import Derived.MakeChecks
import Derived.OpenShut
import Derived.Stop.Joined
import Derived.KernelRfl
set_option linter.unusedVariables false
namespace Sx
open Go Go.ChangeShapes Go.WideShapes Go.RowKit Go.Deep Go.Proofs Go.ChangeAt Go.WideMaps Go.WideElems
theorem Yz {H:Type} {enc:TypeId×Value→H} {C:Checked} {os:Os} {f:FuncId} {fn:Func} {s:ChangeSpec} {fresh handsOn:Bool} {tb:TypeId} {laid:List (String×DataW Unit)}
  (own:ownKnob C.prog.godebug=none) (hl:laidOutB C.prog=true) (started:os.Started) (noInit:C.prog.inits.idxOf? f=none) (VH:C.prog.funcs[f]?=some fn) (hv:s.vars=[])
  (PD:fn.params.toList.all (fun t=>C.prog.readableRec t && Nat.blt t C.prog.types.size)=true) (YJ:fn.resultTypes=#[tb]) (VJ:C.prog.underlying tb=some .bool)
  (hs:∀ ds:List (DataW H),ds.length=fn.params.size→s.fn H ds={results:=[.lit (.bool true)],args:=ds })
  (witness:∃ (w:World) (tape:Tape) (i:Input),w.os=os∧(w.forCall tape i).Shaped C.prog∧i.vars=[]∧Input.okWide C.prog (w.forCall tape i) .any w.heap.size f i∧
   ((s.pre enc C.prog fn [] false (w.forCall tape i).memory i.args∧laidMetH C.prog laid (w.forCall tape i).memory)∧sizedMet enc C.prog fn (OpenSpec.ofChange s) false (w.forCall tape i).memory i.args)∧({}:Assume).holds C.prog (lone (Frame.enter C.prog f i.args .normal) [] (w.forCall tape i)))
  (contract:∀ (W:World) (base:Nat) (args:Array Value) (ds:List (DataW H)) (p:List MemPlace),DataW.TrodAll enc C.prog W 0 (fun _=>true) true fn.params.toList args.toList ds p→
   (∀ (j:Nat) t v,fn.params[j]?=some t→args[j]?=some v→Value.okWide C.prog W .any base t v)→laidMetH C.prog laid W→
   Calls C.prog f args W fun e W'=>e=.returned (.bool true)∧∃ mu rs,St W mu rs W'):
  ReturnsInHanded {} C os f .any (fun w args=>(s.pre enc C.prog fn [] false w args∧laidMetH C.prog laid w)∧sizedMet enc C.prog fn (OpenSpec.ofChange s) false w args) (s.post enc C.prog fn false fresh handsOn false):=by
 have cL:∀ t∈fn.params.toList,C.prog.readableRec t=true∧t < C.prog.types.size:=by
  intro t ht
  rw [Q6] at PD
  have:=PD t ht
  rw [V4] at this
  exact ⟨this.1,by simpa [L6] using this.2⟩
 refine returnsInHanded_of_change_and (X:=fun w _=>laidMetH C.prog laid w) (fun _ _ _ hh h=>h.of_heap hh) own started noInit VH witness ?_
 intro W base args ds gs before xy hW aP _ hL _
 have GM:=hW
 obtain ⟨p,q,hA,hV,rfl,KP,NH⟩:=hW
 rw [hv] at hV
 obtain ⟨rfl,rfl⟩:=trodVars_none hV
 have hlen:ds.length=fn.params.size:=by
  have:∀ {ts:List TypeId} {vs:List Value} {ds:List (DataW H)} {ps:List MemPlace},DataW.TrodAll enc C.prog W 0 (fun _=>true) true ts vs ds ps→ds.length=ts.length:=by
   intro ts
   induction ts with
   | nil=>intro vs ds ps h; cases vs<;>cases ds<;>first | rfl | exact h.elim
   | cons t ts ih=>
    intro vs ds ps h
    cases vs with
    | nil=>cases ds<;>exact h.elim
    | cons v vs=>cases ds with
     | nil=>exact h.elim
     | cons d ds=>obtain ⟨_,_,_,h2,_⟩:=h; simp [ih h2]
  simpa using this hA
 refine (contract W base args ds p hA xy hL).mono ?_
 rintro e W' ⟨rfl,mu,rs,nu⟩
 simp only [I7] at GM
 exact ⟨_,rfl,Xz hl hv cL YJ VJ (hs ds hlen) hA GM nu.below⟩
theorem gw {P:Program} {W:World} {n:String} {G T e:Nat} {D:List Nat} (hg:P.globalNamed n=some G) (ht:(P.globals[G]?).map (·.type)=some T) (hu:P.underlying T=some (.array D.length e)) (he:P.underlying e=some (.int .u8)) (hc:P.cellsOf e=1)
  (h0:0 < D.length) (h:laidMet P [(n,.agg (D.map fun (k:Nat)=>.lit (.int .u8 (k:Int))))] W):G < W.heap.size∧TabAt G D W:=by
 obtain ⟨ps,⟨g0,t0,cs0,f0,p0,q0,ME,HN,uE,kE,_,_⟩,_,_⟩:=h
 obtain rfl:=P1 (hg.symm.trans ME)
 obtain rfl:=P1 (ht.symm.trans HN)
 obtain ⟨xs,m1,rfl,PJ,hlen,BP,oO⟩:=DataW.trod_array hu kE
 have key:TabAt G D W:=by
  intro j hj
  have kM:=oO j hj
  have NL:xs[j]?=some (xs[j]'(n0)):=by simp [show j < xs.length by omega]
  rw [NL] at kM
  obtain ⟨k,e1,e2,_⟩:=DataW.trod_int he kM
  have VM:(D.map fun k:Nat=>(DataW.lit (.int .u8 (k:Int)):DataW Unit))[j]?=some (.lit (.int .u8 ((D[j]'hj:Nat):Int))):=by simp [hj]
  have Ay:D.map (fun k:Nat=>(DataW.lit (.int .u8 (k:Int)):DataW Unit))=xs.map (·.1):=by
   have:=S0 Prod.fst PJ
   simpa using this
  rw [Ay,H7,NL,e2] at VM
  have hk:k=((D[j]'hj:Nat):Int):=by simpa using VM
  rw [hc,ra] at e1
  have ly:=World.var?_cell ME uE j
  rw [ly,← V8]
  have h3:((cs0.toList.drop j).take 1)[0]?=some (Value.int .u8 k):=by rw [e1]; rfl
  rw [K5,B0,B6,l7] at h3
  rw [h3,hk]
  congr 2
  simp [List.getD,hj]
 exact ⟨World.block_lt_of_cell? W _ (key 0 h0),key⟩
end Sx
