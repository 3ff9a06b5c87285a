/- The law's lift where a package variable is laid (the table of bits). It holds over any program. -/
import Derived.Test.YtpfmbaidflhamaaDoorSxR
import Derived.LaidMore
import Derived.LaidLaws
import Derived.MakeChecks
import Derived.OpenShut
import Derived.Stop.Joined
import Derived.KernelRfl
set_option linter.unusedVariables false
namespace Sx
open Go Go.ChangeShapes Go.WideShapes Go.RowKit Go.Deep Go.ChangeAt Go.WideMaps Go.WideElems
theorem law_liftedL {H:Type} {enc:TypeId×Value→H} {C:Checked} {os:Os} {f:FuncId} {fn:Func} {s:ChangeSpec} {fresh handsOn:Bool} {tb:TypeId} {laid:List (String×DataW Unit)}
    (own:ownKnob C.prog.godebug=none) (hl:laidOutB C.prog=true) (started:os.Started) (noInit:C.prog.inits.idxOf? f=none) (hfn:C.prog.funcs[f]?=some fn) (hv:s.vars=[])
    (hts:fn.params.toList.all (fun t=>C.prog.readableRec t && Nat.blt t C.prog.types.size)=true) (hrt:fn.resultTypes=#[tb]) (hub:C.prog.underlying tb=some .bool)
    (hs:∀ ds:List (DataW H),ds.length=fn.params.size→s.fn H ds={results:=[.lit (.bool true)],args:=ds })
    (witness:∃ (w:World) (tape:Tape) (i:Input),w.os=os∧(w.forCall tape i).Shaped C.prog∧i.vars=[]∧Input.okWide C.prog (w.forCall tape i) .any w.heap.size f i∧
      ((s.pre enc C.prog fn [] false (w.forCall tape i).memory i.args∧laidMetH C.prog laid (w.forCall tape i).memory)∧sizedMet enc C.prog fn (OpenSpec.ofChange s) false (w.forCall tape i).memory i.args)∧({}:Assume).holds C.prog (lone (Frame.enter C.prog f i.args .normal) [] (w.forCall tape i)))
    (contract:∀ (W:World) (base:Nat) (args:Array Value) (ds:List (DataW H)) (p:List MemPlace),DataW.TrodAll enc C.prog W 0 (fun _=>true) true fn.params.toList args.toList ds p→
      (∀ (j:Nat) t v,fn.params[j]?=some t→args[j]?=some v→Value.okWide C.prog W .any base t v)→laidMetH C.prog laid W→
      Calls C.prog f args W fun e W'=>e=.returned (.bool true)∧∃ ros rs,St W ros rs W'):
    ReturnsInHanded {} C os f .any (fun w args=>(s.pre enc C.prog fn [] false w args∧laidMetH C.prog laid w)∧sizedMet enc C.prog fn (OpenSpec.ofChange s) false w args) (s.post enc C.prog fn false fresh handsOn false):=by
  have hts':∀ t∈fn.params.toList,C.prog.readableRec t=true∧t < C.prog.types.size:=by
    intro t ht
    rw [List.all_eq_true] at hts
    have:=hts t ht
    rw [Bool.and_eq_true] at this
    exact ⟨this.1,by simpa [Nat.blt_eq] using this.2⟩
  refine returnsInHanded_of_change_and (X:=fun w _=>laidMetH C.prog laid w) (fun _ _ _ hh h=>h.of_heap hh) own started noInit hfn witness ?_
  intro W base args ds gs before hval hW hcnd _ hL _
  have hW':=hW
  obtain ⟨p,q,hA,hV,rfl,hfz,hnd⟩:=hW
  rw [hv] at hV
  obtain ⟨rfl,rfl⟩:=trodVars_none hV
  have hlen:ds.length=fn.params.size:=by
    have:∀ {ts:List TypeId} {vs:List Value} {ds:List (DataW H)} {ps:List MemPlace},DataW.TrodAll enc C.prog W 0 (fun _=>true) true ts vs ds ps→ds.length=ts.length:=by
      intro ts
      induction ts with
      | nil=>intro vs ds ps h; cases vs<;>cases ds<;>first | rfl | exact h.elim
      | cons t ts ih=>
        intro vs ds ps h
        cases vs with
        | nil=>cases ds<;>exact h.elim
        | cons v vs=>cases ds with
          | nil=>exact h.elim
          | cons d ds=>obtain ⟨_,_,_,h2,_⟩:=h; simp [ih h2]
    simpa using this hA
  refine (contract W base args ds p hA hval hL).mono ?_
  rintro e W' ⟨rfl,ros,rs,hst⟩
  simp only [List.append_nil] at hW'
  exact ⟨_,rfl,law_post hl hv hts' hrt hub (hs ds hlen) hA hW' hst.below⟩
end Sx
