/- Models of functions of the program, printed. -/
import Derived.Test.YtoelidgkfpmgnaaM3
namespace M
open Sx
set_option linter.unusedVariables false
def sparselaw19_EtreeComponents_l67 (r12 : (List (List Int))) (x185 : Int) (r6 : Int) (x84 : List Int) : Int → Option ((Int) ⊕ (Unit ⊕ Unit)) := fun x320 =>
  (getI r12 x185).bind fun x354 =>
  if x320 < (x354.length : Int) then
    (getI r12 x185).bind fun x357 =>
    (getI x357 x320).bind fun x359 =>
    (if x359 < 0 then
      some true
    else
      (getI r12 x185).bind fun x373 =>
      (getI x373 x320).bind fun x375 =>
      some (decide (r6 ≤ x375))).bind fun r360 =>
    (if r360 = true then
      some true
    else
      (getI r12 x185).bind fun x377 =>
      (getI x377 x320).bind fun x379 =>
      (getI x84 x379).bind fun x380 =>
      (getI r12 x185).bind fun x381 =>
      (getI x381 0).bind fun x383 =>
      (getI x84 x383).bind fun x384 =>
      some (!(decide (x380 = x384)))).bind fun r361 =>
    if r361 = true then
      some (.inr (.inr ()))
    else
      some (.inl (wa .i64 x320 1))
  else
    some (.inr (.inl ()))
def sparselaw19_EtreeComponents_l52 (r12 : (List (List Int))) (r6 : Int) (x84 : List Int) : Int → Option ((Int) ⊕ (Unit ⊕ Unit)) := fun x185 =>
  if x185 < (r12.length : Int) then
    (loop (sparselaw19_EtreeComponents_l67 r12 x185 r6 x84) 0).bind (fun o => match o with
      | .inl () =>
        some (.inl (wa .i64 x185 1))
      | .inr () =>
        some (.inr (.inr ())))
  else
    some (.inr (.inl ()))
def sparselaw19_EtreeComponents_j76 (x402 : List Int) (x53 : Int) (x404 : Int) : Option ((Int × (List Int) × Int) ⊕ ((Int × (List Int)))) :=
  some (.inl (x404, x402, wa .i64 x53 1))
def sparselaw19_EtreeComponents_l75 (x53 : Int) (r10 : (List Int) × Int) : (List Int) → Option (((List Int)) ⊕ (((List Int)))) := fun x394 =>
  (getI x394 x53).bind fun x406 =>
  (getI r10.1 x406).bind fun x407 =>
  if (0 : Int) ≤ x407 then
    (getI x394 x53).bind fun x409 =>
    (getI r10.1 x409).bind fun x410 =>
    (setI x394 x53 x410).bind fun x411 =>
    some (.inl x411)
  else
    some (.inr x394)
def sparselaw19_EtreeComponents_l7 (r6 : Int) (r10 : (List Int) × Int) : Int × (List Int) × Int → Option ((Int × (List Int) × Int) ⊕ ((Int × (List Int)))) := fun (x51, x52, x53) =>
  if x53 < r6 then
    (setI x52 x53 x53).bind fun x387 =>
    (loop (sparselaw19_EtreeComponents_l75 x53 r10) x387).bind fun x402 =>
    (getI x402 x53).bind fun x403 =>
    if x403 = x53 then
      sparselaw19_EtreeComponents_j76 x402 x53 (wa .i64 x51 1)
    else
      sparselaw19_EtreeComponents_j76 x402 x53 x51
  else
    some (.inr (x51, x52))
def sparselaw19_EtreeComponents (x1 : Int) (x2 : List Int) : Option (Bool) :=
  if (80 : Int) < (x2.length : Int) then
    (sparselaw19_awake).bind fun r5 =>
    some r5
  else
    (sparsekit_Place x1 13).bind fun r6 =>
    (sparsemake_Graph r6 x2).bind fun r7 =>
    (etree_Parent r7).bind fun r10 =>
    (graph_Components r7).bind fun r12 =>
    (if ((!(decide (r10.2 = 0))) || (!(decide ((r10.1.length : Int) = r6)))) = true then
      some true
    else
      (sparseref19_Check r10.1).bind fun r20 =>
      some (!(decide (r20 = 0)))).bind fun r17 =>
    if r17 = true then
      some false
    else
      (mkL 0 r6).bind fun x24 =>
      (loop (sparselaw19_EtreeComponents_l7 r6 r10) (0, x24, 0)).bind fun (x83, x84) =>
      if (r12.length : Int) = x83 then
        (loop (sparselaw19_EtreeComponents_l52 r12 r6 x84) 0).bind (fun o => match o with
          | .inl () =>
            (sparselaw19_awake).bind fun r286 =>
            some r286
          | .inr () =>
            some false)
      else
        some false
end M
