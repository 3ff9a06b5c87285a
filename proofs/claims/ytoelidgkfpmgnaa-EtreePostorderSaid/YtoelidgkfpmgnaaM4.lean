/- Models of functions of the program, printed. -/
import Derived.Test.YtoelidgkfpmgnaaM3
namespace M
open Sx
set_option linter.unusedVariables false
def matrix_Entries (x1 : Int) (x2 : Int) (x3 : List Int) (x5 : List Int) (x7 : List Int) : Option ((List (Int × Int × Int))) :=
  (matrix_Check x1 x2 x3 x5 x7).bind fun r10 =>
  if r10 = 0 then
    (matrix_entries x1 x2 x3 x5 x7).bind fun r12 =>
    some r12
  else
    some []

def etree_ColParent_l2 (r28 : (List (Int × Int × Int))) : (List Int) × (List Int) × (List Int) × Int → Option (((List Int) × (List Int) × (List Int) × Int) ⊕ (((List Int) × (List Int)))) := fun (x36, x37, x38, x39) =>
  if x39 < (r28.length : Int) then
    (getI r28 x39).bind fun x53 =>
    (getI x38 x53.1).bind fun x55 =>
    (etree_forest_join x36 x37 x55 x53.2.1).bind fun r56 =>
    (setI x38 x53.1 x53.2.1).bind fun x57 =>
    some (.inl (r56.1, r56.2, x57, wa .i64 x39 1))
  else
    some (.inr (x36, x37))
def etree_ColParent_l1 (x18 : List Int) : (List Int) × Int → Option (((List Int) × Int) ⊕ (((List Int)))) := fun (x21, x22) =>
  if x22 < (x18.length : Int) then
    (setI x21 x22 (-1)).bind fun x59 =>
    some (.inl (x59, wa .i64 x22 1))
  else
    some (.inr x21)
def etree_ColParent (x1 : Int) (x2 : Int) (x3 : List Int) (x5 : List Int) (x7 : List Int) : Option ((List Int) × Int) :=
  (matrix_Check x1 x2 x3 x5 x7).bind fun r10 =>
  if r10 = 0 then
    (etree_newForest x2).bind fun r12 =>
    (mkL 0 x1).bind fun x18 =>
    (loop (etree_ColParent_l1 x18) (x18, 0)).bind fun x27 =>
    (matrix_Entries x1 x2 x3 x5 x7).bind fun r28 =>
    (loop (etree_ColParent_l2 r28) (r12.1, r12.2, x27, 0)).bind fun (x50, x51) =>
    some (x50, 0)
  else
    some ([], r10)

def sparseref03_IsFinite (x1 : Int) : Option (Bool) :=
  some (!(decide ((wand .u64 (wsrc .u64 x1 52) 2047) = 2047)))

def sparseref06_Finite_l1 (x1 : List Int) : Int → Option ((Int) ⊕ (Unit ⊕ Unit)) := fun x7 =>
  if x7 < (x1.length : Int) then
    (getI x1 x7).bind fun x14 =>
    (sparseref03_IsFinite x14).bind fun r15 =>
    if r15 = true then
      some (.inl (wa .i64 x7 1))
    else
      some (.inr (.inr ()))
  else
    some (.inr (.inl ()))
def sparseref06_Finite (x1 : List Int) : Option (Bool) :=
  (loop (sparseref06_Finite_l1 x1) 0).bind (fun o => match o with
    | .inl () =>
      some true
    | .inr () =>
      some false)

def sparseref09_Check_l76 (x3 : List Int) (x94 : Int) (x5 : List Int) (x1 : Int) : Int → Option ((Int) ⊕ (Unit ⊕ Unit)) := fun x168 =>
  (getI x3 (wa .i64 x94 1)).bind fun x186 =>
  if x168 < x186 then
    (getI x5 x168).bind fun x188 =>
    (if x188 < 0 then
      some true
    else
      (getI x5 x168).bind fun x194 =>
      some (decide (x1 ≤ x194))).bind fun r189 =>
    (if r189 = true then
      some true
    else
      (getI x3 x94).bind fun x196 =>
      (if x196 < x168 then
        (getI x5 x168).bind fun x199 =>
        (getI x5 (ws .i64 x168 1)).bind fun x200 =>
        some (decide (x199 ≤ x200))
      else
        some false).bind fun r197 =>
      some r197).bind fun r190 =>
    if r190 = true then
      some (.inr (.inr ()))
    else
      some (.inl (wa .i64 x168 1))
  else
    some (.inr (.inl ()))
def sparseref09_Check_l59 (x2 : Int) (x3 : List Int) (x5 : List Int) (x1 : Int) : Int → Option ((Int) ⊕ (Unit ⊕ Unit)) := fun x94 =>
  if x94 < x2 then
    (getI x3 x94).bind fun x151 =>
    (loop (sparseref09_Check_l76 x3 x94 x5 x1) x151).bind (fun o => match o with
      | .inl () =>
        some (.inl (wa .i64 x94 1))
      | .inr () =>
        some (.inr (.inr ())))
  else
    some (.inr (.inl ()))
def sparseref09_Check_l8 (x2 : Int) (x3 : List Int) : Int → Option ((Int) ⊕ (Unit ⊕ Unit)) := fun x36 =>
  if x36 < x2 then
    (getI x3 x36).bind fun x203 =>
    (getI x3 (wa .i64 x36 1)).bind fun x204 =>
    if x204 < x203 then
      some (.inr (.inr ()))
    else
      some (.inl (wa .i64 x36 1))
  else
    some (.inr (.inl ()))
def sparseref09_Check (x1 : Int) (x2 : Int) (x3 : List Int) (x5 : List Int) (x7 : List Int) : Option (Int) :=
  if (((((decide (x1 < 0)) || (decide ((200 : Int) < x1))) || (decide (x2 < 0))) || (decide ((200 : Int) < x2))) || (decide ((10000 : Int) < (x5.length : Int)))) = true then
    some 6
  else
    (if ((!(decide ((x7.length : Int) = (x5.length : Int)))) || (!(decide ((x3.length : Int) = (wa .i64 x2 1))))) = true then
      some true
    else
      (getI x3 0).bind fun x25 =>
      some (!(decide (x25 = 0)))).bind fun r22 =>
    (if r22 = true then
      some true
    else
      (getI x3 x2).bind fun x30 =>
      some (!(decide (x30 = (x5.length : Int))))).bind fun r27 =>
    if r27 = true then
      some 1
    else
      (loop (sparseref09_Check_l8 x2 x3) 0).bind (fun o => match o with
        | .inl () =>
          (loop (sparseref09_Check_l59 x2 x3 x5 x1) 0).bind (fun o => match o with
            | .inl () =>
              (sparseref06_Finite x7).bind fun r148 =>
              if r148 = true then
                some 0
              else
                some 4
            | .inr () =>
              some 1)
        | .inr () =>
          some 1)

def sparseref09_Entries_l4 (x3 : List Int) (x45 : Int) (x5 : List Int) (x7 : List Int) : (List (Int × Int × Int)) × Int → Option (((List (Int × Int × Int)) × Int) ⊕ (((List (Int × Int × Int))))) := fun (x92, x93) =>
  (getI x3 (wa .i64 x45 1)).bind fun x106 =>
  if x93 < x106 then
    (getI x5 x93).bind fun x108 =>
    (getI x7 x93).bind fun x109 =>
    (app x92 [(x108, x45, x109)]).bind fun x112 =>
    some (.inl (x112, wa .i64 x93 1))
  else
    some (.inr x92)
def sparseref09_Entries_l3 (x2 : Int) (x3 : List Int) (x5 : List Int) (x7 : List Int) : (List (Int × Int × Int)) × Int → Option (((List (Int × Int × Int)) × Int) ⊕ (((List (Int × Int × Int))))) := fun (x44, x45) =>
  if x45 < x2 then
    (getI x3 x45).bind fun x83 =>
    (loop (sparseref09_Entries_l4 x3 x45 x5 x7) (x44, x83)).bind fun x105 =>
    some (.inl (x105, wa .i64 x45 1))
  else
    some (.inr x44)
def sparseref09_Entries (x1 : Int) (x2 : Int) (x3 : List Int) (x5 : List Int) (x7 : List Int) : Option ((List (Int × Int × Int))) :=
  (sparseref09_Check x1 x2 x3 x5 x7).bind fun r10 =>
  if r10 = 0 then
    (loop (sparseref09_Entries_l3 x2 x3 x5 x7) ([], 0)).bind fun x81 =>
    some x81
  else
    some []

def sparseref12_empty_l1 (x1 : Int) : (List (List Bool)) × Int → Option (((List (List Bool)) × Int) ⊕ (((List (List Bool))))) := fun (x13, x14) =>
  if x14 < x1 then
    (mkL false x1).bind fun x34 =>
    (app x13 [x34]).bind fun x38 =>
    some (.inl (x38, wa .i64 x14 1))
  else
    some (.inr x13)
def sparseref12_empty (x1 : Int) : Option ((List (List Bool))) :=
  (loop (sparseref12_empty_l1 x1) ([], 0)).bind fun x30 =>
  some x30

def sparseref12_FromNormal_l14 (x331 : Int) (x43 : List (List Int)) (x167 : Int) : (List (List Bool)) × Int → Option (((List (List Bool)) × Int) ⊕ (((List (List Bool))))) := fun (x386, x387) =>
  if x387 < x331 then
    (getI x43 x167).bind fun x402 =>
    (getI x402 x331).bind fun x404 =>
    (getI x386 x404).bind fun x405 =>
    (getI x402 x387).bind fun x408 =>
    (setI x405 x408 true).bind fun x409 =>
    (setI x386 x404 x409).bind fun x410 =>
    some (.inl (x410, wa .i64 x387 1))
  else
    some (.inr x386)
def sparseref12_FromNormal_l13 (x43 : List (List Int)) (x167 : Int) : (List (List Bool)) × Int → Option (((List (List Bool)) × Int) ⊕ (((List (List Bool))))) := fun (x330, x331) =>
  (getI x43 x167).bind fun x373 =>
  if x331 < (x373.length : Int) then
    (loop (sparseref12_FromNormal_l14 x331 x43 x167) (x330, 0)).bind fun x400 =>
    some (.inl (x400, wa .i64 x331 1))
  else
    some (.inr x330)
def sparseref12_FromNormal_l10 (x43 : List (List Int)) : (List (List Bool)) × Int → Option (((List (List Bool)) × Int) ⊕ (((List (List Bool))))) := fun (x166, x167) =>
  if x167 < (x43.length : Int) then
    (loop (sparseref12_FromNormal_l13 x43 x167) (x166, 0)).bind fun x372 =>
    some (.inl (x372, wa .i64 x167 1))
  else
    some (.inr x166)
def sparseref12_FromNormal_l1 (r16 : (List (Int × Int × Int))) : (List (List Int)) × Int → Option (((List (List Int)) × Int) ⊕ (((List (List Int))))) := fun (x28, x29) =>
  if x29 < (r16.length : Int) then
    (getI r16 x29).bind fun x412 =>
    (getI x28 x412.1).bind fun x413 =>
    (app x413 [x412.2.1]).bind fun x417 =>
    (setI x28 x412.1 x417).bind fun x418 =>
    some (.inl (x418, wa .i64 x29 1))
  else
    some (.inr x28)
def sparseref12_FromNormal (x1 : Int) (x2 : Int) (x3 : List Int) (x5 : List Int) (x7 : List Int) : Option ((List (List Int)) × Int) :=
  (sparseref09_Check x1 x2 x3 x5 x7).bind fun r11 =>
  if r11 = 0 then
    (mkL ([] : List Int) x1).bind fun x15 =>
    (sparseref09_Entries x1 x2 x3 x5 x7).bind fun r16 =>
    (loop (sparseref12_FromNormal_l1 r16) (x15, 0)).bind fun x43 =>
    (sparseref12_empty x2).bind fun r44 =>
    (loop (sparseref12_FromNormal_l10 x43) (r44, 0)).bind fun x289 =>
    (sparseref12_FromTable x289).bind fun r290 =>
    some (r290, 0)
  else
    some ([], r11)

def sparseref19_ColParent (x1 : Int) (x2 : Int) (x3 : List Int) (x5 : List Int) (x7 : List Int) : Option ((List Int) × Int) :=
  (sparseref12_FromNormal x1 x2 x3 x5 x7).bind fun r10 =>
  if r10.2 = 0 then
    (sparseref19_Parent r10.1).bind fun r14 =>
    some (r14.1, r14.2)
  else
    some ([], r10.2)

def sparsekit_Lists_l1 (x1 : List (List Int)) (x3 : List (List Int)) : Int → Option ((Int) ⊕ (Unit ⊕ Unit)) := fun x13 =>
  if x13 < (x1.length : Int) then
    (getI x1 x13).bind fun x23 =>
    (getI x3 x13).bind fun x25 =>
    (sparsekit_Ints x23 x25).bind fun r27 =>
    if r27 = true then
      some (.inl (wa .i64 x13 1))
    else
      some (.inr (.inr ()))
  else
    some (.inr (.inl ()))
def sparsekit_Lists (x1 : List (List Int)) (x3 : List (List Int)) : Option (Bool) :=
  if (x1.length : Int) = (x3.length : Int) then
    (loop (sparsekit_Lists_l1 x1 x3) 0).bind (fun o => match o with
      | .inl () =>
        some true
      | .inr () =>
        some false)
  else
    some false

def sparsekit_Graph (x1 : List (List Int)) (x3 : List (List Int)) : Option (Bool) :=
  (sparsekit_Lists x1 x3).bind fun r7 =>
  some r7

def sparselaw19_EtreeAny (x1 : List (List Int)) (x3 : Int) (x4 : Int) (x5 : List Int) (x7 : List Int) (x9 : List Int) : Option (Bool) :=
  (sparselaw19_small x1).bind fun r13 =>
  if ((((((!(r13)) || (decide ((60 : Int) < (x7.length : Int)))) || (decide ((60 : Int) < (x9.length : Int)))) || (decide ((20 : Int) < (x5.length : Int)))) || ((decide ((12 : Int) < x3)) && (decide (x3 ≤ 200)))) || ((decide ((12 : Int) < x4)) && (decide (x4 ≤ 200)))) = true then
    (sparselaw19_awake).bind fun r33 =>
    some r33
  else
    (sparsekit_TwinGraph x1).bind fun r34 =>
    (etree_Parent r34).bind fun r37 =>
    (sparseref19_Parent x1).bind fun r39 =>
    (etree_ColParent x3 x4 x5 x7 x9).bind fun r41 =>
    (sparseref19_ColParent x3 x4 x5 x7 x9).bind fun r43 =>
    (sparsekit_Ints r37.1 r39.1).bind fun r45 =>
    (if (r45 && (decide (r37.2 = r39.2))) = true then
      (sparsekit_Ints r41.1 r43.1).bind fun r52 =>
      some r52
    else
      some false).bind fun r49 =>
    (if (r49 && (decide (r41.2 = r43.2))) = true then
      (sparsekit_Graph r34 x1).bind fun r59 =>
      some r59
    else
      some false).bind fun r56 =>
    (if r56 = true then
      (sparselaw19_awake).bind fun r64 =>
      some r64
    else
      some false).bind fun r61 =>
    some r61

def graph_vertex (x1 : List (List Int)) (x3 : Int) : Option (Bool) :=
  some ((decide ((0 : Int) ≤ x3)) && (decide (x3 < (x1.length : Int))))

def graph_Permuted_1 (x1 : Int) (x3 : List (List Int)) : Option (Bool) :=
  (graph_vertex x3 x1).bind fun r5 =>
  some (!(r5))
end M
