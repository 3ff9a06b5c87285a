/- Models of functions of the program, printed. -/
import Derived.Test.YtcknmegldjnjjaaM5
namespace M
open Sx
set_option linter.unusedVariables false
def graph_FromMatrix_l1 (r17 : (List (Int × Int × Int))) : (List (List Bool)) × Int → Option (((List (List Bool)) × Int) ⊕ (((List (List Bool))))) := fun (x23, x24) =>
  if x24 < (r17.length : Int) then
    (getI r17 x24).bind fun x35 =>
    (graph_Sets_Join x23 x35.1 x35.2.1).bind fun r37 =>
    some (.inl (r37, wa .i64 x24 1))
  else
    some (.inr x23)
def graph_FromMatrix (x1 : Int) (x2 : Int) (x3 : List Int) (x5 : List Int) (x7 : List Int) : Option ((List (List Int)) × Int) :=
  (matrix_Check x1 x2 x3 x5 x7).bind fun r11 =>
  if r11 = 0 then
    if x1 = x2 then
      (graph_NewSets x2).bind fun r14 =>
      (matrix_Entries x1 x2 x3 x5 x7).bind fun r17 =>
      (loop (graph_FromMatrix_l1 r17) (r14, 0)).bind fun x31 =>
      (graph_Sets_Graph x31).bind fun r32 =>
      some (r32, 0)
    else
      some ([], 5)
  else
    some ([], r11)

def sparseref03_IsFinite (x1 : Int) : Option (Bool) :=
  some (!(decide ((wand .u64 (wsrc .u64 x1 52) 2047) = 2047)))

def sparseref06_Finite_l1 (x1 : List Int) : Int → Option ((Int) ⊕ (Unit ⊕ Unit)) := fun x7 =>
  if x7 < (x1.length : Int) then
    (getI x1 x7).bind fun x14 =>
    (sparseref03_IsFinite x14).bind fun r15 =>
    if r15 = true then
      some (.inl (wa .i64 x7 1))
    else
      some (.inr (.inr ()))
  else
    some (.inr (.inl ()))
def sparseref06_Finite (x1 : List Int) : Option (Bool) :=
  (loop (sparseref06_Finite_l1 x1) 0).bind (fun o => match o with
    | .inl () =>
      some true
    | .inr () =>
      some false)

def sparseref09_Check_l76 (x3 : List Int) (x94 : Int) (x5 : List Int) (x1 : Int) : Int → Option ((Int) ⊕ (Unit ⊕ Unit)) := fun x168 =>
  (getI x3 (wa .i64 x94 1)).bind fun x186 =>
  if x168 < x186 then
    (getI x5 x168).bind fun x188 =>
    (if x188 < 0 then
      some true
    else
      (getI x5 x168).bind fun x194 =>
      some (decide (x1 ≤ x194))).bind fun r189 =>
    (if r189 = true then
      some true
    else
      (getI x3 x94).bind fun x196 =>
      (if x196 < x168 then
        (getI x5 x168).bind fun x199 =>
        (getI x5 (ws .i64 x168 1)).bind fun x200 =>
        some (decide (x199 ≤ x200))
      else
        some false).bind fun r197 =>
      some r197).bind fun r190 =>
    if r190 = true then
      some (.inr (.inr ()))
    else
      some (.inl (wa .i64 x168 1))
  else
    some (.inr (.inl ()))
def sparseref09_Check_l59 (x2 : Int) (x3 : List Int) (x5 : List Int) (x1 : Int) : Int → Option ((Int) ⊕ (Unit ⊕ Unit)) := fun x94 =>
  if x94 < x2 then
    (getI x3 x94).bind fun x151 =>
    (loop (sparseref09_Check_l76 x3 x94 x5 x1) x151).bind (fun o => match o with
      | .inl () =>
        some (.inl (wa .i64 x94 1))
      | .inr () =>
        some (.inr (.inr ())))
  else
    some (.inr (.inl ()))
def sparseref09_Check_l8 (x2 : Int) (x3 : List Int) : Int → Option ((Int) ⊕ (Unit ⊕ Unit)) := fun x36 =>
  if x36 < x2 then
    (getI x3 x36).bind fun x203 =>
    (getI x3 (wa .i64 x36 1)).bind fun x204 =>
    if x204 < x203 then
      some (.inr (.inr ()))
    else
      some (.inl (wa .i64 x36 1))
  else
    some (.inr (.inl ()))
def sparseref09_Check (x1 : Int) (x2 : Int) (x3 : List Int) (x5 : List Int) (x7 : List Int) : Option (Int) :=
  if (((((decide (x1 < 0)) || (decide ((200 : Int) < x1))) || (decide (x2 < 0))) || (decide ((200 : Int) < x2))) || (decide ((10000 : Int) < (x5.length : Int)))) = true then
    some 6
  else
    (if ((!(decide ((x7.length : Int) = (x5.length : Int)))) || (!(decide ((x3.length : Int) = (wa .i64 x2 1))))) = true then
      some true
    else
      (getI x3 0).bind fun x25 =>
      some (!(decide (x25 = 0)))).bind fun r22 =>
    (if r22 = true then
      some true
    else
      (getI x3 x2).bind fun x30 =>
      some (!(decide (x30 = (x5.length : Int))))).bind fun r27 =>
    if r27 = true then
      some 1
    else
      (loop (sparseref09_Check_l8 x2 x3) 0).bind (fun o => match o with
        | .inl () =>
          (loop (sparseref09_Check_l59 x2 x3 x5 x1) 0).bind (fun o => match o with
            | .inl () =>
              (sparseref06_Finite x7).bind fun r148 =>
              if r148 = true then
                some 0
              else
                some 4
            | .inr () =>
              some 1)
        | .inr () =>
          some 1)

def sparseref09_Entries_l4 (x3 : List Int) (x45 : Int) (x5 : List Int) (x7 : List Int) : (List (Int × Int × Int)) × Int → Option (((List (Int × Int × Int)) × Int) ⊕ (((List (Int × Int × Int))))) := fun (x92, x93) =>
  (getI x3 (wa .i64 x45 1)).bind fun x106 =>
  if x93 < x106 then
    (getI x5 x93).bind fun x108 =>
    (getI x7 x93).bind fun x109 =>
    (app x92 [(x108, x45, x109)]).bind fun x112 =>
    some (.inl (x112, wa .i64 x93 1))
  else
    some (.inr x92)
def sparseref09_Entries_l3 (x2 : Int) (x3 : List Int) (x5 : List Int) (x7 : List Int) : (List (Int × Int × Int)) × Int → Option (((List (Int × Int × Int)) × Int) ⊕ (((List (Int × Int × Int))))) := fun (x44, x45) =>
  if x45 < x2 then
    (getI x3 x45).bind fun x83 =>
    (loop (sparseref09_Entries_l4 x3 x45 x5 x7) (x44, x83)).bind fun x105 =>
    some (.inl (x105, wa .i64 x45 1))
  else
    some (.inr x44)
def sparseref09_Entries (x1 : Int) (x2 : Int) (x3 : List Int) (x5 : List Int) (x7 : List Int) : Option ((List (Int × Int × Int))) :=
  (sparseref09_Check x1 x2 x3 x5 x7).bind fun r10 =>
  if r10 = 0 then
    (loop (sparseref09_Entries_l3 x2 x3 x5 x7) ([], 0)).bind fun x81 =>
    some x81
  else
    some []

def sparseref12_FromMatrix_l1 (r17 : (List (Int × Int × Int))) : (List (List Bool)) × Int → Option (((List (List Bool)) × Int) ⊕ (((List (List Bool))))) := fun (x26, x27) =>
  if x27 < (r17.length : Int) then
    (getI r17 x27).bind fun x41 =>
    (getI x26 x41.1).bind fun x42 =>
    (getI r17 x27).bind fun x44 =>
    (setI x42 x44.2.1 true).bind fun x45 =>
    (setI x26 x41.1 x45).bind fun x46 =>
    some (.inl (x46, wa .i64 x27 1))
  else
    some (.inr x26)
def sparseref12_FromMatrix (x1 : Int) (x2 : Int) (x3 : List Int) (x5 : List Int) (x7 : List Int) : Option ((List (List Int)) × Int) :=
  (sparseref09_Check x1 x2 x3 x5 x7).bind fun r11 =>
  if r11 = 0 then
    if x1 = x2 then
      (sparseref12_empty x1).bind fun r14 =>
      (sparseref09_Entries x1 x2 x3 x5 x7).bind fun r17 =>
      (loop (sparseref12_FromMatrix_l1 r17) (r14, 0)).bind fun x37 =>
      (sparseref12_FromTable x37).bind fun r38 =>
      some (r38, 0)
    else
      some ([], 5)
  else
    some ([], r11)

def graph_FromNormal_l14 (x218 : List Int) (x217 : Int) : (List (List Bool)) × Int → Option (((List (List Bool)) × Int) ⊕ (((List (List Bool))))) := fun (x222, x223) =>
  if x223 < (x218.length : Int) then
    (getI x218 x223).bind fun x231 =>
    (graph_Sets_Join x222 x231 x217).bind fun r232 =>
    some (.inl (r232, wa .i64 x223 1))
  else
    some (.inr x222)
def graph_FromNormal_l13 (x175 : List Int) : (List (List Bool)) × Int → Option (((List (List Bool)) × Int) ⊕ (((List (List Bool))))) := fun (x194, x195) =>
  if x195 < (x175.length : Int) then
    (getI x175 x195).bind fun x217 =>
    (sli x175 0 x195).bind fun x218 =>
    (loop (graph_FromNormal_l14 x218 x217) (x194, 0)).bind fun x229 =>
    some (.inl (x229, wa .i64 x195 1))
  else
    some (.inr x194)
def graph_FromNormal_l10 (x45 : List (List Int)) : (List (List Bool)) × Int → Option (((List (List Bool)) × Int) ⊕ (((List (List Bool))))) := fun (x108, x109) =>
  if x109 < (x45.length : Int) then
    (getI x45 x109).bind fun x175 =>
    (loop (graph_FromNormal_l13 x175) (x108, 0)).bind fun x215 =>
    some (.inl (x215, wa .i64 x109 1))
  else
    some (.inr x108)
def graph_FromNormal_l1 (r16 : (List (Int × Int × Int))) : (List (List Int)) × Int → Option (((List (List Int)) × Int) ⊕ (((List (List Int))))) := fun (x29, x30) =>
  if x30 < (r16.length : Int) then
    (getI r16 x30).bind fun x234 =>
    (getI x29 x234.1).bind fun x236 =>
    (app x236 [x234.2.1]).bind fun x240 =>
    (setI x29 x234.1 x240).bind fun x241 =>
    some (.inl (x241, wa .i64 x30 1))
  else
    some (.inr x29)
def graph_FromNormal (x1 : Int) (x2 : Int) (x3 : List Int) (x5 : List Int) (x7 : List Int) : Option ((List (List Int)) × Int) :=
  (matrix_Check x1 x2 x3 x5 x7).bind fun r11 =>
  if r11 = 0 then
    (mkL ([] : List Int) x1).bind fun x15 =>
    (matrix_Entries x1 x2 x3 x5 x7).bind fun r16 =>
    (loop (graph_FromNormal_l1 r16) (x15, 0)).bind fun x45 =>
    (graph_NewSets x2).bind fun r46 =>
    (loop (graph_FromNormal_l10 x45) (r46, 0)).bind fun x171 =>
    (graph_Sets_Graph x171).bind fun r172 =>
    some (r172, 0)
  else
    some ([], r11)

def sparseref12_FromNormal_l14 (x331 : Int) (x43 : List (List Int)) (x167 : Int) : (List (List Bool)) × Int → Option (((List (List Bool)) × Int) ⊕ (((List (List Bool))))) := fun (x386, x387) =>
  if x387 < x331 then
    (getI x43 x167).bind fun x402 =>
    (getI x402 x331).bind fun x404 =>
    (getI x386 x404).bind fun x405 =>
    (getI x402 x387).bind fun x408 =>
    (setI x405 x408 true).bind fun x409 =>
    (setI x386 x404 x409).bind fun x410 =>
    some (.inl (x410, wa .i64 x387 1))
  else
    some (.inr x386)
def sparseref12_FromNormal_l13 (x43 : List (List Int)) (x167 : Int) : (List (List Bool)) × Int → Option (((List (List Bool)) × Int) ⊕ (((List (List Bool))))) := fun (x330, x331) =>
  (getI x43 x167).bind fun x373 =>
  if x331 < (x373.length : Int) then
    (loop (sparseref12_FromNormal_l14 x331 x43 x167) (x330, 0)).bind fun x400 =>
    some (.inl (x400, wa .i64 x331 1))
  else
    some (.inr x330)
def sparseref12_FromNormal_l10 (x43 : List (List Int)) : (List (List Bool)) × Int → Option (((List (List Bool)) × Int) ⊕ (((List (List Bool))))) := fun (x166, x167) =>
  if x167 < (x43.length : Int) then
    (loop (sparseref12_FromNormal_l13 x43 x167) (x166, 0)).bind fun x372 =>
    some (.inl (x372, wa .i64 x167 1))
  else
    some (.inr x166)
def sparseref12_FromNormal_l1 (r16 : (List (Int × Int × Int))) : (List (List Int)) × Int → Option (((List (List Int)) × Int) ⊕ (((List (List Int))))) := fun (x28, x29) =>
  if x29 < (r16.length : Int) then
    (getI r16 x29).bind fun x412 =>
    (getI x28 x412.1).bind fun x413 =>
    (app x413 [x412.2.1]).bind fun x417 =>
    (setI x28 x412.1 x417).bind fun x418 =>
    some (.inl (x418, wa .i64 x29 1))
  else
    some (.inr x28)
def sparseref12_FromNormal (x1 : Int) (x2 : Int) (x3 : List Int) (x5 : List Int) (x7 : List Int) : Option ((List (List Int)) × Int) :=
  (sparseref09_Check x1 x2 x3 x5 x7).bind fun r11 =>
  if r11 = 0 then
    (mkL ([] : List Int) x1).bind fun x15 =>
    (sparseref09_Entries x1 x2 x3 x5 x7).bind fun r16 =>
    (loop (sparseref12_FromNormal_l1 r16) (x15, 0)).bind fun x43 =>
    (sparseref12_empty x2).bind fun r44 =>
    (loop (sparseref12_FromNormal_l10 x43) (r44, 0)).bind fun x289 =>
    (sparseref12_FromTable x289).bind fun r290 =>
    some (r290, 0)
  else
    some ([], r11)

def sparselaw12_GraphMatrix (x1 : Int) (x2 : Int) (x3 : List Int) (x5 : List Int) (x7 : List Int) : Option (Bool) :=
  if (((((decide ((60 : Int) < (x5.length : Int))) || (decide ((60 : Int) < (x7.length : Int)))) || (decide ((20 : Int) < (x3.length : Int)))) || ((decide ((12 : Int) < x1)) && (decide (x1 ≤ 200)))) || ((decide ((12 : Int) < x2)) && (decide (x2 ≤ 200)))) = true then
    (sparselaw12_awake).bind fun r27 =>
    some r27
  else
    (graph_FromMatrix x1 x2 x3 x5 x7).bind fun r28 =>
    (sparseref12_FromMatrix x1 x2 x3 x5 x7).bind fun r31 =>
    (graph_FromNormal x1 x2 x3 x5 x7).bind fun r34 =>
    (sparseref12_FromNormal x1 x2 x3 x5 x7).bind fun r37 =>
    (sparsekit_Graph r28.1 r31.1).bind fun r40 =>
    (if (r40 && (decide (r28.2 = r31.2))) = true then
      (sparsekit_Graph r34.1 r37.1).bind fun r47 =>
      some r47
    else
      some false).bind fun r44 =>
    (if (r44 && (decide (r34.2 = r37.2))) = true then
      (sparselaw12_awake).bind fun r54 =>
      some r54
    else
      some false).bind fun r51 =>
    some r51
end M
