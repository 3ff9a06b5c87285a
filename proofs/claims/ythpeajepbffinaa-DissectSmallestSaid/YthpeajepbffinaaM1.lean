/- Models of functions of the program, printed. -/
import Derived.Test.YthpeajepbffinaaM0
namespace M
open Sx
set_option linter.unusedVariables false
def slices_Concat_int_l4 (x1 : List (List Int)) : (List Int) × Int → Option (((List Int) × Int) ⊕ (((List Int)))) := fun (x24, x25) =>
 if x25 < (x1.length : Int) then
  (getI x1 x25).bind fun x37 =>
  (app x24 x37).bind fun x40 =>
  some (.inl (x40, wa .i64 x25 1))
 else
  some (.inr x24)
def slices_Concat_int_j5 (x7 : Int) (x42 : List Int) (x8 : Int) : Option ((Int × Int) ⊕ (Int)) :=
 some (.inl (wa .i64 x7 (x42.length : Int), wa .i64 x8 1))
def slices_Concat_int_l3 (x1 : List (List Int)) : Int × Int → Option ((Int × Int) ⊕ (Int)) := fun (x7, x8) =>
 if x8 < (x1.length : Int) then
  (getI x1 x8).bind fun x42 =>
  if (wa .i64 x7 (x42.length : Int)) < 0 then
   none
  else
   slices_Concat_int_j5 x7 x42 x8
 else
  some (.inr x7)
def slices_Concat_int (x1 : List (List Int)) : Option ((List Int)) :=
 (loop (slices_Concat_int_l3 x1) (0, 0)).bind fun x15 =>
 (slices_Grow_int x15).bind fun r16 =>
 (loop (slices_Concat_int_l4 x1) (r16, 0)).bind fun x35 =>
 some x35

def graph_Components_j12 (x88 : Int) (x220 : List Bool) (x222 : List (List Int)) : Option (((List Bool) × (List (List Int)) × Int) ⊕ (((List (List Int))))) :=
 some (.inl (x220, x222, wa .i64 x88 1))
def graph_Components_l13 (r229 : List Int) : (List Bool) × Int → Option (((List Bool) × Int) ⊕ (((List Bool)))) := fun (x233, x234) =>
 if x234 < (r229.length : Int) then
  (getI r229 x234).bind fun x245 =>
  (setI x233 x245 true).bind fun x246 =>
  some (.inl (x246, wa .i64 x234 1))
 else
  some (.inr x233)
def graph_Components_l9 (x1 : List (List Int)) : (List Bool) × (List (List Int)) × Int → Option (((List Bool) × (List (List Int)) × Int) ⊕ (((List (List Int))))) := fun (x85, x87, x88) =>
 if x88 < (x1.length : Int) then
  (getI x85 x88).bind fun x223 =>
  if x223 = true then
   graph_Components_j12 x88 x85 x87
  else
   (graph_levels x1 x88).bind fun r225 =>
   (slices_Concat_int r225).bind fun r227 =>
   (sortI r227).bind fun r229 =>
   (loop (graph_Components_l13 r229) (x85, 0)).bind fun x240 =>
   (app x87 [r229]).bind fun x243 =>
   graph_Components_j12 x88 x240 x243
 else
  some (.inr x87)
def graph_Components (x1 : List (List Int)) : Option ((List (List Int))) :=
 (graph_Check x1).bind fun r4 =>
 if r4 = 0 then
  (mkL false (x1.length : Int)).bind fun x8 =>
  (loop (graph_Components_l9 x1) (x8, [], 0)).bind fun x170 =>
  some x170
 else
  some []

def graph_vertex (x1 : List (List Int)) (x3 : Int) : Option (Bool) :=
 some ((decide ((0 : Int) ≤ x3)) && (decide (x3 < (x1.length : Int))))

def graph_Peripheral_j14 (x103 : Int) (x124 : Int) : Option ((Int × Int) ⊕ (Int)) :=
 some (.inl (x124, wa .i64 x103 1))
def graph_Peripheral_l13 (x91 : List Int) (x1 : List (List Int)) : Int × Int → Option ((Int × Int) ⊕ (Int)) := fun (x102, x103) =>
 if x103 < (x91.length : Int) then
  (getI x91 x103).bind fun x119 =>
  (getI x1 x119).bind fun x120 =>
  (getI x1 x102).bind fun x122 =>
  if (x120.length : Int) < (x122.length : Int) then
   graph_Peripheral_j14 x103 x119
  else
   graph_Peripheral_j14 x103 x102
 else
  some (.inr x102)
def graph_Peripheral_l10 (x1 : List (List Int)) : Int × (List (List Int)) → Option ((Int × (List (List Int))) ⊕ (Int)) := fun (x49, x51) =>
 (getI x51 (ws .i64 (x51.length : Int) 1)).bind fun x91 =>
 (getI x91 0).bind fun x93 =>
 (loop (graph_Peripheral_l13 x91 x1) (x93, 0)).bind fun x114 =>
 (graph_levels x1 x114).bind fun r115 =>
 if (r115.length : Int) ≤ (x51.length : Int) then
  some (.inr x49)
 else
  some (.inl (x114, r115))
def graph_Peripheral (x1 : List (List Int)) (x3 : Int) : Option (Int) :=
 (graph_Check x1).bind fun r5 =>
 (if r5 = 0 then
  (graph_vertex x1 x3).bind fun r10 =>
  some (!(r10))
 else
  some true).bind fun r7 =>
 if r7 = true then
  some (-1)
 else
  (graph_levels x1 x3).bind fun r12 =>
  (loop (graph_Peripheral_l10 x1) (x3, r12)).bind fun x90 =>
  some x90

def graph_Levels (x1 : List (List Int)) (x3 : Int) : Option ((List (List Int))) :=
 (graph_Check x1).bind fun r5 =>
 (if r5 = 0 then
  (graph_vertex x1 x3).bind fun r10 =>
  some (!(r10))
 else
  some true).bind fun r7 =>
 if r7 = true then
  some []
 else
  (graph_levels x1 x3).bind fun r12 =>
  some r12

def dissect_grown_l4 (r95 : (List Int)) (r11 : Int) (x3 : List Int) : (List Int) × Int × Int → Option (((List Int) × Int × Int) ⊕ (((List Int) × Int) ⊕ ((List Int)))) := fun (x102, x103, x104) =>
 if x104 < (r95.length : Int) then
  (getI r95 x104).bind fun x117 =>
  if r11 ≤ (wm .i64 2 x103) then
   some (.inr (.inr x102))
  else
   (setI x102 x117 0).bind fun x119 =>
   (getI x3 x117).bind fun x120 =>
   some (.inl (x119, wa .i64 x103 x120, wa .i64 x104 1))
 else
  some (.inr (.inl (x102, x103)))
def dissect_grown_l3 (r12 : (List (List Int))) (x1 : List (List Int)) (r11 : Int) (x3 : List Int) : (List Int) × Int × Int → Option (((List Int) × Int × Int) ⊕ (((List Int)) ⊕ ((List Int)))) := fun (x47, x48, x49) =>
 if x49 < (r12.length : Int) then
  (getI r12 x49).bind fun x89 =>
  (getI x89 0).bind fun x91 =>
  (graph_Peripheral x1 x91).bind fun r92 =>
  (graph_Levels x1 r92).bind fun r93 =>
  (slices_Concat_int r93).bind fun r95 =>
  (loop (dissect_grown_l4 r95 r11 x3) (x47, x48, 0)).bind (fun o => match o with
   | .inl (x113, x114) =>
    some (.inl (x113, x114, wa .i64 x49 1))
   | .inr x115 =>
    some (.inr (.inr x115)))
 else
  some (.inr (.inl x47))
def dissect_grown (x1 : List (List Int)) (x3 : List Int) (x5 : List (List Int)) : Option ((List Int)) :=
 (slices_Repeat_int [1] (x3.length : Int)).bind fun r9 =>
 (dissect_total x3).bind fun r11 =>
 (graph_Components x1).bind fun r12 =>
 (loop (dissect_grown_l3 r12 x1 r11 x3) (r9, 0, 0)).bind (fun o => match o with
  | .inl x86 =>
   some x86
  | .inr x87 =>
   some x87)

def dissect_match_j60 (x242 : Int) (x629 : List Int) : Option (((List Int) × Int) ⊕ (((List Int)))) :=
 some (.inl (x629, wa .i64 x242 1))
def dissect_match_j67 (x657 : Int) (x700 : Int) (x701 : Int) : Option ((Int × Int × Int) ⊕ (Int)) :=
 some (.inl (x700, x701, wa .i64 x657 1))
def dissect_match_l65 (x630 : List Int) (x241 : List Int) (x5 : List (List Int)) (x242 : Int) : Int × Int × Int → Option ((Int × Int × Int) ⊕ (Int)) := fun (x655, x656, x657) =>
 if x657 < (x630.length : Int) then
  (getI x630 x657).bind fun x686 =>
  (getI x241 x686).bind fun x687 =>
  (if x687 = (-1) then
   (getI x5 x242).bind fun x694 =>
   (getI x694 x657).bind fun x696 =>
   some (decide (x656 < x696))
  else
   some false).bind fun r691 =>
  if r691 = true then
   (getI x5 x242).bind fun x703 =>
   (getI x703 x657).bind fun x705 =>
   dissect_match_j67 x657 x686 x705
  else
   dissect_match_j67 x657 x655 x656
 else
  some (.inr x655)
def dissect_match_l45 (x1 : List (List Int)) (x5 : List (List Int)) : (List Int) × Int → Option (((List Int) × Int) ⊕ (((List Int)))) := fun (x241, x242) =>
 if x242 < (x1.length : Int) then
  (getI x1 x242).bind fun x630 =>
  (getI x241 x242).bind fun x632 =>
  if x632 = (-1) then
   (loop (dissect_match_l65 x630 x241 x5 x242) (x242, 0, 0)).bind fun x682 =>
   (setI x241 x242 x682).bind fun x683 =>
   (setI x683 x682 x242).bind fun x684 =>
   dissect_match_j60 x242 x684
  else
   dissect_match_j60 x242 x241
 else
  some (.inr x241)
def dissect_match (x1 : List (List Int)) (x3 : List Int) (x5 : List (List Int)) : Option ((List Int)) :=
 (slices_Repeat_int [(-1)] (x3.length : Int)).bind fun r9 =>
 (loop (dissect_match_l45 x1 x5) (r9, 0)).bind fun x475 =>
 some x475

def dissect_weights_1 (x1 : Int) : Option (Bool) :=
 some ((decide (x1 < 1)) || (decide ((1099511627776 : Int) < x1)))

def slices_IndexFunc_int_l1 (x1 : List Int) : Int → Option ((Int) ⊕ (Unit ⊕ Int)) := fun x7 =>
 if x7 < (x1.length : Int) then
  (getI x1 x7).bind fun x15 =>
  (dissect_weights_1 x15).bind fun r16 =>
  if r16 = true then
   some (.inr (.inr x7))
  else
   some (.inl (wa .i64 x7 1))
 else
  some (.inr (.inl ()))
def slices_IndexFunc_int (x1 : List Int) : Option (Int) :=
 (loop (slices_IndexFunc_int_l1 x1) 0).bind (fun o => match o with
  | .inl () =>
   some (-1)
  | .inr x13 =>
   some x13)

def slices_ContainsFunc_int (x1 : List Int) : Option (Bool) :=
 (slices_IndexFunc_int x1).bind fun r3 =>
 some (decide ((0 : Int) ≤ r3))

def dissect_weights (x1 : List Int) : Option (Bool) :=
 (slices_ContainsFunc_int x1).bind fun r3 =>
 some (!(r3))

def dissect_coarsen_j47 (x604 : Int) (x683 : List (List Int)) (x685 : List (List Int)) : Option (((List (List Int)) × (List (List Int)) × Int) ⊕ (((List (List Int)) × (List (List Int))))) :=
 some (.inl (x683, x685, wa .i64 x604 1))
def dissect_coarsen_l44 (x555 : List Int) (x392 : Int) : (List (List Int)) × (List (List Int)) × Int → Option (((List (List Int)) × (List (List Int)) × Int) ⊕ (((List (List Int)) × (List (List Int))))) := fun (x601, x603, x604) =>
 if x604 < (x555.length : Int) then
  (getI x555 x604).bind fun x662 =>
  if ((!(decide (x392 = x604))) && (decide ((0 : Int) < x662))) = true then
   (getI x601 x392).bind fun x687 =>
   (app x687 [x604]).bind fun x691 =>
   (getI x603 x392).bind fun x692 =>
   (app x692 [x662]).bind fun x696 =>
   (setI x601 x392 x691).bind fun x697 =>
   (setI x603 x392 x696).bind fun x699 =>
   dissect_coarsen_j47 x604 x697 x699
  else
   dissect_coarsen_j47 x604 x601 x603
 else
  some (.inr (x601, x603))
def dissect_coarsen_l35 (x226 : List (List Int)) : (List (List Int)) × (List (List Int)) × Int → Option (((List (List Int)) × (List (List Int)) × Int) ⊕ (((List (List Int)) × (List (List Int))) ⊕ Unit)) := fun (x389, x391, x392) =>
 if x392 < (x226.length : Int) then
  (getI x226 x392).bind fun x555 =>
  (loop (dissect_coarsen_l44 x555 x392) (x389, x391, 0)).bind fun (x654, x656) =>
  (getI x656 x392).bind fun x657 =>
  (dissect_weights x657).bind fun r659 =>
  if r659 = true then
   some (.inl (x654, x656, wa .i64 x392 1))
  else
   some (.inr (.inr ()))
 else
  some (.inr (.inl (x389, x391)))
def dissect_coarsen_l49 (x705 : List Int) (x110 : List Int) (x179 : Int) (x5 : List (List Int)) : (List (List Int)) × Int → Option (((List (List Int)) × Int) ⊕ (((List (List Int))))) := fun (x719, x720) =>
 if x720 < (x705.length : Int) then
  (getI x705 x720).bind fun x737 =>
  (getI x110 x179).bind fun x738 =>
  (getI x719 x738).bind fun x739 =>
  (getI x110 x737).bind fun x741 =>
  (getI x739 x741).bind fun x742 =>
  (getI x5 x179).bind fun x743 =>
  (getI x743 x720).bind fun x745 =>
  (setI x739 x741 (wa .i64 x742 x745)).bind fun x746 =>
  (setI x719 x738 x746).bind fun x747 =>
  some (.inl (x747, wa .i64 x720 1))
 else
  some (.inr x719)
def dissect_coarsen_l7 (x1 : List (List Int)) (x110 : List Int) (x5 : List (List Int)) : (List (List Int)) × Int → Option (((List (List Int)) × Int) ⊕ (((List (List Int))))) := fun (x178, x179) =>
 if x179 < (x1.length : Int) then
  (getI x1 x179).bind fun x705 =>
  (loop (dissect_coarsen_l49 x705 x110 x179 x5) (x178, 0)).bind fun x735 =>
  some (.inl (x735, wa .i64 x179 1))
 else
  some (.inr x178)
def dissect_coarsen_l4 (x113 : List (List Int)) (x109 : List Int) : (List (List Int)) × Int → Option (((List (List Int)) × Int) ⊕ (((List (List Int))))) := fun (x121, x122) =>
 if x122 < (x113.length : Int) then
  (mkL 0 (x109.length : Int)).bind fun x751 =>
  (setI x121 x122 x751).bind fun x752 =>
  some (.inl (x752, wa .i64 x122 1))
 else
  some (.inr x121)
def dissect_coarsen_j50 (x60 : Int) (x782 : List Int) (x783 : List Int) : Option (((List Int) × (List Int) × Int) ⊕ (((List Int) × (List Int)))) :=
 some (.inl (x782, x783, wa .i64 x60 1))
def dissect_coarsen_l3 (x7 : List Int) (x3 : List Int) : (List Int) × (List Int) × Int → Option (((List Int) × (List Int) × Int) ⊕ (((List Int) × (List Int)))) := fun (x58, x59, x60) =>
 if x60 < (x7.length : Int) then
  (getI x7 x60).bind fun x784 =>
  if x784 < x60 then
   (getI x59 x784).bind fun x786 =>
   (setI x59 x60 x786).bind fun x787 =>
   (getI x787 x60).bind fun x788 =>
   (getI x58 x788).bind fun x789 =>
   (getI x3 x60).bind fun x790 =>
   (setI x58 x788 (wa .i64 x789 x790)).bind fun x791 =>
   dissect_coarsen_j50 x60 x791 x787
  else
   (setI x59 x60 (x58.length : Int)).bind fun x792 =>
   (getI x3 x60).bind fun x793 =>
   (app x58 [x793]).bind fun x796 =>
   dissect_coarsen_j50 x60 x796 x792
 else
  some (.inr (x58, x59))
def dissect_coarsen (x1 : List (List Int)) (x3 : List Int) (x5 : List (List Int)) (x7 : List Int) : Option ((List (List Int)) × (List Int) × (List (List Int)) × (List Int) × Bool) :=
 (mkL 0 (x7.length : Int)).bind fun x13 =>
 (loop (dissect_coarsen_l3 x7 x3) ([], x13, 0)).bind fun (x109, x110) =>
 (mkL ([] : List Int) (x109.length : Int)).bind fun x113 =>
 (loop (dissect_coarsen_l4 x113 x109) (x113, 0)).bind fun x133 =>
 (loop (dissect_coarsen_l7 x1 x110 x5) (x133, 0)).bind fun x226 =>
 (mkL ([] : List Int) (x109.length : Int)).bind fun x229 =>
 (mkL ([] : List Int) (x109.length : Int)).bind fun x232 =>
 (loop (dissect_coarsen_l35 x226) (x229, x232, 0)).bind (fun o => match o with
  | .inl (x549, x551) =>
   (dissect_weights x109).bind fun r552 =>
   if r552 = true then
    some (x549, x109, x551, x110, true)
   else
    some ([], [], [], [], false)
  | .inr () =>
   some ([], [], [], [], false))

def dissect_refine_j76 (x654 : Int) (x803 : List Int) (x804 : List Int) (x805 : Bool) : Option (((List Int) × (List Int) × Bool × Int) ⊕ (((List Int) × (List Int) × Bool))) :=
 some (.inl (x803, x804, x805, wa .i64 x654 1))
def dissect_refine_j77 (x769 : Int) (x823 : Int) : Option ((Int × Int) ⊕ (Int)) :=
 some (.inl (x823, wa .i64 x769 1))
def dissect_refine_l72 (x749 : List Int) (x651 : List Int) (x748 : Int) (x5 : List (List Int)) (x654 : Int) : Int × Int → Option ((Int × Int) ⊕ (Int)) := fun (x768, x769) =>
 if x769 < (x749.length : Int) then
  (getI x749 x769).bind fun x815 =>
  (getI x651 x815).bind fun x816 =>
  if x816 = x748 then
   (getI x5 x654).bind fun x825 =>
   (getI x825 x769).bind fun x827 =>
   dissect_refine_j77 x769 (ws .i64 x768 x827)
  else
   (getI x5 x654).bind fun x828 =>
   (getI x828 x769).bind fun x830 =>
   dissect_refine_j77 x769 (wa .i64 x768 x830)
 else
  some (.inr x768)
def dissect_refine_l69 (x293 : List Int) (x1 : List (List Int)) (x5 : List (List Int)) (x3 : List Int) (x26 : Int) (x27 : Int) : (List Int) × (List Int) × Bool × Int → Option (((List Int) × (List Int) × Bool × Int) ⊕ (((List Int) × (List Int) × Bool))) := fun (x651, x652, x653, x654) =>
 if x654 < (x293.length : Int) then
  (getI x651 x654).bind fun x748 =>
  (getI x1 x654).bind fun x749 =>
  (loop (dissect_refine_l72 x749 x651 x748 x5 x654) (0, 0)).bind fun x789 =>
  (if (0 : Int) < x789 then
   (getI x652 (ws .i64 1 x748)).bind fun x794 =>
   (getI x3 x654).bind fun x795 =>
   some (decide ((wm .i64 3 (wa .i64 x794 x795)) ≤ (wm .i64 2 (wa .i64 x26 x27))))
  else
   some false).bind fun r790 =>
  if r790 = true then
   (setI x651 x654 (ws .i64 1 x748)).bind fun x807 =>
   (getI x652 x748).bind fun x808 =>
   (getI x3 x654).bind fun x809 =>
   (setI x652 x748 (ws .i64 x808 x809)).bind fun x810 =>
   (getI x810 (ws .i64 1 x748)).bind fun x811 =>
   (getI x3 x654).bind fun x812 =>
   (setI x810 (ws .i64 1 x748) (wa .i64 x811 x812)).bind fun x813 =>
   dissect_refine_j76 x654 x807 x813 true
  else
   dissect_refine_j76 x654 x651 x652 x653
 else
  some (.inr (x651, x652, x653))
def dissect_refine_l52 (x1 : List (List Int)) (x5 : List (List Int)) (x3 : List Int) (x26 : Int) (x27 : Int) : (List Int) × (List Int) × Int → Option (((List Int) × (List Int) × Int) ⊕ (((List Int)) ⊕ ((List Int)))) := fun (x293, x294, x295) =>
 if x295 < 4 then
  (loop (dissect_refine_l69 x293 x1 x5 x3 x26 x27) (x293, x294, false, 0)).bind fun (x743, x744, x745) =>
  if x745 = true then
   some (.inl (x743, x744, wa .i64 x295 1))
  else
   some (.inr (.inr x743))
 else
  some (.inr (.inl x293))
def dissect_refine_l1 (x7 : List Int) (x3 : List Int) : (List Int) × Int → Option (((List Int) × Int) ⊕ (((List Int)))) := fun (x16, x17) =>
 if x17 < (x7.length : Int) then
  (getI x7 x17).bind fun x832 =>
  (getI x16 x832).bind fun x833 =>
  (getI x3 x17).bind fun x834 =>
  (setI x16 x832 (wa .i64 x833 x834)).bind fun x835 =>
  some (.inl (x835, wa .i64 x17 1))
 else
  some (.inr x16)
def dissect_refine (x1 : List (List Int)) (x3 : List Int) (x5 : List (List Int)) (x7 : List Int) : Option ((List Int)) :=
 (loop (dissect_refine_l1 x7 x3) ([0, 0], 0)).bind fun x25 =>
 (getI x25 0).bind fun x26 =>
 (getI x25 1).bind fun x27 =>
 (loop (dissect_refine_l52 x1 x5 x3 x26 x27) (x7, x25, 0)).bind (fun o => match o with
  | .inl x564 =>
   some x564
  | .inr x565 =>
   some x565)

def dissect_bisect_j5 (x1 : List (List Int)) (x3 : List Int) (x5 : List (List Int)) (x71 : List Int) : Option ((List Int) × Bool) :=
 (dissect_refine x1 x3 x5 x71).bind fun r72 =>
 some (r72, true)
def dissect_bisect_j8 (x1 : List (List Int)) (x3 : List Int) (x5 : List (List Int)) (x113 : List Int) : Option ((List Int) × Bool) :=
 dissect_bisect_j5 x1 x3 x5 x113
def dissect_bisect_l9 (r76 : (List (List Int)) × (List Int) × (List (List Int)) × (List Int) × Bool) (r115 : (List Int) × Bool) : (List Int) × Int → Option (((List Int) × Int) ⊕ (((List Int)))) := fun (x122, x123) =>
 if x123 < (r76.2.2.2.1.length : Int) then
  (getI r76.2.2.2.1 x123).bind fun x132 =>
  (getI r115.1 x132).bind fun x133 =>
  (setI x122 x123 x133).bind fun x134 =>
  some (.inl (x134, wa .i64 x123 1))
 else
  some (.inr x122)
def dissect_bisect_body (rec : (List (List Int)) → (List Int) → (List (List Int)) → Option ((List Int) × Bool)) (x1 : List (List Int)) (x3 : List Int) (x5 : List (List Int)) : Option ((List Int) × Bool) :=
 (dissect_grown x1 x3 x5).bind fun r8 =>
 if (8 : Int) < (x3.length : Int) then
  (dissect_match x1 x3 x5).bind fun r74 =>
  (dissect_coarsen x1 x3 x5 r74).bind fun r76 =>
  if r76.2.2.2.2 = true then
   if (r76.2.1.length : Int) < (x3.length : Int) then
    (rec r76.1 r76.2.1 r76.2.2.1).bind fun r115 =>
    if r115.2 = true then
     (loop (dissect_bisect_l9 r76 r115) (r8, 0)).bind fun x130 =>
     dissect_bisect_j8 x1 x3 x5 x130
    else
     some ([], false)
   else
    dissect_bisect_j8 x1 x3 x5 r8
  else
   some ([], false)
 else
  dissect_bisect_j5 x1 x3 x5 r8
def dissect_bisect : Nat → (List (List Int)) → (List Int) → (List (List Int)) → Option ((List Int) × Bool)
 | 0 => fun _ _ _ => none
 | n + 1 => dissect_bisect_body (dissect_bisect n)
end M
