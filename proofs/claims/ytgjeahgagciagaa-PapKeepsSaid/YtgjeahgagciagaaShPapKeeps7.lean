/- Texts of this claim, several in one, told shortly by a program of this claim (wip/x/shrink.py): what Go functions come to, and plain words on it. -/
import Derived.Test.YtgjeahgagciagaaShPapKeeps6
namespace Go.Proofs.Ytgjeahgagciagaa.Print
open Go.RowKit Go.Proofs.YtgjeahgagciagaaW.PrintWords Go.Proofs.YtgjeahgagciagaaW.PrintLast Go.Proofs.YtgjeahgagciagaaW.PrintMore
attribute [local go_sem] max2_int min2_int max_two min_two max_three min_three max_four min_four
set_option linter.unusedVariables false
set_option linter.unusedSimpArgs false
def tlv_Size.l0 : Nat → Int → List (S57) → Int → Int → Option (Int)
 | 0, _, _, _, _ => none
 | k + 1, x3, x6, x7, x8 => if x8 < x7 then (if 0 ≤ x8 then (if x8 < (x6.length : Int) then (tlv_Size.l0 k (wrap64 (x3 + (wrap64 (2 + (((rd_T57 x6 x8).f1).length : Int))))) x6 x7 (wrap64 (x8 + 1))) else (none)) else (none)) else (some x3)
def tlv_Size.f (k : Nat) (l0 : List (S57)) : Option (Int) := tlv_Size.l0 k 0 l0 (l0.length : Int) 0
end Go.Proofs.Ytgjeahgagciagaa.Print
namespace Go.Proofs.Ytgjeahgagciagaa.Print
open Go.RowKit Go.Proofs.YtgjeahgagciagaaW.PrintWords Go.Proofs.YtgjeahgagciagaaW.PrintLast Go.Proofs.YtgjeahgagciagaaW.PrintMore
attribute [local go_sem] max2_int min2_int max_two min_two max_three min_three max_four min_four
set_option linter.unusedVariables false
set_option linter.unusedSimpArgs false
def tlv_Put.l0 : Nat → List Int → List (S57) → Int → Int → Option (List Int × Int)
 | 0, _, _, _, _ => none
 | k + 1, x4, x10, x11, x12 => if x12 < x11 then (if 0 ≤ x12 then (if x12 < (x10.length : Int) then (if (((rd_T57 x10 x12).f1).length : Int) > 253 then (some (([] : List Int), 3)) else ((some (([(rd_T57 x10 x12).f0, (wrap64 ((((rd_T57 x10 x12).f1).length : Int) + 2)) % 256] : List Int) : List Int)).bind fun y109 => (if x4.length + y109.length < 140737488355328 then ((some (x4 ++ y109 : List Int)).bind fun y112 => (if y112.length + ((rd_T57 x10 x12).f1).length < 140737488355328 then (tlv_Put.l0 k (y112 ++ ((rd_T57 x10 x12).f1)) x10 x11 (wrap64 (x12 + 1))) else (none))) else (none)))) else (none)) else (none)) else (some (x4, 0))
def tlv_Put.f (k : Nat) (l0 : List (S57)) : Option (List Int × Int) := (tlv_Size.f k l0).bind fun t103 => (if 0 ≤ t103 then (if (t103 : Int).toNat ≤ 281474976710656 then (tlv_Put.l0 k (([] : List Int)) l0 (l0.length : Int) 0) else (none)) else (none))
end Go.Proofs.Ytgjeahgagciagaa.Print
namespace Go.Proofs.Ytgjeahgagciagaa.Print
open Go.RowKit Go.Proofs.YtgjeahgagciagaaW.PrintWords Go.Proofs.YtgjeahgagciagaaW.PrintLast Go.Proofs.YtgjeahgagciagaaW.PrintMore
attribute [local go_sem] max2_int min2_int max_two min_two max_three min_three max_four min_four
set_option linter.unusedVariables false
set_option linter.unusedSimpArgs false
def tlv_next.f (l0 : List Int) : Option (Int × List Int × List Int × Int) := if (l0.length : Int) < 2 then (some (0, ([] : List Int), ([] : List Int), 2)) else (if 1 < (l0.length : Int) then (if (wrap64 (rd l0 1)) < 2 then (some (0, ([] : List Int), ([] : List Int), 4)) else (if (wrap64 (rd l0 1)) > (l0.length : Int) then (some (0, ([] : List Int), ([] : List Int), 2)) else (if 0 < (l0.length : Int) then (if 2 ≤ (wrap64 (rd l0 1)) then (if (wrap64 (rd l0 1)) ≤ (l0.length : Int) then ((slices_Clone_byte_byte.f ((l0.take ((wrap64 (rd l0 1)) : Int).toNat).drop 2)).bind fun t149 => (if 0 ≤ (wrap64 (rd l0 1)) then (some (rd l0 0, t149, (l0.drop ((wrap64 (rd l0 1)) : Int).toNat), 0)) else (none))) else (none)) else (none)) else (none)))) else (none))
end Go.Proofs.Ytgjeahgagciagaa.Print
namespace Go.Proofs.Ytgjeahgagciagaa.Print
open Go.RowKit Go.Proofs.YtgjeahgagciagaaW.PrintWords Go.Proofs.YtgjeahgagciagaaW.PrintLast Go.Proofs.YtgjeahgagciagaaW.PrintMore
attribute [local go_sem] max2_int min2_int max_two min_two max_three min_three max_four min_four
set_option linter.unusedVariables false
set_option linter.unusedSimpArgs false
def tlv_Get.l0 : Nat → List Int → List (S57) → Option ((List (S57)) × Int)
 | 0, _, _ => none
 | k + 1, x0, x4 => if (x0.length : Int) > 0 then ((tlv_next.f x0).bind fun bt157 => (if bt157.2.2.2 = 0 then (if x4.length < 4398046511104 then (tlv_Get.l0 k bt157.2.2.1 (x4 ++ [(⟨bt157.1, bt157.2.1⟩ : S57)])) else (none)) else (some (([] : List (S57)), bt157.2.2.2)))) else (some (x4, 0))
def tlv_Get.f (k : Nat) (l0 : List Int) : Option ((List (S57)) × Int) := tlv_Get.l0 k l0 ([] : List (S57))
end Go.Proofs.Ytgjeahgagciagaa.Print
namespace Go.Proofs.Ytgjeahgagciagaa.Print
open Go.RowKit Go.Proofs.YtgjeahgagciagaaW.PrintWords Go.Proofs.YtgjeahgagciagaaW.PrintLast Go.Proofs.YtgjeahgagciagaaW.PrintMore
attribute [local go_sem] max2_int min2_int max_two min_two max_three min_three max_four min_four
set_option linter.unusedVariables false
set_option linter.unusedSimpArgs false
def tlv_Same.one (x y : S57) : Bool := x.f0 == y.f0 && (strOfNums x.f1).toList == (strOfNums y.f1).toList
def tlv_Same.f (l0 l1 : List S57) : Option Bool := some (l0.length == l1.length && (l0.zip l1).all fun p => tlv_Same.one p.1 p.2)
end Go.Proofs.Ytgjeahgagciagaa.Print
namespace Go.Proofs.Ytgjeahgagciagaa.Print
open Go.RowKit Go.Proofs.YtgjeahgagciagaaW.PrintWords Go.Proofs.YtgjeahgagciagaaW.PrintLast Go.Proofs.YtgjeahgagciagaaW.PrintMore
attribute [local go_sem] max2_int min2_int max_two min_two max_three min_three max_four min_four
set_option linter.unusedVariables false
set_option linter.unusedSimpArgs false
def marlinelaw12_speaks.f (k : Nat)  : Option (Bool) := (tlv_Put.f k (([(⟨1, (([5, 220] : List Int))⟩ : S57)] : List (S57)))).bind fun bt126 => (if bt126.2 = 0 then ((marlineref01_Equal.f k bt126.1 (([1, 4, 5, 220] : List Int))).bind fun t133 => (some t133)) else (some false))
end Go.Proofs.Ytgjeahgagciagaa.Print
namespace Go.Proofs.Ytgjeahgagciagaa.Print
open Go.RowKit Go.Proofs.YtgjeahgagciagaaW.PrintWords Go.Proofs.YtgjeahgagciagaaW.PrintLast Go.Proofs.YtgjeahgagciagaaW.PrintMore
attribute [local go_sem] max2_int min2_int max_two min_two max_three min_three max_four min_four
set_option linter.unusedVariables false
set_option linter.unusedSimpArgs false
def marlineref13_Put.f (a0 : Int) (a1 : Int) (l2 : List Int) : Option (List Int × Int) := if (wrap64 ((l2.length : Int) + 4)) > 65535 then (some (([] : List Int), 3)) else ((some (([a0, a1, (wrap64 (Int.tdiv (wrap64 ((l2.length : Int) + 4)) 256)) % 256, (Int.tmod (wrap64 ((l2.length : Int) + 4)) 256) % 256] : List Int) : List Int)).bind fun y674 => (if y674.length + l2.length < 140737488355328 then (some ((y674 ++ l2), 0)) else (none)))
end Go.Proofs.Ytgjeahgagciagaa.Print
namespace Go.Proofs.Ytgjeahgagciagaa.Print
open Go.RowKit Go.Proofs.YtgjeahgagciagaaW.PrintWords Go.Proofs.YtgjeahgagciagaaW.PrintLast Go.Proofs.YtgjeahgagciagaaW.PrintMore
attribute [local go_sem] max2_int min2_int max_two min_two max_three min_three max_four min_four
set_option linter.unusedVariables false
set_option linter.unusedSimpArgs false
def marlineref13_Get.f (l0 : List Int) : Option (Int × Int × List Int × Int × Int) := if (l0.length : Int) < 4 then (some (0, 0, ([] : List Int), 0, 2)) else (if 2 < (l0.length : Int) then (if 3 < (l0.length : Int) then (if (wrap64 ((wrap64 (256 * (wrap64 (rd l0 2)))) + (wrap64 (rd l0 3)))) < 4 then (some (0, 0, ([] : List Int), 0, 4)) else (if (wrap64 ((wrap64 (256 * (wrap64 (rd l0 2)))) + (wrap64 (rd l0 3)))) > (l0.length : Int) then (some (0, 0, ([] : List Int), 0, 2)) else (if 0 < (l0.length : Int) then (if 1 < (l0.length : Int) then (if 4 ≤ (wrap64 ((wrap64 (256 * (wrap64 (rd l0 2)))) + (wrap64 (rd l0 3)))) then (if (wrap64 ((wrap64 (256 * (wrap64 (rd l0 2)))) + (wrap64 (rd l0 3)))) ≤ (l0.length : Int) then (some (rd l0 0, rd l0 1, ((l0.take ((wrap64 ((wrap64 (256 * (wrap64 (rd l0 2)))) + (wrap64 (rd l0 3)))) : Int).toNat).drop 4), wrap64 ((l0.length : Int) - (wrap64 ((wrap64 (256 * (wrap64 (rd l0 2)))) + (wrap64 (rd l0 3))))), 0)) else (none)) else (none)) else (none)) else (none)))) else (none)) else (none))
end Go.Proofs.Ytgjeahgagciagaa.Print
namespace Go.Proofs.Ytgjeahgagciagaa.Print
open Go.RowKit Go.Proofs.YtgjeahgagciagaaW.PrintWords Go.Proofs.YtgjeahgagciagaaW.PrintLast Go.Proofs.YtgjeahgagciagaaW.PrintMore
attribute [local go_sem] max2_int min2_int max_two min_two max_three min_three max_four min_four
set_option linter.unusedVariables false
set_option linter.unusedSimpArgs false
mutual
def marlineref17_Put.j0 : Nat → Bool → Int → Int → Int → List (S56) → Int → Int → List Int → List Int → List Int → List Int → Option (List Int × Int)
 | 0, _, _, _, _, _, _, _, _, _, _, _ => none
 | k + 1, x27, x889000, x889001, x889002, x889003, x889004, x889005, x889006, x889007, x889008, x889009 => if x27 = true then (some (([] : List Int), 9)) else (if x889001 = 1 then (if x889001 = 0 then (if (x889006.length : Int) > 0 then (marlineref17_Put.j1 k true x889000 x889001 x889002 x889003 x889004 x889005 x889006 x889007 x889008 x889009) else (if x889001 ≥ 1 then (if x889001 ≤ 3 then (marlineref17_Put.j1 k (decide ((x889008.length : Int) > 0)) x889000 x889001 x889002 x889003 x889004 x889005 x889006 x889007 x889008 x889009) else (marlineref17_Put.j1 k false x889000 x889001 x889002 x889003 x889004 x889005 x889006 x889007 x889008 x889009)) else (marlineref17_Put.j1 k false x889000 x889001 x889002 x889003 x889004 x889005 x889006 x889007 x889008 x889009))) else (if x889001 > 3 then (if (x889006.length : Int) > 0 then (marlineref17_Put.j1 k true x889000 x889001 x889002 x889003 x889004 x889005 x889006 x889007 x889008 x889009) else (if x889001 ≥ 1 then (if x889001 ≤ 3 then (marlineref17_Put.j1 k (decide ((x889008.length : Int) > 0)) x889000 x889001 x889002 x889003 x889004 x889005 x889006 x889007 x889008 x889009) else (marlineref17_Put.j1 k false x889000 x889001 x889002 x889003 x889004 x889005 x889006 x889007 x889008 x889009)) else (marlineref17_Put.j1 k false x889000 x889001 x889002 x889003 x889004 x889005 x889006 x889007 x889008 x889009))) else (if x889001 ≥ 1 then (if x889001 ≤ 3 then (marlineref17_Put.j1 k (decide ((x889008.length : Int) > 0)) x889000 x889001 x889002 x889003 x889004 x889005 x889006 x889007 x889008 x889009) else (marlineref17_Put.j1 k false x889000 x889001 x889002 x889003 x889004 x889005 x889006 x889007 x889008 x889009)) else (marlineref17_Put.j1 k false x889000 x889001 x889002 x889003 x889004 x889005 x889006 x889007 x889008 x889009)))) else (if (x889007.length : Int) > 0 then (marlineref17_Put.j1 k true x889000 x889001 x889002 x889003 x889004 x889005 x889006 x889007 x889008 x889009) else (if x889001 = 0 then (if (x889006.length : Int) > 0 then (marlineref17_Put.j1 k true x889000 x889001 x889002 x889003 x889004 x889005 x889006 x889007 x889008 x889009) else (if x889001 ≥ 1 then (if x889001 ≤ 3 then (marlineref17_Put.j1 k (decide ((x889008.length : Int) > 0)) x889000 x889001 x889002 x889003 x889004 x889005 x889006 x889007 x889008 x889009) else (marlineref17_Put.j1 k false x889000 x889001 x889002 x889003 x889004 x889005 x889006 x889007 x889008 x889009)) else (marlineref17_Put.j1 k false x889000 x889001 x889002 x889003 x889004 x889005 x889006 x889007 x889008 x889009))) else (if x889001 > 3 then (if (x889006.length : Int) > 0 then (marlineref17_Put.j1 k true x889000 x889001 x889002 x889003 x889004 x889005 x889006 x889007 x889008 x889009) else (if x889001 ≥ 1 then (if x889001 ≤ 3 then (marlineref17_Put.j1 k (decide ((x889008.length : Int) > 0)) x889000 x889001 x889002 x889003 x889004 x889005 x889006 x889007 x889008 x889009) else (marlineref17_Put.j1 k false x889000 x889001 x889002 x889003 x889004 x889005 x889006 x889007 x889008 x889009)) else (marlineref17_Put.j1 k false x889000 x889001 x889002 x889003 x889004 x889005 x889006 x889007 x889008 x889009))) else (if x889001 ≥ 1 then (if x889001 ≤ 3 then (marlineref17_Put.j1 k (decide ((x889008.length : Int) > 0)) x889000 x889001 x889002 x889003 x889004 x889005 x889006 x889007 x889008 x889009) else (marlineref17_Put.j1 k false x889000 x889001 x889002 x889003 x889004 x889005 x889006 x889007 x889008 x889009)) else (marlineref17_Put.j1 k false x889000 x889001 x889002 x889003 x889004 x889005 x889006 x889007 x889008 x889009))))))
def marlineref17_Put.j1 : Nat → Bool → Int → Int → Int → List (S56) → Int → Int → List Int → List Int → List Int → List Int → Option (List Int × Int)
 | 0, _, _, _, _, _, _, _, _, _, _, _ => none
 | k + 1, x68, x889000, x889001, x889002, x889003, x889004, x889005, x889006, x889007, x889008, x889009 => if x68 = true then (some (([] : List Int), 9)) else (if (x889006.length : Int) > 255 then (marlineref17_Put.j2 k true x889000 x889001 x889002 x889003 x889004 x889005 x889006 x889007 x889008 x889009) else (marlineref17_Put.j2 k (decide ((x889007.length : Int) > 255)) x889000 x889001 x889002 x889003 x889004 x889005 x889006 x889007 x889008 x889009))
def marlineref17_Put.j2 : Nat → Bool → Int → Int → Int → List (S56) → Int → Int → List Int → List Int → List Int → List Int → Option (List Int × Int)
 | 0, _, _, _, _, _, _, _, _, _, _, _ => none
 | k + 1, x78, x889000, x889001, x889002, x889003, x889004, x889005, x889006, x889007, x889008, x889009 => if x78 = true then (some (([] : List Int), 3)) else ((some (([] : List Int) : List Int)).bind fun y889 => (if y889.length + x889008.length < 140737488355328 then ((some (y889 ++ x889008 : List Int)).bind fun y892 => (if x889001 ≥ 1 then (marlineref17_Put.j3 k y892 (decide (x889001 ≤ 3)) x889000 x889001 x889002 x889003 x889004 x889005 x889006 x889007 x889008 x889009) else (marlineref17_Put.j3 k y892 false x889000 x889001 x889002 x889003 x889004 x889005 x889006 x889007 x889008 x889009))) else (none)))
def marlineref17_Put.j3 : Nat → List Int → Bool → Int → Int → Int → List (S56) → Int → Int → List Int → List Int → List Int → List Int → Option (List Int × Int)
 | 0, _, _, _, _, _, _, _, _, _, _, _, _ => none
 | k + 1, x4, x90, x889000, x889001, x889002, x889003, x889004, x889005, x889006, x889007, x889008, x889009 => if x90 = true then (if x4.length < 140737488355328 then ((some (x4 ++ [((x889006.length : Int)) % 256] : List Int)).bind fun y895 => (if y895.length + x889006.length < 140737488355328 then (marlineref17_Put.j4 k (y895 ++ x889006) x889000 x889001 x889002 x889003 x889004 x889005 x889006 x889007 x889008 x889009) else (none))) else (none)) else (marlineref17_Put.j4 k x4 x889000 x889001 x889002 x889003 x889004 x889005 x889006 x889007 x889008 x889009)
def marlineref17_Put.j4 : Nat → List Int → Int → Int → Int → List (S56) → Int → Int → List Int → List Int → List Int → List Int → Option (List Int × Int)
 | 0, _, _, _, _, _, _, _, _, _, _, _ => none
 | k + 1, x4, x889000, x889001, x889002, x889003, x889004, x889005, x889006, x889007, x889008, x889009 => if x889001 = 1 then (if x4.length < 140737488355328 then ((some (x4 ++ [((x889007.length : Int)) % 256] : List Int)).bind fun y901 => (if y901.length + x889007.length < 140737488355328 then (marlineref17_Put.j5 k (y901 ++ x889007) x889000 x889001 x889002 x889003 x889004 x889005 x889006 x889007 x889008 x889009) else (none))) else (none)) else (marlineref17_Put.j5 k x4 x889000 x889001 x889002 x889003 x889004 x889005 x889006 x889007 x889008 x889009)
def marlineref17_Put.j5 : Nat → List Int → Int → Int → Int → List (S56) → Int → Int → List Int → List Int → List Int → List Int → Option (List Int × Int)
 | 0, _, _, _, _, _, _, _, _, _, _, _ => none
 | k + 1, x4, x889000, x889001, x889002, x889003, x889004, x889005, x889006, x889007, x889008, x889009 => (marlineref13_Put.f x889001 x889002 x4).bind fun bt907 => (some (bt907.1, bt907.2))
end
def marlineref17_Put.f (k : Nat) (a0_0 : Int) (a0_1 : Int) (a0_2 : Int) (l0_3 : List (S56)) (a0_4 : Int) (a0_5 : Int) (l0_6 : List Int) (l0_7 : List Int) (l0_8 : List Int) (l0_9 : List Int) : Option (List Int × Int) := if a0_0 = 49187 then (if (l0_3.length : Int) > 0 then (marlineref17_Put.j0 k true a0_0 a0_1 a0_2 l0_3 a0_4 a0_5 l0_6 l0_7 l0_8 l0_9) else (if a0_4 = 0 then (if a0_5 = 0 then (marlineref17_Put.j0 k (decide ((l0_9.length : Int) > 0)) a0_0 a0_1 a0_2 l0_3 a0_4 a0_5 l0_6 l0_7 l0_8 l0_9) else (marlineref17_Put.j0 k true a0_0 a0_1 a0_2 l0_3 a0_4 a0_5 l0_6 l0_7 l0_8 l0_9)) else (marlineref17_Put.j0 k true a0_0 a0_1 a0_2 l0_3 a0_4 a0_5 l0_6 l0_7 l0_8 l0_9))) else (some (([] : List Int), 8))
end Go.Proofs.Ytgjeahgagciagaa.Print
namespace Go.Proofs.Ytgjeahgagciagaa.Print
open Go.RowKit Go.Proofs.YtgjeahgagciagaaW.PrintWords Go.Proofs.YtgjeahgagciagaaW.PrintLast Go.Proofs.YtgjeahgagciagaaW.PrintMore
attribute [local go_sem] max2_int min2_int max_two min_two max_three min_three max_four min_four
set_option linter.unusedVariables false
set_option linter.unusedSimpArgs false
def marlineref17_Text.f (l0 : List Int) (a1 : Int) : Option (List Int × Int) := if a1 ≥ (l0.length : Int) then (some (([] : List Int), (-1))) else (if 0 ≤ a1 then (if a1 < (l0.length : Int) then (if (wrap64 ((wrap64 (a1 + 1)) + (wrap64 (rd l0 a1)))) > (l0.length : Int) then (some (([] : List Int), (-1))) else (if 0 ≤ (wrap64 (a1 + 1)) then (if (wrap64 (a1 + 1)) ≤ (wrap64 ((wrap64 (a1 + 1)) + (wrap64 (rd l0 a1)))) then (if (wrap64 ((wrap64 (a1 + 1)) + (wrap64 (rd l0 a1)))) ≤ (l0.length : Int) then (some (((l0.take ((wrap64 ((wrap64 (a1 + 1)) + (wrap64 (rd l0 a1)))) : Int).toNat).drop ((wrap64 (a1 + 1)) : Int).toNat), wrap64 ((wrap64 (a1 + 1)) + (wrap64 (rd l0 a1))))) else (none)) else (none)) else (none))) else (none)) else (none))
end Go.Proofs.Ytgjeahgagciagaa.Print
namespace Go.Proofs.Ytgjeahgagciagaa.Print
open Go.RowKit Go.Proofs.YtgjeahgagciagaaW.PrintWords Go.Proofs.YtgjeahgagciagaaW.PrintLast Go.Proofs.YtgjeahgagciagaaW.PrintMore
attribute [local go_sem] max2_int min2_int max_two min_two max_three min_three max_four min_four
set_option linter.unusedVariables false
set_option linter.unusedSimpArgs false
mutual
def marlineref17_Get.j0 : Nat → Int → List Int → Bool → Int → Int → Int → Int → Int → Option (Int × Int × Int × (List (S56)) × Int × Int × List Int × List Int × List Int × List Int × Int)
 | 0, _, _, _, _, _, _, _, _ => none
 | k + 1, x4, x6, x34, x236000, x236001, x236002, x236004, x236005 => if x34 = true then (some (x236000, x236001, x236002, ([] : List (S56)), x236004, x236005, ([] : List Int), ([] : List Int), x6, ([] : List Int), 0)) else ((marlineref17_Text.f x6 0).bind fun bt236 => (if bt236.2 < 0 then (some (0, 0, 0, ([] : List (S56)), 0, 0, ([] : List Int), ([] : List Int), ([] : List Int), ([] : List Int), 2)) else (if x4 = 1 then ((marlineref17_Text.f x6 bt236.2).bind fun bt240 => (if bt240.2 < 0 then (some (0, 0, 0, ([] : List (S56)), 0, 0, ([] : List Int), ([] : List Int), ([] : List Int), ([] : List Int), 2)) else (marlineref17_Get.j1 k x6 bt240.2 x236000 x236001 x236002 x236004 x236005 bt236.1 bt240.1))) else (marlineref17_Get.j1 k x6 bt236.2 x236000 x236001 x236002 x236004 x236005 bt236.1 ([] : List Int)))))
def marlineref17_Get.j1 : Nat → List Int → Int → Int → Int → Int → Int → Int → List Int → List Int → Option (Int × Int × Int × (List (S56)) × Int × Int × List Int × List Int × List Int × List Int × Int)
 | 0, _, _, _, _, _, _, _, _, _ => none
 | k + 1, x6, x11, x236000, x236001, x236002, x236004, x236005, x236006, x236007 => if x11 < (x6.length : Int) then (some (0, 0, 0, ([] : List (S56)), 0, 0, ([] : List Int), ([] : List Int), ([] : List Int), ([] : List Int), 4)) else (some (x236000, x236001, x236002, ([] : List (S56)), x236004, x236005, x236006, x236007, ([] : List Int), ([] : List Int), 0))
end
def marlineref17_Get.f (k : Nat) (l0 : List Int) : Option (Int × Int × Int × (List (S56)) × Int × Int × List Int × List Int × List Int × List Int × Int) := (marlineref13_Get.f l0).bind fun bt228 => (if bt228.2.2.2.2 = 0 then (if bt228.1 = 0 then (marlineref17_Get.j0 k bt228.1 bt228.2.2.1 true 49187 bt228.1 bt228.2.1 0 0) else (marlineref17_Get.j0 k bt228.1 bt228.2.2.1 (decide (bt228.1 > 3)) 49187 bt228.1 bt228.2.1 0 0)) else (some (0, 0, 0, ([] : List (S56)), 0, 0, ([] : List Int), ([] : List Int), ([] : List Int), ([] : List Int), bt228.2.2.2.2)))
end Go.Proofs.Ytgjeahgagciagaa.Print
namespace Go.Proofs.Ytgjeahgagciagaa.Print
open Go.RowKit Go.Proofs.YtgjeahgagciagaaW.PrintWords Go.Proofs.YtgjeahgagciagaaW.PrintLast Go.Proofs.YtgjeahgagciagaaW.PrintMore
attribute [local go_sem] max2_int min2_int max_two min_two max_three min_three max_four min_four
set_option linter.unusedVariables false
set_option linter.unusedSimpArgs false
def marlinelaw17_PapTells.j0 : Nat → List Int → Bool → Int → Int → Int → List (S56) → Int → Int → List Int → List Int → List Int → List Int → Option (Bool)
 | 0, _, _, _, _, _, _, _, _, _, _, _, _ => none
 | k + 1, x1, x24, x267000, x267001, x267002, x267003, x267004, x267005, x267006, x267007, x267008, x267009 => if x24 = true then ((marlinelaw17_speaks.f k).bind fun t269 => (some t269)) else ((marlinelaw15_Of.f k x267000 x267001 x267002 x267003 x267004 x267005 x267006 x267007 x267008 x267009).bind fun bt270 => ((pap_Put.f k bt270.1 bt270.2.1 bt270.2.2.1 bt270.2.2.2.1 bt270.2.2.2.2.1 bt270.2.2.2.2.2.1 bt270.2.2.2.2.2.2.1 bt270.2.2.2.2.2.2.2.1 bt270.2.2.2.2.2.2.2.2.1 bt270.2.2.2.2.2.2.2.2.2).bind fun bt290 => ((marlineref17_Put.f k x267000 x267001 x267002 x267003 x267004 x267005 x267006 x267007 x267008 x267009).bind fun bt294 => ((pap_Get.f k x1).bind fun bt298 => ((marlineref17_Get.f k x1).bind fun bt320 => (if bt290.2 = bt294.2 then ((marlineref01_Equal.f k bt290.1 bt294.1).bind fun t342 => (if t342 = true then (if bt298.2.2.2.2.2.2.2.2.2.2 = bt320.2.2.2.2.2.2.2.2.2.2 then ((marlinelaw15_To.f k bt298.1 bt298.2.1 bt298.2.2.1 bt298.2.2.2.1 bt298.2.2.2.2.1 bt298.2.2.2.2.2.1 bt298.2.2.2.2.2.2.1 bt298.2.2.2.2.2.2.2.1 bt298.2.2.2.2.2.2.2.2.1 bt298.2.2.2.2.2.2.2.2.2.1).bind fun bt343 => ((marlineref15_Same.f k bt343.1 bt343.2.1 bt343.2.2.1 bt343.2.2.2.1 bt343.2.2.2.2.1 bt343.2.2.2.2.2.1 bt343.2.2.2.2.2.2.1 bt343.2.2.2.2.2.2.2.1 bt343.2.2.2.2.2.2.2.2.1 bt343.2.2.2.2.2.2.2.2.2 bt320.1 bt320.2.1 bt320.2.2.1 bt320.2.2.2.1 bt320.2.2.2.2.1 bt320.2.2.2.2.2.1 bt320.2.2.2.2.2.2.1 bt320.2.2.2.2.2.2.2.1 bt320.2.2.2.2.2.2.2.2.1 bt320.2.2.2.2.2.2.2.2.2.1).bind fun t363 => (some t363))) else (none)) else (none))) else (none)))))))
def marlinelaw17_PapTells.f (k : Nat) (a0_0 : Int) (a0_1 : Int) (a0_2 : Int) (l0_3 : List (S56)) (a0_4 : Int) (a0_5 : Int) (l0_6 : List Int) (l0_7 : List Int) (l0_8 : List Int) (l0_9 : List Int) (l1 : List Int) : Option (Bool) := (marlinelaw17_speaks.f k).bind fun t267 => (if t267 = true then ((marlinelaw15_Few.f k a0_0 a0_1 a0_2 l0_3 a0_4 a0_5 l0_6 l0_7 l0_8 l0_9).bind fun t268 => (if t268 = true then (marlinelaw17_PapTells.j0 k l1 (decide ((l1.length : Int) > 600)) a0_0 a0_1 a0_2 l0_3 a0_4 a0_5 l0_6 l0_7 l0_8 l0_9) else (marlinelaw17_PapTells.j0 k l1 true a0_0 a0_1 a0_2 l0_3 a0_4 a0_5 l0_6 l0_7 l0_8 l0_9))) else (marlinelaw17_PapTells.j0 k l1 true a0_0 a0_1 a0_2 l0_3 a0_4 a0_5 l0_6 l0_7 l0_8 l0_9))
end Go.Proofs.Ytgjeahgagciagaa.Print
