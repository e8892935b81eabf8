/- Part 4 of 6 of a proof: an evaluator of the program's code, its soundness, the code's functions as plain Lean functions, plain mathematics. -/
import Derived.Laws.MathBits
import Derived.Test.YthghchjbomlpfaaGreatProg
import Derived.Test.YthghchjbomlpfaaGreatZc
namespace Go.Proofs.YthghchjbomlpfaaGreat.Ev
set_option linter.unusedVariables false
set_option maxRecDepth 100000
abbrev Y0 : Ty := .agg (.pair .bool .str)
abbrev D0 : Type := Bool × ByteArray
abbrev Y1 : Ty := .agg (.pair Y0 .str)
abbrev D1 : Type := D0 × ByteArray
abbrev Y2 : Ty := .agg (.pair Y1 Y1)
abbrev D2 : Type := D1 × D1
abbrev Y3 : Ty := .agg (.pair Y2 Y2)
abbrev D3 : Type := D2 × D2
abbrev Y4 : Ty := .agg (.pair (.int .u8) (.pair (.int .u8) (.int .u8)))
abbrev D4 : Type := Int × Int × Int
def ctx : Ctx := { tab := [(3, (.int .i64), 0), (4, .bool, 0), (5, (.int .u8), 0), (9, .str, 0), (22, .str, 0), (24, Y0, 0), (26, Y1, 0), (28, Y2, 0), (30, Y3, 0), (31, (.int .i64), 0), (38, (.slice Y1), 40), (39, (.slice Y1), 40), (47, (.slice (.int .i64)), 8), (62, (.arr 2 Y2), 0), (64, Y4, 0), (81, (.arr 2 Y3), 0), (82, (.arr 2 Y1), 0), (129, (.slice (.int .i64)), 8), (139, (.arr 4 Y1), 0), (145, (.int .u64), 0), (149, (.slice (.int .u64)), 8), (154, (.slice (.int .u8)), 1), (158, (.int .u64), 0)], muts := [(222, [0])], agrs := [(147, 1)], fns := [49, 60, 75] }
def awakeT : Option Bool := some true
def awakeT.C {β : Type} : Fun β := fun xs κ => match xs with
  | [] => κ [.data .bool true]
  | _ => none
end Go.Proofs.YthghchjbomlpfaaGreat.Ev

namespace Go.Proofs.YthghchjbomlpfaaGreat.Ev
set_option linter.unusedVariables false
set_option maxRecDepth 100000
def galoisref01_pack.top (j0 : Int → (List Int) → (List Int) → Option ByteArray) (a0 : List Int) : Option ByteArray :=
  j0 (IntKind.wrap .i64 ((a0.length : Int) - 1)) a0 ([] : List Int)
def galoisref01_pack.b0 (j1 : Int → Int → (List Int) → (List Int) → Option ByteArray) (x0 : Int) (l1 l2 : List Int) : Option ByteArray :=
  bif decide (0 ≤ x0) then (j1 x0 24 l1 l2) else (some (strOf l2))
def galoisref01_pack.b1 (j0 : Int → (List Int) → (List Int) → Option ByteArray) (j1 : Int → Int → (List Int) → (List Int) → Option ByteArray) (x0 x1 : Int) (l2 l3 : List Int) : Option ByteArray :=
  bif decide (0 ≤ x1) then (if 0 ≤ x0 ∧ x0 < (l2.length : Int) then (if x1 < 0 then none else (bif decide (0 < (l3.length : Int)) then (if l3.length + ([IntKind.wrap .u8 (Int.fdiv (List.getD l2 (Int.toNat x0) 0) (2 ^ min (Int.toNat x1) 64))] : List Int).length < 140737488355328 / 1 then (j1 x0 (IntKind.wrap .i64 (x1 - 8)) l2 (l3 ++ ([IntKind.wrap .u8 (Int.fdiv (List.getD l2 (Int.toNat x0) 0) (2 ^ min (Int.toNat x1) 64))] : List Int))) else none) else (bif decide (0 < (IntKind.wrap .u8 (Int.fdiv (List.getD l2 (Int.toNat x0) 0) (2 ^ min (Int.toNat x1) 64)))) then (if l3.length + ([IntKind.wrap .u8 (Int.fdiv (List.getD l2 (Int.toNat x0) 0) (2 ^ min (Int.toNat x1) 64))] : List Int).length < 140737488355328 / 1 then (j1 x0 (IntKind.wrap .i64 (x1 - 8)) l2 (l3 ++ ([IntKind.wrap .u8 (Int.fdiv (List.getD l2 (Int.toNat x0) 0) (2 ^ min (Int.toNat x1) 64))] : List Int))) else none) else (j1 x0 (IntKind.wrap .i64 (x1 - 8)) l2 l3)))) else none) else (j0 (IntKind.wrap .i64 (x0 - 1)) l2 l3)
mutual
def galoisref01_pack.l0 : Nat → Int → (List Int) → (List Int) → Option ByteArray
  | 0, _, _, _ => none
  | n + 1, x0, l1, l2 => galoisref01_pack.b0 (galoisref01_pack.l1 n) x0 l1 l2
def galoisref01_pack.l1 : Nat → Int → Int → (List Int) → (List Int) → Option ByteArray
  | 0, _, _, _, _ => none
  | n + 1, x0, x1, l2, l3 => galoisref01_pack.b1 (galoisref01_pack.l0 n) (galoisref01_pack.l1 n) x0 x1 l2 l3
end
def galoisref01_pack (k : Nat) (a0 : List Int) : Option ByteArray :=
  galoisref01_pack.top (galoisref01_pack.l0 k) a0
def galoisref01_pack.note : Note := { cert := (.two .none (.two .none (.two (.two .none (.one (.lab 0 [0, 3, 4] [] [] (.one (.two .none (.two (.one (.two .none (.one (.lab 1 [0, 3, 4, 5] [] [] .none)))) .none)))))) .none))) }
def galoisref01_pack.s0 (L : Labels ByteArray) (x0 : Int) (l1 l2 : List Int) : Option ByteArray := L 0 (mkE 38 0 [(0, .own 0), (3, .own 1), (4, .data (.int .i64) x0)]) (ofList [.arr .ro (.int .u64) l1, .arr .own (.int .u8) l2]) 2
def galoisref01_pack.s1 (L : Labels ByteArray) (x0 x1 : Int) (l2 l3 : List Int) : Option ByteArray := L 1 (mkE 38 0 [(0, .own 0), (3, .own 1), (4, .data (.int .i64) x0), (5, .data (.int .i64) x1)]) (ofList [.arr .ro (.int .u64) l2, .arr .own (.int .u8) l3]) 2
def galoisref01_pack.C {β : Type} (k : Nat) : Fun β := cN [.d (.slice (.int .u64))] (rsR [.d .str]) (galoisref01_pack k)
def galoisref01_Of (k : Nat) (a0 : Int) : Option ByteArray :=
  (galoisref01_pack k ([IntKind.wrap .u64 (((BitVec.ofInt 64 a0 &&& BitVec.ofInt 64 4294967295).toNat : Int)), Int.fdiv a0 4294967296] : List Int)).bind fun t1 => some t1
def galoisref01_Of.note : Note := { cert := .none }
def galoisref01_Of.orc {β : Type} (k : Nat) : Oracle β := orcOf [(209, galoisref01_pack.C k)]
def galoisref01_Of.C {β : Type} (k : Nat) : Fun β := cN [.d (.int .u64)] (rsR [.d .str]) (galoisref01_Of k)
def galoisref02_FromInt (k : Nat) (a0 : Int) : Option D0 :=
  bif decide (a0 < 0) then ((galoisref01_Of k (IntKind.wrap .u64 ((IntKind.wrap .u64 (IntKind.wrap .i64 (0 - (IntKind.wrap .i64 (a0 + 1))))) + 1))).bind fun t1 => some (true, t1)) else ((galoisref01_Of k (IntKind.wrap .u64 (a0))).bind fun t2 => some (false, t2))
def galoisref02_FromInt.note : Note := { cert := .none }
def galoisref02_FromInt.orc {β : Type} (k : Nat) : Oracle β := orcOf [(190, galoisref01_Of.C k)]
def galoisref02_FromInt.C {β : Type} (k : Nat) : Fun β := cN [.d (.int .i64)] (rsR [.d Y0]) (galoisref02_FromInt k)
def galoisref01_trim.top (j0 : Nat → (List Int) → Option Nat) (a0 : List Int) : Option Nat :=
  j0 a0.length a0
def galoisref01_trim.b0 (j0 : Nat → (List Int) → Option Nat) (n0 : Nat) (l1 : List Int) : Option Nat :=
  bif decide (0 < (n0 : Int)) then (if 0 ≤ (IntKind.wrap .i64 ((n0 : Int) - 1)) ∧ (IntKind.wrap .i64 ((n0 : Int) - 1)) < (n0 : Int) then (bif decide ((List.getD l1 (0 + (Int.toNat (IntKind.wrap .i64 ((n0 : Int) - 1)))) 0) = 0) then (if 0 ≤ (IntKind.wrap .i64 ((n0 : Int) - 1)) ∧ (IntKind.wrap .i64 ((n0 : Int) - 1)) ≤ (n0 : Int) then (j0 ((Int.toNat (IntKind.wrap .i64 ((n0 : Int) - 1))) - 0) l1) else none) else (some n0)) else none) else (some n0)
def galoisref01_trim.l0 : Nat → Nat → (List Int) → Option Nat
  | 0, _, _ => none
  | n + 1, n0, l1 => galoisref01_trim.b0 (galoisref01_trim.l0 n) n0 l1
def galoisref01_trim (k : Nat) (a0 : List Int) : Option Nat :=
  galoisref01_trim.top (galoisref01_trim.l0 k) a0
def galoisref01_trim.note : Note := { cert := (.two .none (.two (.one (.lab 0 [0] [0] [] .none)) .none)) }
def galoisref01_trim.s0 (L : Labels Nat) (n0 : Nat) (l1 : List Int) : Option Nat := L 0 (mkE 21 0 [(0, .sl 0 0 n0)]) (ofList [.arr .ro (.int .u64) l1]) 1
def galoisref01_trim.C {β : Type} (k : Nat) : Fun β := cN [.d (.slice (.int .u64))] (rsR [.w 0]) (galoisref01_trim k)
def galoisref01_limbs.top (k : Nat) (j0 : ByteArray → Int → (List Int) → Option ((List Int))) (a0 : ByteArray) : Option ((List Int)) :=
  j0 a0 (a0.size : Int) ([] : List Int)
def galoisref01_limbs.b0 (k : Nat) (j1 : ByteArray → Int → Int → Int → (List Int) → Option ((List Int))) (x0 : ByteArray) (x1 : Int) (l2 : List Int) : Option ((List Int)) :=
  bif decide (0 < x1) then (j1 x0 x1 0 (if (IntKind.wrap .i64 (x1 - 4)) > 0 then (IntKind.wrap .i64 (x1 - 4)) else 0) l2) else ((galoisref01_trim k l2).bind fun t1 => some (List.take t1 (List.drop 0 l2)))
def galoisref01_limbs.b1 (k : Nat) (j0 : ByteArray → Int → (List Int) → Option ((List Int))) (j1 : ByteArray → Int → Int → Int → (List Int) → Option ((List Int))) (x0 : ByteArray) (x1 x2 x3 : Int) (l4 : List Int) : Option ((List Int)) :=
  bif decide (x3 < x1) then (if 0 ≤ x3 ∧ x3 < (x0.size : Int) then (j1 x0 x1 (IntKind.wrap .u64 ((IntKind.wrap .u64 (x2 * 256)) + (IntKind.wrap .u64 ((((List.getD x0.data.toList (Int.toNat x3) 0).toNat : Nat) : Int))))) (IntKind.wrap .i64 (x3 + 1)) l4) else none) else (if l4.length + ([x2] : List Int).length < 140737488355328 / 8 then (j0 x0 (IntKind.wrap .i64 (x1 - 4)) (l4 ++ ([x2] : List Int))) else none)
mutual
def galoisref01_limbs.l0 (k : Nat) : Nat → ByteArray → Int → (List Int) → Option ((List Int))
  | 0, _, _, _ => none
  | n + 1, x0, x1, l2 => galoisref01_limbs.b0 k (galoisref01_limbs.l1 k n) x0 x1 l2
def galoisref01_limbs.l1 (k : Nat) : Nat → ByteArray → Int → Int → Int → (List Int) → Option ((List Int))
  | 0, _, _, _, _, _ => none
  | n + 1, x0, x1, x2, x3, l4 => galoisref01_limbs.b1 k (galoisref01_limbs.l0 k n) (galoisref01_limbs.l1 k n) x0 x1 x2 x3 l4
end
def galoisref01_limbs (k : Nat) (a0 : ByteArray) : Option ((List Int)) :=
  galoisref01_limbs.top k (galoisref01_limbs.l0 k k) a0
def galoisref01_limbs.note : Note := { cert := (.two .none (.two .none (.two (.two .none (.one (.lab 0 [0, 3, 4] [] [] (.one (.two .none (.two (.one (.two .none (.two (.two .none (.one (.lab 1 [0, 3, 4, 5, 6] [] [] .none))) .none))) .none)))))) .none))) }
def galoisref01_limbs.orc {β : Type} (k : Nat) : Oracle β := orcOf [(227, galoisref01_trim.C k)]
def galoisref01_limbs.s0 (L : Labels ((List Int))) (x0 : ByteArray) (x1 : Int) (l2 : List Int) : Option ((List Int)) := L 0 (mkE 34 0 [(0, .data .str x0), (3, .own 1), (4, .data (.int .i64) x1)]) (ofList [.dead, .arr .own (.int .u64) l2]) 2
def galoisref01_limbs.s1 (L : Labels ((List Int))) (x0 : ByteArray) (x1 x2 x3 : Int) (l4 : List Int) : Option ((List Int)) := L 1 (mkE 34 0 [(0, .data .str x0), (3, .own 1), (4, .data (.int .i64) x1), (5, .data (.int .u64) x2), (6, .data (.int .i64) x3)]) (ofList [.dead, .arr .own (.int .u64) l4]) 2
def galoisref01_limbs.C {β : Type} (k : Nat) : Fun β := cN [.d .str] (rsR [.o (.int .u64)]) (galoisref01_limbs k)
def galoisref01_below.top (k : Nat) (j0 : Nat → Int → (List Int) → (List Int) → Option Bool) (a0 a1 : List Int) : Option Bool :=
  (galoisref01_trim k a0).bind fun t1 => bif !decide ((t1 : Int) = (a1.length : Int)) then (some (decide ((t1 : Int) < (a1.length : Int)))) else (j0 t1 (IntKind.wrap .i64 ((t1 : Int) - 1)) a0 a1)
def galoisref01_below.b0 (k : Nat) (j0 : Nat → Int → (List Int) → (List Int) → Option Bool) (n0 : Nat) (x1 : Int) (l2 l3 : List Int) : Option Bool :=
  bif decide (0 ≤ x1) then (if 0 ≤ x1 ∧ x1 < (n0 : Int) then (if 0 ≤ x1 ∧ x1 < (l3.length : Int) then (bif !decide ((List.getD l2 (0 + (Int.toNat x1)) 0) = (List.getD l3 (Int.toNat x1) 0)) then (if 0 ≤ x1 ∧ x1 < (n0 : Int) then (if 0 ≤ x1 ∧ x1 < (l3.length : Int) then (some (decide ((List.getD l2 (0 + (Int.toNat x1)) 0) < (List.getD l3 (Int.toNat x1) 0)))) else none) else none) else (j0 n0 (IntKind.wrap .i64 (x1 - 1)) l2 l3)) else none) else none) else (some false)
def galoisref01_below.l0 (k : Nat) : Nat → Nat → Int → (List Int) → (List Int) → Option Bool
  | 0, _, _, _, _ => none
  | n + 1, n0, x1, l2, l3 => galoisref01_below.b0 k (galoisref01_below.l0 k n) n0 x1 l2 l3
def galoisref01_below (k : Nat) (a0 a1 : List Int) : Option Bool :=
  galoisref01_below.top k (galoisref01_below.l0 k k) a0 a1
def galoisref01_below.note : Note := { cert := (.two .none (.two .none (.two .none (.two (.two .none (.one (.lab 0 [0, 1, 5] [] [] .none))) .none)))) }
def galoisref01_below.orc {β : Type} (k : Nat) : Oracle β := orcOf [(227, galoisref01_trim.C k)]
def galoisref01_below.s0 (L : Labels Bool) (n0 : Nat) (x1 : Int) (l2 l3 : List Int) : Option Bool := L 0 (mkE 43 0 [(0, .sl 0 0 n0), (1, .own 1), (5, .data (.int .i64) x1)]) (ofList [.arr .ro (.int .u64) l2, .arr .ro (.int .u64) l3]) 2
def galoisref01_below.C {β : Type} (k : Nat) : Fun β := cN [.d (.slice (.int .u64)), .d (.slice (.int .u64))] (rsR [.d .bool]) (galoisref01_below k)
def galoisref01_DivMod.top (k : Nat) (j0 : Int → Int → (List Int) → (List Int) → (List Int) → Option (ByteArray × ByteArray)) (a0 a1 : ByteArray) : Option (ByteArray × ByteArray) :=
  bif a1.toList == (⟨#[]⟩ : ByteArray).toList then (some ((⟨#[]⟩ : ByteArray), (⟨#[]⟩ : ByteArray))) else ((galoisref01_limbs k a0).bind fun t1 => (galoisref01_limbs k a1).bind fun t2 => if t1.length + ([0] : List Int).length < 140737488355328 / 8 then (if 0 ≤ (if (IntKind.wrap .i64 ((IntKind.wrap .i64 ((t1.length : Int) - (t2.length : Int))) + 1)) > 0 then (IntKind.wrap .i64 ((IntKind.wrap .i64 ((t1.length : Int) - (t2.length : Int))) + 1)) else 0) then (if (Int.toNat (if (IntKind.wrap .i64 ((IntKind.wrap .i64 ((t1.length : Int) - (t2.length : Int))) + 1)) > 0 then (IntKind.wrap .i64 ((IntKind.wrap .i64 ((t1.length : Int) - (t2.length : Int))) + 1)) else 0)) ≤ 281474976710656 / 8 then (j0 (t2.length : Int) (IntKind.wrap .i64 (((List.replicate (Int.toNat (if (IntKind.wrap .i64 ((IntKind.wrap .i64 ((t1.length : Int) - (t2.length : Int))) + 1)) > 0 then (IntKind.wrap .i64 ((IntKind.wrap .i64 ((t1.length : Int) - (t2.length : Int))) + 1)) else 0)) 0 : List Int).length : Int) - 1)) t2 (t1 ++ ([0] : List Int)) (List.replicate (Int.toNat (if (IntKind.wrap .i64 ((IntKind.wrap .i64 ((t1.length : Int) - (t2.length : Int))) + 1)) > 0 then (IntKind.wrap .i64 ((IntKind.wrap .i64 ((t1.length : Int) - (t2.length : Int))) + 1)) else 0)) 0 : List Int)) else none) else none) else none)
def galoisref01_DivMod.b0 (k : Nat) (j1 : Int → Int → (List Int) → (List Int) → (List Int) → Option (ByteArray × ByteArray)) (x0 x1 : Int) (l2 l3 l4 : List Int) : Option (ByteArray × ByteArray) :=
  bif decide (0 ≤ x1) then (j1 x0 x1 l2 l3 l4) else ((galoisref01_pack k l4).bind fun t4 => (galoisref01_pack k l3).bind fun t5 => some (t4, t5))
def galoisref01_DivMod.b1 (k : Nat) (j0 : Int → Int → (List Int) → (List Int) → (List Int) → Option (ByteArray × ByteArray)) (j2 : Int → Int → Int → Int → Int → (List Int) → (List Int) → (List Int) → Option (ByteArray × ByteArray)) (x0 x1 : Int) (l2 l3 l4 : List Int) : Option (ByteArray × ByteArray) :=
  if 0 ≤ x1 ∧ x1 ≤ (l3.length : Int) then ((galoisref01_below k (List.take (l3.length - (Int.toNat x1)) (List.drop (Int.toNat x1) l3)) l2).bind fun t3 => bif !t3 then (if 0 ≤ (IntKind.wrap .i64 (x1 + x0)) ∧ (IntKind.wrap .i64 (x1 + x0)) < (l3.length : Int) then (if 0 ≤ (IntKind.wrap .i64 ((IntKind.wrap .i64 (x1 + x0)) - 1)) ∧ (IntKind.wrap .i64 ((IntKind.wrap .i64 (x1 + x0)) - 1)) < (l3.length : Int) then (if 0 ≤ (IntKind.wrap .i64 (x0 - 1)) ∧ (IntKind.wrap .i64 (x0 - 1)) < (l2.length : Int) then (if (IntKind.wrap .u64 ((List.getD l2 (Int.toNat (IntKind.wrap .i64 (x0 - 1))) 0) + 1)) = 0 then none else (if 0 ≤ x1 ∧ x1 < (l4.length : Int) then (if 0 ≤ x1 ∧ x1 < (l4.length : Int) then (j2 x0 x1 (if (IntKind.wrap .u64 (Int.tdiv (IntKind.wrap .u64 ((IntKind.wrap .u64 ((List.getD l3 (Int.toNat (IntKind.wrap .i64 (x1 + x0))) 0) * 4294967296)) + (List.getD l3 (Int.toNat (IntKind.wrap .i64 ((IntKind.wrap .i64 (x1 + x0)) - 1))) 0))) (IntKind.wrap .u64 ((List.getD l2 (Int.toNat (IntKind.wrap .i64 (x0 - 1))) 0) + 1)))) > 1 then (IntKind.wrap .u64 (Int.tdiv (IntKind.wrap .u64 ((IntKind.wrap .u64 ((List.getD l3 (Int.toNat (IntKind.wrap .i64 (x1 + x0))) 0) * 4294967296)) + (List.getD l3 (Int.toNat (IntKind.wrap .i64 ((IntKind.wrap .i64 (x1 + x0)) - 1))) 0))) (IntKind.wrap .u64 ((List.getD l2 (Int.toNat (IntKind.wrap .i64 (x0 - 1))) 0) + 1)))) else 1) 0 0 l2 l3 (List.set l4 (Int.toNat x1) (IntKind.wrap .u64 ((List.getD l4 (Int.toNat x1) 0) + (if (IntKind.wrap .u64 (Int.tdiv (IntKind.wrap .u64 ((IntKind.wrap .u64 ((List.getD l3 (Int.toNat (IntKind.wrap .i64 (x1 + x0))) 0) * 4294967296)) + (List.getD l3 (Int.toNat (IntKind.wrap .i64 ((IntKind.wrap .i64 (x1 + x0)) - 1))) 0))) (IntKind.wrap .u64 ((List.getD l2 (Int.toNat (IntKind.wrap .i64 (x0 - 1))) 0) + 1)))) > 1 then (IntKind.wrap .u64 (Int.tdiv (IntKind.wrap .u64 ((IntKind.wrap .u64 ((List.getD l3 (Int.toNat (IntKind.wrap .i64 (x1 + x0))) 0) * 4294967296)) + (List.getD l3 (Int.toNat (IntKind.wrap .i64 ((IntKind.wrap .i64 (x1 + x0)) - 1))) 0))) (IntKind.wrap .u64 ((List.getD l2 (Int.toNat (IntKind.wrap .i64 (x0 - 1))) 0) + 1)))) else 1))))) else none) else none)) else none) else none) else none) else (j0 x0 (IntKind.wrap .i64 (x1 - 1)) l2 l3 l4)) else none
def galoisref01_DivMod.b2 (k : Nat) (j1 : Int → Int → (List Int) → (List Int) → (List Int) → Option (ByteArray × ByteArray)) (j2 : Int → Int → Int → Int → Int → (List Int) → (List Int) → (List Int) → Option (ByteArray × ByteArray)) (x0 x1 x2 x3 x4 : Int) (l5 l6 l7 : List Int) : Option (ByteArray × ByteArray) :=
  bif decide (x4 < x0) then (if 0 ≤ x4 ∧ x4 < (l5.length : Int) then (if 0 ≤ (IntKind.wrap .i64 (x1 + x4)) ∧ (IntKind.wrap .i64 (x1 + x4)) < (l6.length : Int) then (bif decide ((List.getD l6 (Int.toNat (IntKind.wrap .i64 (x1 + x4))) 0) < (IntKind.wrap .u64 (((BitVec.ofInt 64 (IntKind.wrap .u64 ((IntKind.wrap .u64 ((List.getD l5 (Int.toNat x4) 0) * x2)) + x3)) &&& BitVec.ofInt 64 4294967295).toNat : Int)))) then (if 0 ≤ (IntKind.wrap .i64 (x1 + x4)) ∧ (IntKind.wrap .i64 (x1 + x4)) < (l6.length : Int) then (if 0 ≤ (IntKind.wrap .i64 (x1 + x4)) ∧ (IntKind.wrap .i64 (x1 + x4)) < (l6.length : Int) then (if 0 ≤ (IntKind.wrap .i64 (x1 + x4)) ∧ (IntKind.wrap .i64 (x1 + x4)) < ((List.set l6 (Int.toNat (IntKind.wrap .i64 (x1 + x4))) (IntKind.wrap .u64 ((List.getD l6 (Int.toNat (IntKind.wrap .i64 (x1 + x4))) 0) + 4294967296))).length : Int) then (if 0 ≤ (IntKind.wrap .i64 (x1 + x4)) ∧ (IntKind.wrap .i64 (x1 + x4)) < ((List.set l6 (Int.toNat (IntKind.wrap .i64 (x1 + x4))) (IntKind.wrap .u64 ((List.getD l6 (Int.toNat (IntKind.wrap .i64 (x1 + x4))) 0) + 4294967296))).length : Int) then (j2 x0 x1 x2 (IntKind.wrap .u64 ((Int.fdiv (IntKind.wrap .u64 ((IntKind.wrap .u64 ((List.getD l5 (Int.toNat x4) 0) * x2)) + x3)) 4294967296) + 1)) (IntKind.wrap .i64 (x4 + 1)) l5 (List.set (List.set l6 (Int.toNat (IntKind.wrap .i64 (x1 + x4))) (IntKind.wrap .u64 ((List.getD l6 (Int.toNat (IntKind.wrap .i64 (x1 + x4))) 0) + 4294967296))) (Int.toNat (IntKind.wrap .i64 (x1 + x4))) (IntKind.wrap .u64 ((List.getD (List.set l6 (Int.toNat (IntKind.wrap .i64 (x1 + x4))) (IntKind.wrap .u64 ((List.getD l6 (Int.toNat (IntKind.wrap .i64 (x1 + x4))) 0) + 4294967296))) (Int.toNat (IntKind.wrap .i64 (x1 + x4))) 0) - (IntKind.wrap .u64 (((BitVec.ofInt 64 (IntKind.wrap .u64 ((IntKind.wrap .u64 ((List.getD l5 (Int.toNat x4) 0) * x2)) + x3)) &&& BitVec.ofInt 64 4294967295).toNat : Int)))))) l7) else none) else none) else none) else none) else (if 0 ≤ (IntKind.wrap .i64 (x1 + x4)) ∧ (IntKind.wrap .i64 (x1 + x4)) < (l6.length : Int) then (if 0 ≤ (IntKind.wrap .i64 (x1 + x4)) ∧ (IntKind.wrap .i64 (x1 + x4)) < (l6.length : Int) then (j2 x0 x1 x2 (Int.fdiv (IntKind.wrap .u64 ((IntKind.wrap .u64 ((List.getD l5 (Int.toNat x4) 0) * x2)) + x3)) 4294967296) (IntKind.wrap .i64 (x4 + 1)) l5 (List.set l6 (Int.toNat (IntKind.wrap .i64 (x1 + x4))) (IntKind.wrap .u64 ((List.getD l6 (Int.toNat (IntKind.wrap .i64 (x1 + x4))) 0) - (IntKind.wrap .u64 (((BitVec.ofInt 64 (IntKind.wrap .u64 ((IntKind.wrap .u64 ((List.getD l5 (Int.toNat x4) 0) * x2)) + x3)) &&& BitVec.ofInt 64 4294967295).toNat : Int)))))) l7) else none) else none)) else none) else none) else (if 0 ≤ (IntKind.wrap .i64 (x1 + x0)) ∧ (IntKind.wrap .i64 (x1 + x0)) < (l6.length : Int) then (if 0 ≤ (IntKind.wrap .i64 (x1 + x0)) ∧ (IntKind.wrap .i64 (x1 + x0)) < (l6.length : Int) then (j1 x0 x1 l5 (List.set l6 (Int.toNat (IntKind.wrap .i64 (x1 + x0))) (IntKind.wrap .u64 ((List.getD l6 (Int.toNat (IntKind.wrap .i64 (x1 + x0))) 0) - x3))) l7) else none) else none)
mutual
def galoisref01_DivMod.l0 (k : Nat) : Nat → Int → Int → (List Int) → (List Int) → (List Int) → Option (ByteArray × ByteArray)
  | 0, _, _, _, _, _ => none
  | n + 1, x0, x1, l2, l3, l4 => galoisref01_DivMod.b0 k (galoisref01_DivMod.l1 k n) x0 x1 l2 l3 l4
def galoisref01_DivMod.l1 (k : Nat) : Nat → Int → Int → (List Int) → (List Int) → (List Int) → Option (ByteArray × ByteArray)
  | 0, _, _, _, _, _ => none
  | n + 1, x0, x1, l2, l3, l4 => galoisref01_DivMod.b1 k (galoisref01_DivMod.l0 k n) (galoisref01_DivMod.l2 k n) x0 x1 l2 l3 l4
def galoisref01_DivMod.l2 (k : Nat) : Nat → Int → Int → Int → Int → Int → (List Int) → (List Int) → (List Int) → Option (ByteArray × ByteArray)
  | 0, _, _, _, _, _, _, _, _ => none
  | n + 1, x0, x1, x2, x3, x4, l5, l6, l7 => galoisref01_DivMod.b2 k (galoisref01_DivMod.l1 k n) (galoisref01_DivMod.l2 k n) x0 x1 x2 x3 x4 l5 l6 l7
end
def galoisref01_DivMod (k : Nat) (a0 a1 : ByteArray) : Option (ByteArray × ByteArray) :=
  galoisref01_DivMod.top k (galoisref01_DivMod.l0 k k) a0 a1
def galoisref01_DivMod.note : Note := { cert := (.two .none (.two .none (.two .none (.two .none (.two .none (.two .none (.two (.two .none (.one (.lab 0 [7, 8, 9, 10, 11] [] [] (.one (.two .none (.two (.one (.one (.lab 1 [7, 8, 9, 10, 11] [] [] (.one (.two .none (.one (.two .none (.two .none (.two .none (.two (.two .none (.one (.lab 2 [7, 8, 9, 10, 11, 12, 13, 14] [] [] .none))) .none)))))))))) .none)))))) .none))))))) }
def galoisref01_DivMod.orc {β : Type} (k : Nat) : Oracle β := orcOf [(207, galoisref01_limbs.C k), (208, galoisref01_below.C k), (209, galoisref01_pack.C k)]
def galoisref01_DivMod.s0 (L : Labels (ByteArray × ByteArray)) (x0 x1 : Int) (l2 l3 l4 : List Int) : Option (ByteArray × ByteArray) := L 0 (mkE 148 0 [(7, .own 2), (8, .data (.int .i64) x0), (9, .own 3), (10, .own 4), (11, .data (.int .i64) x1)]) (ofList [.dead, .dead, .arr .own (.int .u64) l2, .arr .own (.int .u64) l3, .arr .own (.int .u64) l4]) 5
def galoisref01_DivMod.s1 (L : Labels (ByteArray × ByteArray)) (x0 x1 : Int) (l2 l3 l4 : List Int) : Option (ByteArray × ByteArray) := L 1 (mkE 148 0 [(7, .own 2), (8, .data (.int .i64) x0), (9, .own 3), (10, .own 4), (11, .data (.int .i64) x1)]) (ofList [.dead, .dead, .arr .own (.int .u64) l2, .arr .own (.int .u64) l3, .arr .own (.int .u64) l4]) 5
def galoisref01_DivMod.s2 (L : Labels (ByteArray × ByteArray)) (x0 x1 x2 x3 x4 : Int) (l5 l6 l7 : List Int) : Option (ByteArray × ByteArray) := L 2 (mkE 148 0 [(7, .own 2), (8, .data (.int .i64) x0), (9, .own 3), (10, .own 4), (11, .data (.int .i64) x1), (12, .data (.int .u64) x2), (13, .data (.int .u64) x3), (14, .data (.int .i64) x4)]) (ofList [.dead, .dead, .arr .own (.int .u64) l5, .arr .own (.int .u64) l6, .arr .own (.int .u64) l7]) 5
def galoisref01_DivMod.C {β : Type} (k : Nat) : Fun β := cN [.d .str, .d .str] (rsR [.d .str, .d .str]) (galoisref01_DivMod k)
def galoisref01_Gcd.top (k : Nat) (j0 : ByteArray → ByteArray → Option ByteArray) (a0 a1 : ByteArray) : Option ByteArray :=
  j0 a0 a1
def galoisref01_Gcd.b0 (k : Nat) (j0 : ByteArray → ByteArray → Option ByteArray) (x0 x1 : ByteArray) : Option ByteArray :=
  bif !(x1.toList == (⟨#[]⟩ : ByteArray).toList) then ((galoisref01_DivMod k x0 x1).bind fun pt1 => j0 x1 pt1.2) else (some x0)
def galoisref01_Gcd.l0 (k : Nat) : Nat → ByteArray → ByteArray → Option ByteArray
  | 0, _, _ => none
  | n + 1, x0, x1 => galoisref01_Gcd.b0 k (galoisref01_Gcd.l0 k n) x0 x1
def galoisref01_Gcd (k : Nat) (a0 a1 : ByteArray) : Option ByteArray :=
  galoisref01_Gcd.top k (galoisref01_Gcd.l0 k k) a0 a1
def galoisref01_Gcd.note : Note := { cert := (.two .none (.two (.one (.lab 0 [0, 1] [] [] .none)) .none)) }
def galoisref01_Gcd.orc {β : Type} (k : Nat) : Oracle β := orcOf [(171, galoisref01_DivMod.C k)]
def galoisref01_Gcd.s0 (L : Labels ByteArray) (x0 x1 : ByteArray) : Option ByteArray := L 0 (mkE 18 0 [(0, .data .str x0), (1, .data .str x1)]) (ofList [.dead, .dead]) 2
def galoisref01_Gcd.C {β : Type} (k : Nat) : Fun β := cN [.d .str, .d .str] (rsR [.d .str]) (galoisref01_Gcd k)
def galoisref02_Make (a0 : Bool) (a1 : ByteArray) : Option D0 :=
  bif a0 then (some (!(a1.toList == (⟨#[]⟩ : ByteArray).toList), a1)) else (some (false, a1))
def galoisref02_Make.note : Note := { cert := .none }
def galoisref02_Make.C {β : Type} : Fun β := cN [.d .bool, .d .str] (rsR [.d Y0]) (galoisref02_Make)
def galoisref03_Make (k : Nat) (a0 a1 : D0) : Option D1 :=
  bif a1.2.toList == (⟨#[]⟩ : ByteArray).toList then (some ((false, (⟨#[]⟩ : ByteArray)), (⟨#[1]⟩ : ByteArray))) else ((galoisref01_Gcd k a0.2 a1.2).bind fun t1 => (galoisref01_DivMod k a0.2 t1).bind fun pt2 => (galoisref01_DivMod k a1.2 t1).bind fun pt4 => (galoisref02_Make (!(a0.1 == a1.1)) pt2.1).bind fun t6 => some (t6, pt4.1))
def galoisref03_Make.note : Note := { cert := .none }
def galoisref03_Make.orc {β : Type} (k : Nat) : Oracle β := orcOf [(117, galoisref01_Gcd.C k), (171, galoisref01_DivMod.C k), (180, galoisref02_Make.C)]
def galoisref03_Make.C {β : Type} (k : Nat) : Fun β := cN [.d Y0, .d Y0] (rsR [.d Y1]) (galoisref03_Make k)
def galoisref03_Of (k : Nat) (a0 a1 : Int) : Option D1 :=
  (galoisref02_FromInt k a0).bind fun t1 => (galoisref02_FromInt k a1).bind fun t2 => (galoisref03_Make k t1 t2).bind fun t3 => some t3
def galoisref03_Of.note : Note := { cert := .none }
def galoisref03_Of.orc {β : Type} (k : Nat) : Oracle β := orcOf [(140, galoisref02_FromInt.C k), (131, galoisref03_Make.C k)]
def galoisref03_Of.C {β : Type} (k : Nat) : Fun β := cN [.d (.int .i64), .d (.int .i64)] (rsR [.d Y1]) (galoisref03_Of k)
def natural_Check.top (j0 : ByteArray → Bool → Option Int) (a0 : ByteArray) : Option Int :=
  bif decide (0 < (a0.size : Int)) then (if 0 ≤ (0 : Int) ∧ (0 : Int) < (a0.size : Int) then (j0 a0 (decide ((((List.getD a0.data.toList 0 0).toNat : Nat) : Int) = 0))) else none) else (j0 a0 false)
def natural_Check.b0 (x0 : ByteArray) (x1 : Bool) : Option Int :=
  bif x1 then (some 1) else (bif decide (1024 < (x0.size : Int)) then (some 4) else (some 0))
def natural_Check.l0 : Nat → ByteArray → Bool → Option Int
  | 0, _, _ => none
  | n + 1, x0, x1 => natural_Check.b0 x0 x1
def natural_Check (k : Nat) (a0 : ByteArray) : Option Int :=
  natural_Check.top (natural_Check.l0 k) a0
def natural_Check.note : Note := { cert := (.two .none (.two (.two (.lab 0 [0, 10] [] [] .none) .none) .none)) }
def natural_Check.s0 (L : Labels Int) (x0 : ByteArray) (x1 : Bool) : Option Int := L 0 (mkE 14 0 [(0, .data .str x0), (10, .data .bool x1)]) (ofList [.dead]) 1
def natural_Check.C {β : Type} (k : Nat) : Fun β := cN [.d .str] (rsR [.d (.int .i64)]) (natural_Check k)
def integer_zero  : Option D0 :=
  some (false, (⟨#[]⟩ : ByteArray))
def integer_zero.note : Note := { cert := .none }
def integer_zero.C {β : Type} : Fun β := cN [] (rsR [.d Y0]) (integer_zero)
def integer_Check (k : Nat) (a0 : D0) : Option Int :=
  (natural_Check k a0.2).bind fun t1 => bif decide (t1 = 1) then (some t1) else ((integer_zero).bind fun t2 => bif !(Ty.eqb (.pair .bool .str) a0 t2) then (bif a0.2.toList == (⟨#[]⟩ : ByteArray).toList then (some 1) else (some t1)) else (some t1))
def integer_Check.note : Note := { cert := .none }
def integer_Check.orc {β : Type} (k : Nat) : Oracle β := orcOf [(155, natural_Check.C k), (196, integer_zero.C)]
def integer_Check.C {β : Type} (k : Nat) : Fun β := cN [.d Y0] (rsR [.d (.int .i64)]) (integer_Check k)
def exact_trim.top (j0 : Int → (List Int) → Option Nat) (a0 : List Int) : Option Nat :=
  j0 (a0.length : Int) a0
def exact_trim.b0 (j0 : Int → (List Int) → Option Nat) (x0 : Int) (l1 : List Int) : Option Nat :=
  bif decide (0 < x0) then (if 0 ≤ (IntKind.wrap .i64 (x0 - 1)) ∧ (IntKind.wrap .i64 (x0 - 1)) < (l1.length : Int) then (bif decide ((List.getD l1 (Int.toNat (IntKind.wrap .i64 (x0 - 1))) 0) = 0) then (j0 (IntKind.wrap .i64 (x0 - 1)) l1) else (if 0 ≤ x0 ∧ x0 ≤ (l1.length : Int) then (some ((Int.toNat x0) - 0)) else none)) else none) else (if 0 ≤ x0 ∧ x0 ≤ (l1.length : Int) then (some ((Int.toNat x0) - 0)) else none)
def exact_trim.l0 : Nat → Int → (List Int) → Option Nat
  | 0, _, _ => none
  | n + 1, x0, l1 => exact_trim.b0 (exact_trim.l0 n) x0 l1
def exact_trim (k : Nat) (a0 : List Int) : Option Nat :=
  exact_trim.top (exact_trim.l0 k) a0
def exact_trim.note : Note := { cert := (.two .none (.two .none (.two (.one (.lab 0 [0, 3] [] [] .none)) .none))) }
def exact_trim.s0 (L : Labels Nat) (x0 : Int) (l1 : List Int) : Option Nat := L 0 (mkE 21 0 [(0, .own 0), (3, .data (.int .i64) x0)]) (ofList [.arr .ro (.int .u64) l1]) 1
def exact_trim.C {β : Type} (k : Nat) : Fun β := cN [.d (.slice (.int .u64))] (rsR [.w 0]) (exact_trim k)
def exact_words.top (k : Nat) (j0 : ByteArray → Int → Int → (List Int) → Option ((List Int))) (a0 : ByteArray) : Option ((List Int)) :=
  if 0 ≤ (IntKind.wrap .i64 (Int.tdiv (IntKind.wrap .i64 ((a0.size : Int) + 7)) 8)) then (if (Int.toNat (IntKind.wrap .i64 (Int.tdiv (IntKind.wrap .i64 ((a0.size : Int) + 7)) 8))) ≤ 281474976710656 / 8 then (j0 a0 (a0.size : Int) 0 (List.replicate (Int.toNat (IntKind.wrap .i64 (Int.tdiv (IntKind.wrap .i64 ((a0.size : Int) + 7)) 8))) 0 : List Int)) else none) else none
def exact_words.b0 (k : Nat) (j0 : ByteArray → Int → Int → (List Int) → Option ((List Int))) (x0 : ByteArray) (x1 x2 : Int) (l3 : List Int) : Option ((List Int)) :=
  bif decide (x2 < x1) then (if 0 ≤ (IntKind.wrap .i64 (Int.tdiv (IntKind.wrap .i64 ((IntKind.wrap .i64 ((x0.size : Int) - 1)) - x2)) 8)) ∧ (IntKind.wrap .i64 (Int.tdiv (IntKind.wrap .i64 ((IntKind.wrap .i64 ((x0.size : Int) - 1)) - x2)) 8)) < (l3.length : Int) then (if 0 ≤ x2 ∧ x2 < (x0.size : Int) then (if (IntKind.wrap .i64 (8 * (Int.tmod (IntKind.wrap .i64 ((IntKind.wrap .i64 ((x0.size : Int) - 1)) - x2)) 8))) < 0 then none else (if 0 ≤ (IntKind.wrap .i64 (Int.tdiv (IntKind.wrap .i64 ((IntKind.wrap .i64 ((x0.size : Int) - 1)) - x2)) 8)) ∧ (IntKind.wrap .i64 (Int.tdiv (IntKind.wrap .i64 ((IntKind.wrap .i64 ((x0.size : Int) - 1)) - x2)) 8)) < (l3.length : Int) then (j0 x0 x1 (IntKind.wrap .i64 (x2 + 1)) (List.set l3 (Int.toNat (IntKind.wrap .i64 (Int.tdiv (IntKind.wrap .i64 ((IntKind.wrap .i64 ((x0.size : Int) - 1)) - x2)) 8))) (IntKind.wrap .u64 (((BitVec.ofInt 64 (List.getD l3 (Int.toNat (IntKind.wrap .i64 (Int.tdiv (IntKind.wrap .i64 ((IntKind.wrap .i64 ((x0.size : Int) - 1)) - x2)) 8))) 0) ||| BitVec.ofInt 64 (IntKind.wrap .u64 ((IntKind.wrap .u64 ((((List.getD x0.data.toList (Int.toNat x2) 0).toNat : Nat) : Int))) * 2 ^ min (Int.toNat (IntKind.wrap .i64 (8 * (Int.tmod (IntKind.wrap .i64 ((IntKind.wrap .i64 ((x0.size : Int) - 1)) - x2)) 8)))) 64))).toNat : Int))))) else none)) else none) else none) else ((exact_trim k l3).bind fun t1 => some (List.take t1 (List.drop 0 l3)))
def exact_words.l0 (k : Nat) : Nat → ByteArray → Int → Int → (List Int) → Option ((List Int))
  | 0, _, _, _, _ => none
  | n + 1, x0, x1, x2, l3 => exact_words.b0 k (exact_words.l0 k n) x0 x1 x2 l3
def exact_words (k : Nat) (a0 : ByteArray) : Option ((List Int)) :=
  exact_words.top k (exact_words.l0 k k) a0
def exact_words.note : Note := { cert := (.two .none (.two .none (.two (.two .none (.one (.lab 0 [0, 3, 12, 13] [] [] .none))) .none))) }
def exact_words.orc {β : Type} (k : Nat) : Oracle β := orcOf [(217, exact_trim.C k)]
def exact_words.s0 (L : Labels ((List Int))) (x0 : ByteArray) (x1 x2 : Int) (l3 : List Int) : Option ((List Int)) := L 0 (mkE 39 0 [(0, .data .str x0), (3, .own 1), (12, .data (.int .i64) x1), (13, .data (.int .i64) x2)]) (ofList [.dead, .arr .own (.int .u64) l3]) 2
def exact_words.C {β : Type} (k : Nat) : Fun β := cN [.d .str] (rsR [.o (.int .u64)]) (exact_words k)
def exact_compareWords.top (j0 : Int → (List Int) → (List Int) → Option Int) (a0 a1 : List Int) : Option Int :=
  bif !decide ((a0.length : Int) = (a1.length : Int)) then (bif decide ((a0.length : Int) < (a1.length : Int)) then (some (-1)) else (some 1)) else (j0 (IntKind.wrap .i64 ((a0.length : Int) - 1)) a0 a1)
def exact_compareWords.b0 (j0 : Int → (List Int) → (List Int) → Option Int) (x0 : Int) (l1 l2 : List Int) : Option Int :=
  bif decide (0 ≤ x0) then (if 0 ≤ x0 ∧ x0 < (l1.length : Int) then (if 0 ≤ x0 ∧ x0 < (l2.length : Int) then (bif !decide ((List.getD l1 (Int.toNat x0) 0) = (List.getD l2 (Int.toNat x0) 0)) then (if 0 ≤ x0 ∧ x0 < (l1.length : Int) then (if 0 ≤ x0 ∧ x0 < (l2.length : Int) then (bif decide ((List.getD l1 (Int.toNat x0) 0) < (List.getD l2 (Int.toNat x0) 0)) then (some (-1)) else (some 1)) else none) else none) else (j0 (IntKind.wrap .i64 (x0 - 1)) l1 l2)) else none) else none) else (some 0)
def exact_compareWords.l0 : Nat → Int → (List Int) → (List Int) → Option Int
  | 0, _, _, _ => none
  | n + 1, x0, l1, l2 => exact_compareWords.b0 (exact_compareWords.l0 n) x0 l1 l2
def exact_compareWords (k : Nat) (a0 a1 : List Int) : Option Int :=
  exact_compareWords.top (exact_compareWords.l0 k) a0 a1
def exact_compareWords.note : Note := { cert := (.two .none (.two .none (.two (.two .none (.one (.lab 0 [0, 1, 5] [] [] .none))) .none))) }
def exact_compareWords.s0 (L : Labels Int) (x0 : Int) (l1 l2 : List Int) : Option Int := L 0 (mkE 41 0 [(0, .own 0), (1, .own 1), (5, .data (.int .i64) x0)]) (ofList [.arr .ro (.int .u64) l1, .arr .ro (.int .u64) l2]) 2
def exact_compareWords.C {β : Type} (k : Nat) : Fun β := cN [.d (.slice (.int .u64)), .d (.slice (.int .u64))] (rsR [.d (.int .i64)]) (exact_compareWords k)
def bits_Len64.top (j0 : Int → Int → Option Int) (a0 : Int) : Option Int :=
  bif decide (4294967296 ≤ a0) then (j0 (Int.fdiv a0 4294967296) 32) else (j0 a0 0)
def bits_Len64.b0 (x0 x1 : Int) : Option Int :=
  bif decide (65536 ≤ x0) then (bif decide (256 ≤ (Int.fdiv x0 65536)) then (if 0 ≤ (IntKind.wrap .u8 (Int.fdiv (Int.fdiv x0 65536) 256)) ∧ (IntKind.wrap .u8 (Int.fdiv (Int.fdiv x0 65536) 256)) < ((⟨#[0, 1, 2, 2, 3, 3, 3, 3, 4, 4, 4, 4, 4, 4, 4, 4, 5, 5, 5, 5, 5, 5, 5, 5, 5, 5, 5, 5, 5, 5, 5, 5, 6, 6, 6, 6, 6, 6, 6, 6, 6, 6, 6, 6, 6, 6, 6, 6, 6, 6, 6, 6, 6, 6, 6, 6, 6, 6, 6, 6, 6, 6, 6, 6, 7, 7, 7, 7, 7, 7, 7, 7, 7, 7, 7, 7, 7, 7, 7, 7, 7, 7, 7, 7, 7, 7, 7, 7, 7, 7, 7, 7, 7, 7, 7, 7, 7, 7, 7, 7, 7, 7, 7, 7, 7, 7, 7, 7, 7, 7, 7, 7, 7, 7, 7, 7, 7, 7, 7, 7, 7, 7, 7, 7, 7, 7, 7, 7, 8, 8, 8, 8, 8, 8, 8, 8, 8, 8, 8, 8, 8, 8, 8, 8, 8, 8, 8, 8, 8, 8, 8, 8, 8, 8, 8, 8, 8, 8, 8, 8, 8, 8, 8, 8, 8, 8, 8, 8, 8, 8, 8, 8, 8, 8, 8, 8, 8, 8, 8, 8, 8, 8, 8, 8, 8, 8, 8, 8, 8, 8, 8, 8, 8, 8, 8, 8, 8, 8, 8, 8, 8, 8, 8, 8, 8, 8, 8, 8, 8, 8, 8, 8, 8, 8, 8, 8, 8, 8, 8, 8, 8, 8, 8, 8, 8, 8, 8, 8, 8, 8, 8, 8, 8, 8, 8, 8, 8, 8, 8, 8, 8, 8, 8, 8, 8, 8, 8, 8, 8, 8, 8, 8, 8, 8, 8, 8]⟩ : ByteArray).size : Int) then (some (IntKind.wrap .i64 ((IntKind.wrap .i64 ((IntKind.wrap .i64 (x1 + 16)) + 8)) + (IntKind.wrap .i64 ((((List.getD (⟨#[0, 1, 2, 2, 3, 3, 3, 3, 4, 4, 4, 4, 4, 4, 4, 4, 5, 5, 5, 5, 5, 5, 5, 5, 5, 5, 5, 5, 5, 5, 5, 5, 6, 6, 6, 6, 6, 6, 6, 6, 6, 6, 6, 6, 6, 6, 6, 6, 6, 6, 6, 6, 6, 6, 6, 6, 6, 6, 6, 6, 6, 6, 6, 6, 7, 7, 7, 7, 7, 7, 7, 7, 7, 7, 7, 7, 7, 7, 7, 7, 7, 7, 7, 7, 7, 7, 7, 7, 7, 7, 7, 7, 7, 7, 7, 7, 7, 7, 7, 7, 7, 7, 7, 7, 7, 7, 7, 7, 7, 7, 7, 7, 7, 7, 7, 7, 7, 7, 7, 7, 7, 7, 7, 7, 7, 7, 7, 7, 8, 8, 8, 8, 8, 8, 8, 8, 8, 8, 8, 8, 8, 8, 8, 8, 8, 8, 8, 8, 8, 8, 8, 8, 8, 8, 8, 8, 8, 8, 8, 8, 8, 8, 8, 8, 8, 8, 8, 8, 8, 8, 8, 8, 8, 8, 8, 8, 8, 8, 8, 8, 8, 8, 8, 8, 8, 8, 8, 8, 8, 8, 8, 8, 8, 8, 8, 8, 8, 8, 8, 8, 8, 8, 8, 8, 8, 8, 8, 8, 8, 8, 8, 8, 8, 8, 8, 8, 8, 8, 8, 8, 8, 8, 8, 8, 8, 8, 8, 8, 8, 8, 8, 8, 8, 8, 8, 8, 8, 8, 8, 8, 8, 8, 8, 8, 8, 8, 8, 8, 8, 8, 8, 8, 8, 8, 8, 8]⟩ : ByteArray).data.toList (Int.toNat (IntKind.wrap .u8 (Int.fdiv (Int.fdiv x0 65536) 256))) 0).toNat : Nat) : Int)))))) else none) else (if 0 ≤ (IntKind.wrap .u8 (Int.fdiv x0 65536)) ∧ (IntKind.wrap .u8 (Int.fdiv x0 65536)) < ((⟨#[0, 1, 2, 2, 3, 3, 3, 3, 4, 4, 4, 4, 4, 4, 4, 4, 5, 5, 5, 5, 5, 5, 5, 5, 5, 5, 5, 5, 5, 5, 5, 5, 6, 6, 6, 6, 6, 6, 6, 6, 6, 6, 6, 6, 6, 6, 6, 6, 6, 6, 6, 6, 6, 6, 6, 6, 6, 6, 6, 6, 6, 6, 6, 6, 7, 7, 7, 7, 7, 7, 7, 7, 7, 7, 7, 7, 7, 7, 7, 7, 7, 7, 7, 7, 7, 7, 7, 7, 7, 7, 7, 7, 7, 7, 7, 7, 7, 7, 7, 7, 7, 7, 7, 7, 7, 7, 7, 7, 7, 7, 7, 7, 7, 7, 7, 7, 7, 7, 7, 7, 7, 7, 7, 7, 7, 7, 7, 7, 8, 8, 8, 8, 8, 8, 8, 8, 8, 8, 8, 8, 8, 8, 8, 8, 8, 8, 8, 8, 8, 8, 8, 8, 8, 8, 8, 8, 8, 8, 8, 8, 8, 8, 8, 8, 8, 8, 8, 8, 8, 8, 8, 8, 8, 8, 8, 8, 8, 8, 8, 8, 8, 8, 8, 8, 8, 8, 8, 8, 8, 8, 8, 8, 8, 8, 8, 8, 8, 8, 8, 8, 8, 8, 8, 8, 8, 8, 8, 8, 8, 8, 8, 8, 8, 8, 8, 8, 8, 8, 8, 8, 8, 8, 8, 8, 8, 8, 8, 8, 8, 8, 8, 8, 8, 8, 8, 8, 8, 8, 8, 8, 8, 8, 8, 8, 8, 8, 8, 8, 8, 8, 8, 8, 8, 8, 8, 8]⟩ : ByteArray).size : Int) then (some (IntKind.wrap .i64 ((IntKind.wrap .i64 (x1 + 16)) + (IntKind.wrap .i64 ((((List.getD (⟨#[0, 1, 2, 2, 3, 3, 3, 3, 4, 4, 4, 4, 4, 4, 4, 4, 5, 5, 5, 5, 5, 5, 5, 5, 5, 5, 5, 5, 5, 5, 5, 5, 6, 6, 6, 6, 6, 6, 6, 6, 6, 6, 6, 6, 6, 6, 6, 6, 6, 6, 6, 6, 6, 6, 6, 6, 6, 6, 6, 6, 6, 6, 6, 6, 7, 7, 7, 7, 7, 7, 7, 7, 7, 7, 7, 7, 7, 7, 7, 7, 7, 7, 7, 7, 7, 7, 7, 7, 7, 7, 7, 7, 7, 7, 7, 7, 7, 7, 7, 7, 7, 7, 7, 7, 7, 7, 7, 7, 7, 7, 7, 7, 7, 7, 7, 7, 7, 7, 7, 7, 7, 7, 7, 7, 7, 7, 7, 7, 8, 8, 8, 8, 8, 8, 8, 8, 8, 8, 8, 8, 8, 8, 8, 8, 8, 8, 8, 8, 8, 8, 8, 8, 8, 8, 8, 8, 8, 8, 8, 8, 8, 8, 8, 8, 8, 8, 8, 8, 8, 8, 8, 8, 8, 8, 8, 8, 8, 8, 8, 8, 8, 8, 8, 8, 8, 8, 8, 8, 8, 8, 8, 8, 8, 8, 8, 8, 8, 8, 8, 8, 8, 8, 8, 8, 8, 8, 8, 8, 8, 8, 8, 8, 8, 8, 8, 8, 8, 8, 8, 8, 8, 8, 8, 8, 8, 8, 8, 8, 8, 8, 8, 8, 8, 8, 8, 8, 8, 8, 8, 8, 8, 8, 8, 8, 8, 8, 8, 8, 8, 8, 8, 8, 8, 8, 8, 8]⟩ : ByteArray).data.toList (Int.toNat (IntKind.wrap .u8 (Int.fdiv x0 65536))) 0).toNat : Nat) : Int)))))) else none)) else (bif decide (256 ≤ x0) then (if 0 ≤ (IntKind.wrap .u8 (Int.fdiv x0 256)) ∧ (IntKind.wrap .u8 (Int.fdiv x0 256)) < ((⟨#[0, 1, 2, 2, 3, 3, 3, 3, 4, 4, 4, 4, 4, 4, 4, 4, 5, 5, 5, 5, 5, 5, 5, 5, 5, 5, 5, 5, 5, 5, 5, 5, 6, 6, 6, 6, 6, 6, 6, 6, 6, 6, 6, 6, 6, 6, 6, 6, 6, 6, 6, 6, 6, 6, 6, 6, 6, 6, 6, 6, 6, 6, 6, 6, 7, 7, 7, 7, 7, 7, 7, 7, 7, 7, 7, 7, 7, 7, 7, 7, 7, 7, 7, 7, 7, 7, 7, 7, 7, 7, 7, 7, 7, 7, 7, 7, 7, 7, 7, 7, 7, 7, 7, 7, 7, 7, 7, 7, 7, 7, 7, 7, 7, 7, 7, 7, 7, 7, 7, 7, 7, 7, 7, 7, 7, 7, 7, 7, 8, 8, 8, 8, 8, 8, 8, 8, 8, 8, 8, 8, 8, 8, 8, 8, 8, 8, 8, 8, 8, 8, 8, 8, 8, 8, 8, 8, 8, 8, 8, 8, 8, 8, 8, 8, 8, 8, 8, 8, 8, 8, 8, 8, 8, 8, 8, 8, 8, 8, 8, 8, 8, 8, 8, 8, 8, 8, 8, 8, 8, 8, 8, 8, 8, 8, 8, 8, 8, 8, 8, 8, 8, 8, 8, 8, 8, 8, 8, 8, 8, 8, 8, 8, 8, 8, 8, 8, 8, 8, 8, 8, 8, 8, 8, 8, 8, 8, 8, 8, 8, 8, 8, 8, 8, 8, 8, 8, 8, 8, 8, 8, 8, 8, 8, 8, 8, 8, 8, 8, 8, 8, 8, 8, 8, 8, 8, 8]⟩ : ByteArray).size : Int) then (some (IntKind.wrap .i64 ((IntKind.wrap .i64 (x1 + 8)) + (IntKind.wrap .i64 ((((List.getD (⟨#[0, 1, 2, 2, 3, 3, 3, 3, 4, 4, 4, 4, 4, 4, 4, 4, 5, 5, 5, 5, 5, 5, 5, 5, 5, 5, 5, 5, 5, 5, 5, 5, 6, 6, 6, 6, 6, 6, 6, 6, 6, 6, 6, 6, 6, 6, 6, 6, 6, 6, 6, 6, 6, 6, 6, 6, 6, 6, 6, 6, 6, 6, 6, 6, 7, 7, 7, 7, 7, 7, 7, 7, 7, 7, 7, 7, 7, 7, 7, 7, 7, 7, 7, 7, 7, 7, 7, 7, 7, 7, 7, 7, 7, 7, 7, 7, 7, 7, 7, 7, 7, 7, 7, 7, 7, 7, 7, 7, 7, 7, 7, 7, 7, 7, 7, 7, 7, 7, 7, 7, 7, 7, 7, 7, 7, 7, 7, 7, 8, 8, 8, 8, 8, 8, 8, 8, 8, 8, 8, 8, 8, 8, 8, 8, 8, 8, 8, 8, 8, 8, 8, 8, 8, 8, 8, 8, 8, 8, 8, 8, 8, 8, 8, 8, 8, 8, 8, 8, 8, 8, 8, 8, 8, 8, 8, 8, 8, 8, 8, 8, 8, 8, 8, 8, 8, 8, 8, 8, 8, 8, 8, 8, 8, 8, 8, 8, 8, 8, 8, 8, 8, 8, 8, 8, 8, 8, 8, 8, 8, 8, 8, 8, 8, 8, 8, 8, 8, 8, 8, 8, 8, 8, 8, 8, 8, 8, 8, 8, 8, 8, 8, 8, 8, 8, 8, 8, 8, 8, 8, 8, 8, 8, 8, 8, 8, 8, 8, 8, 8, 8, 8, 8, 8, 8, 8, 8]⟩ : ByteArray).data.toList (Int.toNat (IntKind.wrap .u8 (Int.fdiv x0 256))) 0).toNat : Nat) : Int)))))) else none) else (if 0 ≤ (IntKind.wrap .u8 (x0)) ∧ (IntKind.wrap .u8 (x0)) < ((⟨#[0, 1, 2, 2, 3, 3, 3, 3, 4, 4, 4, 4, 4, 4, 4, 4, 5, 5, 5, 5, 5, 5, 5, 5, 5, 5, 5, 5, 5, 5, 5, 5, 6, 6, 6, 6, 6, 6, 6, 6, 6, 6, 6, 6, 6, 6, 6, 6, 6, 6, 6, 6, 6, 6, 6, 6, 6, 6, 6, 6, 6, 6, 6, 6, 7, 7, 7, 7, 7, 7, 7, 7, 7, 7, 7, 7, 7, 7, 7, 7, 7, 7, 7, 7, 7, 7, 7, 7, 7, 7, 7, 7, 7, 7, 7, 7, 7, 7, 7, 7, 7, 7, 7, 7, 7, 7, 7, 7, 7, 7, 7, 7, 7, 7, 7, 7, 7, 7, 7, 7, 7, 7, 7, 7, 7, 7, 7, 7, 8, 8, 8, 8, 8, 8, 8, 8, 8, 8, 8, 8, 8, 8, 8, 8, 8, 8, 8, 8, 8, 8, 8, 8, 8, 8, 8, 8, 8, 8, 8, 8, 8, 8, 8, 8, 8, 8, 8, 8, 8, 8, 8, 8, 8, 8, 8, 8, 8, 8, 8, 8, 8, 8, 8, 8, 8, 8, 8, 8, 8, 8, 8, 8, 8, 8, 8, 8, 8, 8, 8, 8, 8, 8, 8, 8, 8, 8, 8, 8, 8, 8, 8, 8, 8, 8, 8, 8, 8, 8, 8, 8, 8, 8, 8, 8, 8, 8, 8, 8, 8, 8, 8, 8, 8, 8, 8, 8, 8, 8, 8, 8, 8, 8, 8, 8, 8, 8, 8, 8, 8, 8, 8, 8, 8, 8, 8, 8]⟩ : ByteArray).size : Int) then (some (IntKind.wrap .i64 (x1 + (IntKind.wrap .i64 ((((List.getD (⟨#[0, 1, 2, 2, 3, 3, 3, 3, 4, 4, 4, 4, 4, 4, 4, 4, 5, 5, 5, 5, 5, 5, 5, 5, 5, 5, 5, 5, 5, 5, 5, 5, 6, 6, 6, 6, 6, 6, 6, 6, 6, 6, 6, 6, 6, 6, 6, 6, 6, 6, 6, 6, 6, 6, 6, 6, 6, 6, 6, 6, 6, 6, 6, 6, 7, 7, 7, 7, 7, 7, 7, 7, 7, 7, 7, 7, 7, 7, 7, 7, 7, 7, 7, 7, 7, 7, 7, 7, 7, 7, 7, 7, 7, 7, 7, 7, 7, 7, 7, 7, 7, 7, 7, 7, 7, 7, 7, 7, 7, 7, 7, 7, 7, 7, 7, 7, 7, 7, 7, 7, 7, 7, 7, 7, 7, 7, 7, 7, 8, 8, 8, 8, 8, 8, 8, 8, 8, 8, 8, 8, 8, 8, 8, 8, 8, 8, 8, 8, 8, 8, 8, 8, 8, 8, 8, 8, 8, 8, 8, 8, 8, 8, 8, 8, 8, 8, 8, 8, 8, 8, 8, 8, 8, 8, 8, 8, 8, 8, 8, 8, 8, 8, 8, 8, 8, 8, 8, 8, 8, 8, 8, 8, 8, 8, 8, 8, 8, 8, 8, 8, 8, 8, 8, 8, 8, 8, 8, 8, 8, 8, 8, 8, 8, 8, 8, 8, 8, 8, 8, 8, 8, 8, 8, 8, 8, 8, 8, 8, 8, 8, 8, 8, 8, 8, 8, 8, 8, 8, 8, 8, 8, 8, 8, 8, 8, 8, 8, 8, 8, 8, 8, 8, 8, 8, 8, 8]⟩ : ByteArray).data.toList (Int.toNat (IntKind.wrap .u8 (x0))) 0).toNat : Nat) : Int)))))) else none))
def bits_Len64.l0 : Nat → Int → Int → Option Int
  | 0, _, _ => none
  | n + 1, x0, x1 => bits_Len64.b0 x0 x1
def bits_Len64 (k : Nat) (a0 : Int) : Option Int :=
  bits_Len64.top (bits_Len64.l0 k) a0
def bits_Len64.note : Note := { cert := (.two .none (.two (.two .none (.lab 0 [0, 2] [] [] .none)) .none)) }
def bits_Len64.s0 (L : Labels Int) (x0 x1 : Int) : Option Int := L 0 (mkE 25 0 [(0, .data (.int .u64) x0), (2, .data (.int .i64) x1)]) (ofList [.dead]) 1
def bits_Len64.C {β : Type} (k : Nat) : Fun β := cN [.d (.int .u64)] (rsR [.d (.int .i64)]) (bits_Len64 k)
def bits_LeadingZeros64 (k : Nat) (a0 : Int) : Option Int :=
  (bits_Len64 k a0).bind fun t1 => some (IntKind.wrap .i64 (64 - t1))
def bits_LeadingZeros64.note : Note := { cert := .none }
def bits_LeadingZeros64.orc {β : Type} (k : Nat) : Oracle β := orcOf [(231, bits_Len64.C k)]
def bits_LeadingZeros64.C {β : Type} (k : Nat) : Fun β := cN [.d (.int .u64)] (rsR [.d (.int .i64)]) (bits_LeadingZeros64 k)
def bits_Div64.top (k : Nat) (j0 : Int → Int → Int → Int → Int → Int → Int → Int → Int → Option (Int × Int)) (a0 a1 a2 : Int) : Option (Int × Int) :=
  bif decide (a2 = 0) then none else (bif decide (a2 ≤ a0) then none else (bif decide (a0 = 0) then (if a2 = 0 then none else (if a2 = 0 then none else (some (IntKind.wrap .u64 (Int.tdiv a1 a2), Int.tmod a1 a2)))) else ((bits_LeadingZeros64 k a2).bind fun t1 => if (IntKind.wrap .u64 (t1)) < 0 then none else (if (IntKind.wrap .u64 (t1)) < 0 then none else (if (IntKind.wrap .u64 (64 - (IntKind.wrap .u64 (t1)))) < 0 then none else (if (IntKind.wrap .u64 (t1)) < 0 then none else (if (Int.fdiv (IntKind.wrap .u64 (a2 * 2 ^ min (Int.toNat (IntKind.wrap .u64 (t1))) 64)) 4294967296) = 0 then none else (j0 (IntKind.wrap .u64 (a2 * 2 ^ min (Int.toNat (IntKind.wrap .u64 (t1))) 64)) (IntKind.wrap .u64 (t1)) (Int.fdiv (IntKind.wrap .u64 (a2 * 2 ^ min (Int.toNat (IntKind.wrap .u64 (t1))) 64)) 4294967296) (IntKind.wrap .u64 (((BitVec.ofInt 64 (IntKind.wrap .u64 (a2 * 2 ^ min (Int.toNat (IntKind.wrap .u64 (t1))) 64)) &&& BitVec.ofInt 64 4294967295).toNat : Int))) (IntKind.wrap .u64 (((BitVec.ofInt 64 (IntKind.wrap .u64 (a0 * 2 ^ min (Int.toNat (IntKind.wrap .u64 (t1))) 64)) ||| BitVec.ofInt 64 (Int.fdiv a1 (2 ^ min (Int.toNat (IntKind.wrap .u64 (64 - (IntKind.wrap .u64 (t1))))) 64))).toNat : Int))) (Int.fdiv (IntKind.wrap .u64 (a1 * 2 ^ min (Int.toNat (IntKind.wrap .u64 (t1))) 64)) 4294967296) (IntKind.wrap .u64 (((BitVec.ofInt 64 (IntKind.wrap .u64 (a1 * 2 ^ min (Int.toNat (IntKind.wrap .u64 (t1))) 64)) &&& BitVec.ofInt 64 4294967295).toNat : Int))) (IntKind.wrap .u64 (Int.tdiv (IntKind.wrap .u64 (((BitVec.ofInt 64 (IntKind.wrap .u64 (a0 * 2 ^ min (Int.toNat (IntKind.wrap .u64 (t1))) 64)) ||| BitVec.ofInt 64 (Int.fdiv a1 (2 ^ min (Int.toNat (IntKind.wrap .u64 (64 - (IntKind.wrap .u64 (t1))))) 64))).toNat : Int))) (Int.fdiv (IntKind.wrap .u64 (a2 * 2 ^ min (Int.toNat (IntKind.wrap .u64 (t1))) 64)) 4294967296))) (IntKind.wrap .u64 ((IntKind.wrap .u64 (((BitVec.ofInt 64 (IntKind.wrap .u64 (a0 * 2 ^ min (Int.toNat (IntKind.wrap .u64 (t1))) 64)) ||| BitVec.ofInt 64 (Int.fdiv a1 (2 ^ min (Int.toNat (IntKind.wrap .u64 (64 - (IntKind.wrap .u64 (t1))))) 64))).toNat : Int))) - (IntKind.wrap .u64 ((IntKind.wrap .u64 (Int.tdiv (IntKind.wrap .u64 (((BitVec.ofInt 64 (IntKind.wrap .u64 (a0 * 2 ^ min (Int.toNat (IntKind.wrap .u64 (t1))) 64)) ||| BitVec.ofInt 64 (Int.fdiv a1 (2 ^ min (Int.toNat (IntKind.wrap .u64 (64 - (IntKind.wrap .u64 (t1))))) 64))).toNat : Int))) (Int.fdiv (IntKind.wrap .u64 (a2 * 2 ^ min (Int.toNat (IntKind.wrap .u64 (t1))) 64)) 4294967296))) * (Int.fdiv (IntKind.wrap .u64 (a2 * 2 ^ min (Int.toNat (IntKind.wrap .u64 (t1))) 64)) 4294967296)))))))))))))
def bits_Div64.b0 (k : Nat) (j1 : Int → Int → Int → Int → Int → Int → Int → Int → Int → Bool → Option (Int × Int)) (x0 x1 x2 x3 x4 x5 x6 x7 x8 : Int) : Option (Int × Int) :=
  bif decide (4294967296 ≤ x7) then (j1 x0 x1 x2 x3 x4 x5 x6 x7 x8 true) else (j1 x0 x1 x2 x3 x4 x5 x6 x7 x8 (decide ((IntKind.wrap .u64 ((IntKind.wrap .u64 (4294967296 * x8)) + x5)) < (IntKind.wrap .u64 (x7 * x3)))))
def bits_Div64.b1 (k : Nat) (j0 : Int → Int → Int → Int → Int → Int → Int → Int → Int → Option (Int × Int)) (j2 : Int → Int → Int → Int → Int → Int → Int → Int → Option (Int × Int)) (x0 x1 x2 x3 x4 x5 x6 x7 x8 : Int) (x9 : Bool) : Option (Int × Int) :=
  bif x9 then (bif decide (4294967296 ≤ (IntKind.wrap .u64 (x8 + x2))) then (j2 x0 x1 x2 x3 x4 x5 x6 (IntKind.wrap .u64 (x7 - 1))) else (j0 x0 x1 x2 x3 x4 x5 x6 (IntKind.wrap .u64 (x7 - 1)) (IntKind.wrap .u64 (x8 + x2)))) else (j2 x0 x1 x2 x3 x4 x5 x6 x7)
def bits_Div64.b2 (k : Nat) (j3 : Int → Int → Int → Int → Int → Int → Int → Int → Int → Option (Int × Int)) (x0 x1 x2 x3 x4 x5 x6 x7 : Int) : Option (Int × Int) :=
  if x2 = 0 then none else (j3 x0 x1 x2 x3 x6 x7 (IntKind.wrap .u64 ((IntKind.wrap .u64 ((IntKind.wrap .u64 ((IntKind.wrap .u64 (x4 * 4294967296)) + x5)) - (IntKind.wrap .u64 (x7 * x0)))) - (IntKind.wrap .u64 ((IntKind.wrap .u64 (Int.tdiv (IntKind.wrap .u64 ((IntKind.wrap .u64 ((IntKind.wrap .u64 (x4 * 4294967296)) + x5)) - (IntKind.wrap .u64 (x7 * x0)))) x2)) * x2)))) (IntKind.wrap .u64 ((IntKind.wrap .u64 ((IntKind.wrap .u64 (x4 * 4294967296)) + x5)) - (IntKind.wrap .u64 (x7 * x0)))) (IntKind.wrap .u64 (Int.tdiv (IntKind.wrap .u64 ((IntKind.wrap .u64 ((IntKind.wrap .u64 (x4 * 4294967296)) + x5)) - (IntKind.wrap .u64 (x7 * x0)))) x2)))
def bits_Div64.b3 (k : Nat) (j4 : Int → Int → Int → Int → Int → Int → Int → Int → Int → Bool → Option (Int × Int)) (x0 x1 x2 x3 x4 x5 x6 x7 x8 : Int) : Option (Int × Int) :=
  bif decide (4294967296 ≤ x8) then (j4 x0 x1 x2 x3 x4 x5 x6 x7 x8 true) else (j4 x0 x1 x2 x3 x4 x5 x6 x7 x8 (decide ((IntKind.wrap .u64 ((IntKind.wrap .u64 (4294967296 * x6)) + x4)) < (IntKind.wrap .u64 (x8 * x3)))))
def bits_Div64.b4 (k : Nat) (j3 : Int → Int → Int → Int → Int → Int → Int → Int → Int → Option (Int × Int)) (x0 x1 x2 x3 x4 x5 x6 x7 x8 : Int) (x9 : Bool) : Option (Int × Int) :=
  bif x9 then (bif decide (4294967296 ≤ (IntKind.wrap .u64 (x6 + x2))) then (if x1 < 0 then none else (some (IntKind.wrap .u64 ((IntKind.wrap .u64 (x5 * 4294967296)) + (IntKind.wrap .u64 (x8 - 1))), Int.fdiv (IntKind.wrap .u64 ((IntKind.wrap .u64 ((IntKind.wrap .u64 (x7 * 4294967296)) + x4)) - (IntKind.wrap .u64 ((IntKind.wrap .u64 (x8 - 1)) * x0)))) (2 ^ min (Int.toNat x1) 64)))) else (j3 x0 x1 x2 x3 x4 x5 (IntKind.wrap .u64 (x6 + x2)) x7 (IntKind.wrap .u64 (x8 - 1)))) else (if x1 < 0 then none else (some (IntKind.wrap .u64 ((IntKind.wrap .u64 (x5 * 4294967296)) + x8), Int.fdiv (IntKind.wrap .u64 ((IntKind.wrap .u64 ((IntKind.wrap .u64 (x7 * 4294967296)) + x4)) - (IntKind.wrap .u64 (x8 * x0)))) (2 ^ min (Int.toNat x1) 64))))
mutual
def bits_Div64.l0 (k : Nat) : Nat → Int → Int → Int → Int → Int → Int → Int → Int → Int → Option (Int × Int)
  | 0, _, _, _, _, _, _, _, _, _ => none
  | n + 1, x0, x1, x2, x3, x4, x5, x6, x7, x8 => bits_Div64.b0 k (bits_Div64.l1 k n) x0 x1 x2 x3 x4 x5 x6 x7 x8
def bits_Div64.l1 (k : Nat) : Nat → Int → Int → Int → Int → Int → Int → Int → Int → Int → Bool → Option (Int × Int)
  | 0, _, _, _, _, _, _, _, _, _, _ => none
  | n + 1, x0, x1, x2, x3, x4, x5, x6, x7, x8, x9 => bits_Div64.b1 k (bits_Div64.l0 k n) (bits_Div64.l2 k n) x0 x1 x2 x3 x4 x5 x6 x7 x8 x9
def bits_Div64.l2 (k : Nat) : Nat → Int → Int → Int → Int → Int → Int → Int → Int → Option (Int × Int)
  | 0, _, _, _, _, _, _, _, _ => none
  | n + 1, x0, x1, x2, x3, x4, x5, x6, x7 => bits_Div64.b2 k (bits_Div64.l3 k n) x0 x1 x2 x3 x4 x5 x6 x7
def bits_Div64.l3 (k : Nat) : Nat → Int → Int → Int → Int → Int → Int → Int → Int → Int → Option (Int × Int)
  | 0, _, _, _, _, _, _, _, _, _ => none
  | n + 1, x0, x1, x2, x3, x4, x5, x6, x7, x8 => bits_Div64.b3 k (bits_Div64.l4 k n) x0 x1 x2 x3 x4 x5 x6 x7 x8
def bits_Div64.l4 (k : Nat) : Nat → Int → Int → Int → Int → Int → Int → Int → Int → Int → Bool → Option (Int × Int)
  | 0, _, _, _, _, _, _, _, _, _, _ => none
  | n + 1, x0, x1, x2, x3, x4, x5, x6, x7, x8, x9 => bits_Div64.b4 k (bits_Div64.l3 k n) x0 x1 x2 x3 x4 x5 x6 x7 x8 x9
end
def bits_Div64 (k : Nat) (a0 a1 a2 : Int) : Option (Int × Int) :=
  bits_Div64.top k (bits_Div64.l0 k k) a0 a1 a2
def bits_Div64.note : Note := { cert := (.two .none (.two .none (.two .none (.two .none (.two .none (.two .none (.two .none (.two .none (.two .none (.two .none (.two .none (.two .none (.two .none (.two .none (.two (.lab 2 [2, 8, 9, 10, 11, 13, 14, 15] [] [] (.one (.lab 0 [2, 8, 9, 10, 11, 13, 14, 15, 16] [] [] (.one (.two (.two (.lab 1 [2, 8, 9, 10, 11, 13, 14, 15, 16, 78] [] [] .none) .none) .none))))) (.two .none (.two .none (.two .none (.two (.one (.lab 3 [2, 8, 9, 10, 14, 15, 16, 17, 18] [] [] (.one (.two (.two (.lab 4 [2, 8, 9, 10, 14, 15, 16, 17, 18, 113] [] [] .none) .none) .none)))) .none))))))))))))))))))) }
def bits_Div64.orc {β : Type} (k : Nat) : Oracle β := orcOf [(220, bits_LeadingZeros64.C k)]
def bits_Div64.s0 (L : Labels (Int × Int)) (x0 x1 x2 x3 x4 x5 x6 x7 x8 : Int) : Option (Int × Int) := L 0 (mkE 135 0 [(2, .data (.int .u64) x0), (8, .data (.int .u64) x1), (9, .data (.int .u64) x2), (10, .data (.int .u64) x3), (11, .data (.int .u64) x4), (13, .data (.int .u64) x5), (14, .data (.int .u64) x6), (15, .data (.int .u64) x7), (16, .data (.int .u64) x8)]) (ofList [.dead, .dead, .dead]) 3
def bits_Div64.s1 (L : Labels (Int × Int)) (x0 x1 x2 x3 x4 x5 x6 x7 x8 : Int) (x9 : Bool) : Option (Int × Int) := L 1 (mkE 135 0 [(2, .data (.int .u64) x0), (8, .data (.int .u64) x1), (9, .data (.int .u64) x2), (10, .data (.int .u64) x3), (11, .data (.int .u64) x4), (13, .data (.int .u64) x5), (14, .data (.int .u64) x6), (15, .data (.int .u64) x7), (16, .data (.int .u64) x8), (78, .data .bool x9)]) (ofList [.dead, .dead, .dead]) 3
def bits_Div64.s2 (L : Labels (Int × Int)) (x0 x1 x2 x3 x4 x5 x6 x7 : Int) : Option (Int × Int) := L 2 (mkE 135 0 [(2, .data (.int .u64) x0), (8, .data (.int .u64) x1), (9, .data (.int .u64) x2), (10, .data (.int .u64) x3), (11, .data (.int .u64) x4), (13, .data (.int .u64) x5), (14, .data (.int .u64) x6), (15, .data (.int .u64) x7)]) (ofList [.dead, .dead, .dead]) 3
def bits_Div64.s3 (L : Labels (Int × Int)) (x0 x1 x2 x3 x4 x5 x6 x7 x8 : Int) : Option (Int × Int) := L 3 (mkE 135 0 [(2, .data (.int .u64) x0), (8, .data (.int .u64) x1), (9, .data (.int .u64) x2), (10, .data (.int .u64) x3), (14, .data (.int .u64) x4), (15, .data (.int .u64) x5), (16, .data (.int .u64) x6), (17, .data (.int .u64) x7), (18, .data (.int .u64) x8)]) (ofList [.dead, .dead, .dead]) 3
def bits_Div64.s4 (L : Labels (Int × Int)) (x0 x1 x2 x3 x4 x5 x6 x7 x8 : Int) (x9 : Bool) : Option (Int × Int) := L 4 (mkE 135 0 [(2, .data (.int .u64) x0), (8, .data (.int .u64) x1), (9, .data (.int .u64) x2), (10, .data (.int .u64) x3), (14, .data (.int .u64) x4), (15, .data (.int .u64) x5), (16, .data (.int .u64) x6), (17, .data (.int .u64) x7), (18, .data (.int .u64) x8), (113, .data .bool x9)]) (ofList [.dead, .dead, .dead]) 3
def bits_Div64.C {β : Type} (k : Nat) : Fun β := cN [.d (.int .u64), .d (.int .u64), .d (.int .u64)] (rsR [.d (.int .u64), .d (.int .u64)]) (bits_Div64 k)
def exact_shiftUp.top (j0 : Int → Int → Int → (List Int) → (List Int) → Option ((List Int))) (a0 : List Int) (a1 : Int) : Option ((List Int)) :=
  if 0 ≤ (IntKind.wrap .i64 ((a0.length : Int) + 1)) then (if (Int.toNat (IntKind.wrap .i64 ((a0.length : Int) + 1))) ≤ 281474976710656 / 8 then (j0 a1 (a0.length : Int) 0 a0 (List.replicate (Int.toNat (IntKind.wrap .i64 ((a0.length : Int) + 1))) 0 : List Int)) else none) else none
def exact_shiftUp.b0 (j0 : Int → Int → Int → (List Int) → (List Int) → Option ((List Int))) (x0 x1 x2 : Int) (l3 l4 : List Int) : Option ((List Int)) :=
  bif decide (x2 < x1) then (if 0 ≤ x2 ∧ x2 < (l3.length : Int) then (if 0 ≤ x2 ∧ x2 < (l4.length : Int) then (if x0 < 0 then none else (if 0 ≤ x2 ∧ x2 < (l4.length : Int) then (bif decide (0 < x0) then (if (IntKind.wrap .i64 (64 - x0)) < 0 then none else (if 0 ≤ (IntKind.wrap .i64 (x2 + 1)) ∧ (IntKind.wrap .i64 (x2 + 1)) < ((List.set l4 (Int.toNat x2) (IntKind.wrap .u64 (((BitVec.ofInt 64 (List.getD l4 (Int.toNat x2) 0) ||| BitVec.ofInt 64 (IntKind.wrap .u64 ((List.getD l3 (Int.toNat x2) 0) * 2 ^ min (Int.toNat x0) 64))).toNat : Int)))).length : Int) then (j0 x0 x1 (IntKind.wrap .i64 (x2 + 1)) l3 (List.set (List.set l4 (Int.toNat x2) (IntKind.wrap .u64 (((BitVec.ofInt 64 (List.getD l4 (Int.toNat x2) 0) ||| BitVec.ofInt 64 (IntKind.wrap .u64 ((List.getD l3 (Int.toNat x2) 0) * 2 ^ min (Int.toNat x0) 64))).toNat : Int)))) (Int.toNat (IntKind.wrap .i64 (x2 + 1))) (Int.fdiv (List.getD l3 (Int.toNat x2) 0) (2 ^ min (Int.toNat (IntKind.wrap .i64 (64 - x0))) 64)))) else none)) else (j0 x0 x1 (IntKind.wrap .i64 (x2 + 1)) l3 (List.set l4 (Int.toNat x2) (IntKind.wrap .u64 (((BitVec.ofInt 64 (List.getD l4 (Int.toNat x2) 0) ||| BitVec.ofInt 64 (IntKind.wrap .u64 ((List.getD l3 (Int.toNat x2) 0) * 2 ^ min (Int.toNat x0) 64))).toNat : Int)))))) else none)) else none) else none) else (some l4)
def exact_shiftUp.l0 : Nat → Int → Int → Int → (List Int) → (List Int) → Option ((List Int))
  | 0, _, _, _, _, _ => none
  | n + 1, x0, x1, x2, l3, l4 => exact_shiftUp.b0 (exact_shiftUp.l0 n) x0 x1 x2 l3 l4
def exact_shiftUp (k : Nat) (a0 : List Int) (a1 : Int) : Option ((List Int)) :=
  exact_shiftUp.top (exact_shiftUp.l0 k) a0 a1
def exact_shiftUp.note : Note := { cert := (.two .none (.two .none (.two (.two .none (.one (.lab 0 [1, 5, 12, 13, 14] [] [] .none))) .none))) }
def exact_shiftUp.s0 (L : Labels ((List Int))) (x0 x1 x2 : Int) (l3 l4 : List Int) : Option ((List Int)) := L 0 (mkE 40 0 [(1, .data (.int .i64) x0), (5, .own 2), (12, .own 0), (13, .data (.int .i64) x1), (14, .data (.int .i64) x2)]) (ofList [.arr .ro (.int .u64) l3, .dead, .arr .own (.int .u64) l4]) 3
def exact_shiftUp.C {β : Type} (k : Nat) : Fun β := cN [.d (.slice (.int .u64)), .d (.int .i64)] (rsR [.o (.int .u64)]) (exact_shiftUp k)
def bits_Mul64 (a0 a1 : Int) : Option (Int × Int) :=
  some (IntKind.wrap .u64 ((IntKind.wrap .u64 ((IntKind.wrap .u64 ((Int.fdiv a0 4294967296) * (Int.fdiv a1 4294967296))) + (Int.fdiv (IntKind.wrap .u64 ((IntKind.wrap .u64 ((Int.fdiv a0 4294967296) * (IntKind.wrap .u64 (((BitVec.ofInt 64 a1 &&& BitVec.ofInt 64 4294967295).toNat : Int))))) + (Int.fdiv (IntKind.wrap .u64 ((IntKind.wrap .u64 (((BitVec.ofInt 64 a0 &&& BitVec.ofInt 64 4294967295).toNat : Int))) * (IntKind.wrap .u64 (((BitVec.ofInt 64 a1 &&& BitVec.ofInt 64 4294967295).toNat : Int))))) 4294967296))) 4294967296))) + (Int.fdiv (IntKind.wrap .u64 ((IntKind.wrap .u64 (((BitVec.ofInt 64 (IntKind.wrap .u64 ((IntKind.wrap .u64 ((Int.fdiv a0 4294967296) * (IntKind.wrap .u64 (((BitVec.ofInt 64 a1 &&& BitVec.ofInt 64 4294967295).toNat : Int))))) + (Int.fdiv (IntKind.wrap .u64 ((IntKind.wrap .u64 (((BitVec.ofInt 64 a0 &&& BitVec.ofInt 64 4294967295).toNat : Int))) * (IntKind.wrap .u64 (((BitVec.ofInt 64 a1 &&& BitVec.ofInt 64 4294967295).toNat : Int))))) 4294967296))) &&& BitVec.ofInt 64 4294967295).toNat : Int))) + (IntKind.wrap .u64 ((IntKind.wrap .u64 (((BitVec.ofInt 64 a0 &&& BitVec.ofInt 64 4294967295).toNat : Int))) * (Int.fdiv a1 4294967296))))) 4294967296)), IntKind.wrap .u64 (a0 * a1))
def bits_Mul64.note : Note := { cert := .none }
def bits_Mul64.C {β : Type} : Fun β := cN [.d (.int .u64), .d (.int .u64)] (rsR [.d (.int .u64), .d (.int .u64)]) (bits_Mul64)
end Go.Proofs.YthghchjbomlpfaaGreat.Ev

namespace Go.Proofs.YthghchjbomlpfaaGreat.Ev
set_option linter.unusedVariables false
set_option maxRecDepth 100000
def exact_step.top (k : Nat) (j0 : Int → Int → Int → Int → (List Int) → (List Int) → Option (Int × (List Int))) (a0 a1 : List Int) : Option (Int × (List Int)) :=
  if 0 ≤ (a1.length : Int) ∧ (a1.length : Int) < (a0.length : Int) then (if 0 ≤ (IntKind.wrap .i64 ((a1.length : Int) - 1)) ∧ (IntKind.wrap .i64 ((a1.length : Int) - 1)) < (a1.length : Int) then (bif decide ((List.getD a1 (Int.toNat (IntKind.wrap .i64 ((a1.length : Int) - 1))) 0) ≤ (List.getD a0 (Int.toNat (a1.length : Int)) 0)) then (if 0 ≤ (IntKind.wrap .i64 ((a1.length : Int) - 1)) ∧ (IntKind.wrap .i64 ((a1.length : Int) - 1)) < (a0.length : Int) then (if 0 ≤ (IntKind.wrap .i64 ((a1.length : Int) - 1)) ∧ (IntKind.wrap .i64 ((a1.length : Int) - 1)) < (a1.length : Int) then ((add64 (List.getD a0 (Int.toNat (IntKind.wrap .i64 ((a1.length : Int) - 1))) 0) (List.getD a1 (Int.toNat (IntKind.wrap .i64 ((a1.length : Int) - 1))) 0) 0).bind fun pt1 => j0 (a1.length : Int) 18446744073709551615 pt1.1 pt1.2 a0 a1) else none) else none) else (if 0 ≤ (a1.length : Int) ∧ (a1.length : Int) < (a0.length : Int) then (if 0 ≤ (IntKind.wrap .i64 ((a1.length : Int) - 1)) ∧ (IntKind.wrap .i64 ((a1.length : Int) - 1)) < (a0.length : Int) then (if 0 ≤ (IntKind.wrap .i64 ((a1.length : Int) - 1)) ∧ (IntKind.wrap .i64 ((a1.length : Int) - 1)) < (a1.length : Int) then ((bits_Div64 k (List.getD a0 (Int.toNat (a1.length : Int)) 0) (List.getD a0 (Int.toNat (IntKind.wrap .i64 ((a1.length : Int) - 1))) 0) (List.getD a1 (Int.toNat (IntKind.wrap .i64 ((a1.length : Int) - 1))) 0)).bind fun pt17 => j0 (a1.length : Int) pt17.1 pt17.2 0 a0 a1) else none) else none) else none)) else none) else none
def exact_step.b0 (k : Nat) (j1 : Int → Int → Int → Int → (List Int) → (List Int) → Option (Int × (List Int))) (x0 x1 x2 x3 : Int) (l4 l5 : List Int) : Option (Int × (List Int)) :=
  j1 x0 x1 x2 x3 l4 l5
def exact_step.b1 (k : Nat) (j2 : Int → Int → Int → Bool → (List Int) → (List Int) → Option (Int × (List Int))) (j3 : Int → Int → (List Int) → (List Int) → Option (Int × (List Int))) (x0 x1 x2 x3 : Int) (l4 l5 : List Int) : Option (Int × (List Int)) :=
  bif decide (x3 = 0) then (if 0 ≤ (IntKind.wrap .i64 (x0 - 2)) ∧ (IntKind.wrap .i64 (x0 - 2)) < (l5.length : Int) then ((bits_Mul64 x1 (List.getD l5 (Int.toNat (IntKind.wrap .i64 (x0 - 2))) 0)).bind fun pt3 => bif decide (pt3.1 < x2) then (j2 x0 x1 x2 true l4 l5) else (bif decide (pt3.1 = x2) then (if 0 ≤ (IntKind.wrap .i64 (x0 - 2)) ∧ (IntKind.wrap .i64 (x0 - 2)) < (l4.length : Int) then (j2 x0 x1 x2 (decide (pt3.2 ≤ (List.getD l4 (Int.toNat (IntKind.wrap .i64 (x0 - 2))) 0))) l4 l5) else none) else (j2 x0 x1 x2 false l4 l5))) else none) else (j3 x0 x1 l4 l5)
def exact_step.b2 (k : Nat) (j1 : Int → Int → Int → Int → (List Int) → (List Int) → Option (Int × (List Int))) (j3 : Int → Int → (List Int) → (List Int) → Option (Int × (List Int))) (x0 x1 x2 : Int) (x3 : Bool) (l4 l5 : List Int) : Option (Int × (List Int)) :=
  bif x3 then (j3 x0 x1 l4 l5) else (if 0 ≤ (IntKind.wrap .i64 (x0 - 1)) ∧ (IntKind.wrap .i64 (x0 - 1)) < (l5.length : Int) then ((add64 x2 (List.getD l5 (Int.toNat (IntKind.wrap .i64 (x0 - 1))) 0) 0).bind fun pt15 => j1 x0 (IntKind.wrap .u64 (x1 - 1)) pt15.1 pt15.2 l4 l5) else none)
def exact_step.b3 (k : Nat) (j4 : Int → Int → Int → Int → Int → Int → (List Int) → (List Int) → Option (Int × (List Int))) (x0 x1 : Int) (l2 l3 : List Int) : Option (Int × (List Int)) :=
  j4 x0 x1 0 0 x0 0 l2 l3
def exact_step.b4 (k : Nat) (j4 : Int → Int → Int → Int → Int → Int → (List Int) → (List Int) → Option (Int × (List Int))) (j5 : Int → Int → Int → Int → Int → (List Int) → (List Int) → Option (Int × (List Int))) (x0 x1 x2 x3 x4 x5 : Int) (l6 l7 : List Int) : Option (Int × (List Int)) :=
  bif decide (x5 < x4) then (if 0 ≤ x5 ∧ x5 < (l7.length : Int) then ((bits_Mul64 x1 (List.getD l7 (Int.toNat x5) 0)).bind fun pt5 => (add64 pt5.2 x3 0).bind fun pt7 => if 0 ≤ x5 ∧ x5 < (l6.length : Int) then ((sub64 (List.getD l6 (Int.toNat x5) 0) pt7.1 x2).bind fun pt9 => if 0 ≤ x5 ∧ x5 < (l6.length : Int) then (j4 x0 x1 pt9.2 (IntKind.wrap .u64 (pt5.1 + pt7.2)) x4 (IntKind.wrap .i64 (x5 + 1)) (List.set l6 (Int.toNat x5) pt9.1) l7) else none) else none) else none) else (if 0 ≤ x0 ∧ x0 < (l6.length : Int) then ((sub64 (List.getD l6 (Int.toNat x0) 0) x3 x2).bind fun pt11 => if 0 ≤ x0 ∧ x0 < (l6.length : Int) then (bif decide (pt11.2 = 0) then (some (x1, List.set l6 (Int.toNat x0) pt11.1)) else (j5 x0 x1 0 x0 0 (List.set l6 (Int.toNat x0) pt11.1) l7)) else none) else none)
def exact_step.b5 (k : Nat) (j5 : Int → Int → Int → Int → Int → (List Int) → (List Int) → Option (Int × (List Int))) (x0 x1 x2 x3 x4 : Int) (l5 l6 : List Int) : Option (Int × (List Int)) :=
  bif decide (x4 < x3) then (if 0 ≤ x4 ∧ x4 < (l5.length : Int) then (if 0 ≤ x4 ∧ x4 < (l6.length : Int) then ((add64 (List.getD l5 (Int.toNat x4) 0) (List.getD l6 (Int.toNat x4) 0) x2).bind fun pt13 => if 0 ≤ x4 ∧ x4 < (l5.length : Int) then (j5 x0 x1 pt13.2 x3 (IntKind.wrap .i64 (x4 + 1)) (List.set l5 (Int.toNat x4) pt13.1) l6) else none) else none) else none) else (if 0 ≤ x0 ∧ x0 < (l5.length : Int) then (if 0 ≤ x0 ∧ x0 < (l5.length : Int) then (some (IntKind.wrap .u64 (x1 - 1), List.set l5 (Int.toNat x0) (IntKind.wrap .u64 ((List.getD l5 (Int.toNat x0) 0) + x2)))) else none) else none)
mutual
def exact_step.l0 (k : Nat) : Nat → Int → Int → Int → Int → (List Int) → (List Int) → Option (Int × (List Int))
  | 0, _, _, _, _, _, _ => none
  | n + 1, x0, x1, x2, x3, l4, l5 => exact_step.b0 k (exact_step.l1 k n) x0 x1 x2 x3 l4 l5
def exact_step.l1 (k : Nat) : Nat → Int → Int → Int → Int → (List Int) → (List Int) → Option (Int × (List Int))
  | 0, _, _, _, _, _, _ => none
  | n + 1, x0, x1, x2, x3, l4, l5 => exact_step.b1 k (exact_step.l2 k n) (exact_step.l3 k n) x0 x1 x2 x3 l4 l5
def exact_step.l2 (k : Nat) : Nat → Int → Int → Int → Bool → (List Int) → (List Int) → Option (Int × (List Int))
  | 0, _, _, _, _, _, _ => none
  | n + 1, x0, x1, x2, x3, l4, l5 => exact_step.b2 k (exact_step.l1 k n) (exact_step.l3 k n) x0 x1 x2 x3 l4 l5
def exact_step.l3 (k : Nat) : Nat → Int → Int → (List Int) → (List Int) → Option (Int × (List Int))
  | 0, _, _, _, _ => none
  | n + 1, x0, x1, l2, l3 => exact_step.b3 k (exact_step.l4 k n) x0 x1 l2 l3
def exact_step.l4 (k : Nat) : Nat → Int → Int → Int → Int → Int → Int → (List Int) → (List Int) → Option (Int × (List Int))
  | 0, _, _, _, _, _, _, _, _ => none
  | n + 1, x0, x1, x2, x3, x4, x5, l6, l7 => exact_step.b4 k (exact_step.l4 k n) (exact_step.l5 k n) x0 x1 x2 x3 x4 x5 l6 l7
def exact_step.l5 (k : Nat) : Nat → Int → Int → Int → Int → Int → (List Int) → (List Int) → Option (Int × (List Int))
  | 0, _, _, _, _, _, _, _ => none
  | n + 1, x0, x1, x2, x3, x4, l5, l6 => exact_step.b5 k (exact_step.l5 k n) x0 x1 x2 x3 x4 l5 l6
end
def exact_step (k : Nat) (a0 a1 : List Int) : Option (Int × (List Int)) :=
  exact_step.top k (exact_step.l0 k k) a0 a1
def exact_step.note : Note := { cert := (.two .none (.two .none (.two .none (.two .none (.two (.two .none (.lab 0 [0, 1, 5, 6, 7, 8] [] [] .none)) (.two (.lab 3 [0, 1, 5, 6] [] [] (.one (.lab 1 [0, 1, 5, 6, 7, 8] [] [] (.one (.two .none (.one (.two .none (.two (.two (.lab 2 [0, 1, 5, 6, 7, 91] [] [] .none) .none) .none)))))))) (.two .none (.two (.two .none (.one (.lab 4 [0, 1, 5, 6, 11, 12, 104, 105] [] [] .none))) (.two .none (.two .none (.two .none (.two (.two .none (.one (.lab 5 [0, 1, 5, 6, 17, 156, 157] [] [] .none))) .none)))))))))))), ms := [0] }
def exact_step.orc {β : Type} (k : Nat) : Oracle β := orcOf [(224, add64.C), (223, bits_Mul64.C), (232, sub64.C), (219, bits_Div64.C k)]
def exact_step.s0 (L : Labels (Int × (List Int))) (x0 x1 x2 x3 : Int) (l4 l5 : List Int) : Option (Int × (List Int)) := L 0 (mkE 186 0 [(0, .own 0), (1, .own 1), (5, .data (.int .i64) x0), (6, .data (.int .u64) x1), (7, .data (.int .u64) x2), (8, .data (.int .u64) x3)]) (ofList [.arr .rw (.int .u64) l4, .arr .ro (.int .u64) l5]) 2
def exact_step.s1 (L : Labels (Int × (List Int))) (x0 x1 x2 x3 : Int) (l4 l5 : List Int) : Option (Int × (List Int)) := L 1 (mkE 186 0 [(0, .own 0), (1, .own 1), (5, .data (.int .i64) x0), (6, .data (.int .u64) x1), (7, .data (.int .u64) x2), (8, .data (.int .u64) x3)]) (ofList [.arr .rw (.int .u64) l4, .arr .ro (.int .u64) l5]) 2
def exact_step.s2 (L : Labels (Int × (List Int))) (x0 x1 x2 : Int) (x3 : Bool) (l4 l5 : List Int) : Option (Int × (List Int)) := L 2 (mkE 186 0 [(0, .own 0), (1, .own 1), (5, .data (.int .i64) x0), (6, .data (.int .u64) x1), (7, .data (.int .u64) x2), (91, .data .bool x3)]) (ofList [.arr .rw (.int .u64) l4, .arr .ro (.int .u64) l5]) 2
def exact_step.s3 (L : Labels (Int × (List Int))) (x0 x1 : Int) (l2 l3 : List Int) : Option (Int × (List Int)) := L 3 (mkE 186 0 [(0, .own 0), (1, .own 1), (5, .data (.int .i64) x0), (6, .data (.int .u64) x1)]) (ofList [.arr .rw (.int .u64) l2, .arr .ro (.int .u64) l3]) 2
def exact_step.s4 (L : Labels (Int × (List Int))) (x0 x1 x2 x3 x4 x5 : Int) (l6 l7 : List Int) : Option (Int × (List Int)) := L 4 (mkE 186 0 [(0, .own 0), (1, .own 1), (5, .data (.int .i64) x0), (6, .data (.int .u64) x1), (11, .data (.int .u64) x2), (12, .data (.int .u64) x3), (104, .data (.int .i64) x4), (105, .data (.int .i64) x5)]) (ofList [.arr .rw (.int .u64) l6, .arr .ro (.int .u64) l7]) 2
def exact_step.s5 (L : Labels (Int × (List Int))) (x0 x1 x2 x3 x4 : Int) (l5 l6 : List Int) : Option (Int × (List Int)) := L 5 (mkE 186 0 [(0, .own 0), (1, .own 1), (5, .data (.int .i64) x0), (6, .data (.int .u64) x1), (17, .data (.int .u64) x2), (156, .data (.int .i64) x3), (157, .data (.int .i64) x4)]) (ofList [.arr .rw (.int .u64) l5, .arr .ro (.int .u64) l6]) 2
def exact_step.C {β : Type} (k : Nat) : Fun β := cN [.m (.int .u64), .d (.slice (.int .u64))] (rsR [.d (.int .u64), .u 0 (.int .u64)]) (exact_step k)
def exact_divide.top (k : Nat) (j0 : Int → Int → (List Int) → (List Int) → (List Int) → Option ((List Int) × (List Int))) (j1 : Int → Nat → Int → Int → (List Int) → (List Int) → (List Int) → Option ((List Int) × (List Int))) (a0 a1 : List Int) : Option ((List Int) × (List Int)) :=
  (exact_compareWords k a0 a1).bind fun t1 => bif decide (t1 < 0) then (some (([] : List Int), a0)) else (bif decide ((a1.length : Int) = 1) then (if 0 ≤ (a0.length : Int) then (if (Int.toNat (a0.length : Int)) ≤ 281474976710656 / 8 then (j0 0 (IntKind.wrap .i64 ((a0.length : Int) - 1)) a0 a1 (List.replicate (Int.toNat (a0.length : Int)) 0 : List Int)) else none) else none) else (if 0 ≤ (IntKind.wrap .i64 ((a1.length : Int) - 1)) ∧ (IntKind.wrap .i64 ((a1.length : Int) - 1)) < (a1.length : Int) then ((bits_LeadingZeros64 k (List.getD a1 (Int.toNat (IntKind.wrap .i64 ((a1.length : Int) - 1))) 0)).bind fun t6 => (exact_shiftUp k a1 t6).bind fun t7 => (exact_trim k t7).bind fun t8 => (exact_shiftUp k a0 t6).bind fun t9 => if 0 ≤ (IntKind.wrap .i64 ((IntKind.wrap .i64 ((a0.length : Int) - (t8 : Int))) + 1)) then (if (Int.toNat (IntKind.wrap .i64 ((IntKind.wrap .i64 ((a0.length : Int) - (t8 : Int))) + 1))) ≤ 281474976710656 / 8 then (j1 t6 t8 (t8 : Int) (IntKind.wrap .i64 ((a0.length : Int) - (t8 : Int))) t7 t9 (List.replicate (Int.toNat (IntKind.wrap .i64 ((IntKind.wrap .i64 ((a0.length : Int) - (t8 : Int))) + 1))) 0 : List Int)) else none) else none) else none))
def exact_divide.b0 (k : Nat) (j0 : Int → Int → (List Int) → (List Int) → (List Int) → Option ((List Int) × (List Int))) (x0 x1 : Int) (l2 l3 l4 : List Int) : Option ((List Int) × (List Int)) :=
  bif decide (0 ≤ x1) then (if 0 ≤ x1 ∧ x1 < (l2.length : Int) then (if 0 ≤ (0 : Int) ∧ (0 : Int) < (l3.length : Int) then ((bits_Div64 k x0 (List.getD l2 (Int.toNat x1) 0) (List.getD l3 0 0)).bind fun pt2 => if 0 ≤ x1 ∧ x1 < (l4.length : Int) then (j0 pt2.2 (IntKind.wrap .i64 (x1 - 1)) l2 l3 (List.set l4 (Int.toNat x1) pt2.1)) else none) else none) else none) else ((exact_trim k l4).bind fun t4 => (exact_trim k ([x0] : List Int)).bind fun t5 => some (List.take t4 (List.drop 0 l4), List.take t5 (List.drop 0 ([x0] : List Int))))
def exact_divide.b1 (k : Nat) (j1 : Int → Nat → Int → Int → (List Int) → (List Int) → (List Int) → Option ((List Int) × (List Int))) (j2 : Int → Int → Int → Int → (List Int) → (List Int) → Option ((List Int) × (List Int))) (x0 : Int) (n1 : Nat) (x2 x3 : Int) (l4 l5 l6 : List Int) : Option ((List Int) × (List Int)) :=
  bif decide (0 ≤ x3) then (if 0 ≤ (IntKind.wrap .i64 ((IntKind.wrap .i64 (x3 + x2)) + 1)) ∧ (IntKind.wrap .i64 ((IntKind.wrap .i64 (x3 + x2)) + 1)) ≤ (l5.length : Int) then (if 0 ≤ x3 ∧ x3 ≤ (IntKind.wrap .i64 ((IntKind.wrap .i64 (x3 + x2)) + 1)) then ((exact_step k (List.take ((Int.toNat (IntKind.wrap .i64 ((IntKind.wrap .i64 (x3 + x2)) + 1))) - (Int.toNat x3)) (List.drop (Int.toNat x3) l5)) (List.take n1 (List.drop 0 l4))).bind fun pt10 => if 0 ≤ x3 ∧ x3 < (l6.length : Int) then (j1 x0 n1 x2 (IntKind.wrap .i64 (x3 - 1)) l4 (List.take (Int.toNat x3) l5 ++ (pt10.2 ++ List.drop ((Int.toNat x3) + ((Int.toNat (IntKind.wrap .i64 ((IntKind.wrap .i64 (x3 + x2)) + 1))) - (Int.toNat x3))) l5)) (List.set l6 (Int.toNat x3) pt10.1)) else none) else none) else none) else (j2 x0 x2 x2 0 l5 l6)
def exact_divide.b2 (k : Nat) (j2 : Int → Int → Int → Int → (List Int) → (List Int) → Option ((List Int) × (List Int))) (x0 x1 x2 x3 : Int) (l4 l5 : List Int) : Option ((List Int) × (List Int)) :=
  bif decide (x3 < x2) then (if 0 ≤ x3 ∧ x3 < (l4.length : Int) then (if x0 < 0 then none else (if 0 ≤ x3 ∧ x3 < (l4.length : Int) then (bif decide (0 < x0) then (bif decide ((IntKind.wrap .i64 (x3 + 1)) < ((List.set l4 (Int.toNat x3) (Int.fdiv (List.getD l4 (Int.toNat x3) 0) (2 ^ min (Int.toNat x0) 64))).length : Int)) then (if 0 ≤ x3 ∧ x3 < ((List.set l4 (Int.toNat x3) (Int.fdiv (List.getD l4 (Int.toNat x3) 0) (2 ^ min (Int.toNat x0) 64))).length : Int) then (if 0 ≤ (IntKind.wrap .i64 (x3 + 1)) ∧ (IntKind.wrap .i64 (x3 + 1)) < ((List.set l4 (Int.toNat x3) (Int.fdiv (List.getD l4 (Int.toNat x3) 0) (2 ^ min (Int.toNat x0) 64))).length : Int) then (if (IntKind.wrap .i64 (64 - x0)) < 0 then none else (if 0 ≤ x3 ∧ x3 < ((List.set l4 (Int.toNat x3) (Int.fdiv (List.getD l4 (Int.toNat x3) 0) (2 ^ min (Int.toNat x0) 64))).length : Int) then (j2 x0 x1 x2 (IntKind.wrap .i64 (x3 + 1)) (List.set (List.set l4 (Int.toNat x3) (Int.fdiv (List.getD l4 (Int.toNat x3) 0) (2 ^ min (Int.toNat x0) 64))) (Int.toNat x3) (IntKind.wrap .u64 (((BitVec.ofInt 64 (List.getD (List.set l4 (Int.toNat x3) (Int.fdiv (List.getD l4 (Int.toNat x3) 0) (2 ^ min (Int.toNat x0) 64))) (Int.toNat x3) 0) ||| BitVec.ofInt 64 (IntKind.wrap .u64 ((List.getD (List.set l4 (Int.toNat x3) (Int.fdiv (List.getD l4 (Int.toNat x3) 0) (2 ^ min (Int.toNat x0) 64))) (Int.toNat (IntKind.wrap .i64 (x3 + 1))) 0) * 2 ^ min (Int.toNat (IntKind.wrap .i64 (64 - x0))) 64))).toNat : Int)))) l5) else none)) else none) else none) else (j2 x0 x1 x2 (IntKind.wrap .i64 (x3 + 1)) (List.set l4 (Int.toNat x3) (Int.fdiv (List.getD l4 (Int.toNat x3) 0) (2 ^ min (Int.toNat x0) 64))) l5)) else (j2 x0 x1 x2 (IntKind.wrap .i64 (x3 + 1)) (List.set l4 (Int.toNat x3) (Int.fdiv (List.getD l4 (Int.toNat x3) 0) (2 ^ min (Int.toNat x0) 64))) l5)) else none)) else none) else ((exact_trim k l5).bind fun t12 => if 0 ≤ x1 ∧ x1 ≤ (l4.length : Int) then ((exact_trim k (List.take ((Int.toNat x1) - 0) (List.drop 0 l4))).bind fun t13 => some (List.take t12 (List.drop 0 l5), List.take t13 (List.drop 0 l4))) else none)
mutual
def exact_divide.l0 (k : Nat) : Nat → Int → Int → (List Int) → (List Int) → (List Int) → Option ((List Int) × (List Int))
  | 0, _, _, _, _, _ => none
  | n + 1, x0, x1, l2, l3, l4 => exact_divide.b0 k (exact_divide.l0 k n) x0 x1 l2 l3 l4
def exact_divide.l1 (k : Nat) : Nat → Int → Nat → Int → Int → (List Int) → (List Int) → (List Int) → Option ((List Int) × (List Int))
  | 0, _, _, _, _, _, _, _ => none
  | n + 1, x0, n1, x2, x3, l4, l5, l6 => exact_divide.b1 k (exact_divide.l1 k n) (exact_divide.l2 k n) x0 n1 x2 x3 l4 l5 l6
def exact_divide.l2 (k : Nat) : Nat → Int → Int → Int → Int → (List Int) → (List Int) → Option ((List Int) × (List Int))
  | 0, _, _, _, _, _, _ => none
  | n + 1, x0, x1, x2, x3, l4, l5 => exact_divide.b2 k (exact_divide.l2 k n) x0 x1 x2 x3 l4 l5
end
def exact_divide (k : Nat) (a0 a1 : List Int) : Option ((List Int) × (List Int)) :=
  exact_divide.top k (exact_divide.l0 k k) (exact_divide.l1 k k) a0 a1
def exact_divide.note : Note := { cert := (.two .none (.two .none (.two (.two .none (.two (.two .none (.two .none (.two (.two .none (.one (.lab 0 [0, 1, 6, 7, 8] [] [] .none))) .none))) .none)) (.two .none (.two .none (.two .none (.two .none (.two .none (.two (.two .none (.one (.lab 1 [9, 10, 11, 12, 13, 14] [] [] .none))) (.two (.two .none (.one (.lab 2 [9, 11, 12, 13, 96, 97] [] [] .none))) .none)))))))))), fs := [false, true] }
def exact_divide.orc {β : Type} (k : Nat) : Oracle β := orcOf [(218, exact_compareWords.C k), (219, bits_Div64.C k), (217, exact_trim.C k), (220, bits_LeadingZeros64.C k), (221, exact_shiftUp.C k), (222, exact_step.C k)]
def exact_divide.s0 (L : Labels ((List Int) × (List Int))) (x0 x1 : Int) (l2 l3 l4 : List Int) : Option ((List Int) × (List Int)) := L 0 (mkE 137 0 [(0, .own 0), (1, .own 1), (6, .own 2), (7, .data (.int .u64) x0), (8, .data (.int .i64) x1)]) (ofList [.arr .ro (.int .u64) l2, .arr .ro (.int .u64) l3, .arr .own (.int .u64) l4]) 3
def exact_divide.s1 (L : Labels ((List Int) × (List Int))) (x0 : Int) (n1 : Nat) (x2 x3 : Int) (l4 l5 l6 : List Int) : Option ((List Int) × (List Int)) := L 1 (mkE 137 0 [(9, .data (.int .i64) x0), (10, .sl 2 0 n1), (11, .own 3), (12, .data (.int .i64) x2), (13, .own 4), (14, .data (.int .i64) x3)]) (ofList [.dead, .dead, .arr .own (.int .u64) l4, .arr .own (.int .u64) l5, .arr .own (.int .u64) l6]) 5
def exact_divide.s2 (L : Labels ((List Int) × (List Int))) (x0 x1 x2 x3 : Int) (l4 l5 : List Int) : Option ((List Int) × (List Int)) := L 2 (mkE 137 0 [(9, .data (.int .i64) x0), (11, .own 2), (12, .data (.int .i64) x1), (13, .own 3), (96, .data (.int .i64) x2), (97, .data (.int .i64) x3)]) (ofList [.dead, .dead, .arr .own (.int .u64) l4, .arr .own (.int .u64) l5]) 4
def exact_divide.C {β : Type} (k : Nat) : Fun β := cN [.d (.slice (.int .u64)), .d (.slice (.int .u64))] (rsR [.o (.int .u64), .d (.slice (.int .u64))]) (exact_divide k)
def exact_pack.top (k : Nat) (j0 : Nat → Int → Int → (List Int) → (List Int) → Option ByteArray) (a0 : List Int) : Option ByteArray :=
  (exact_trim k a0).bind fun t1 => bif decide ((t1 : Int) = 0) then (some (⟨#[]⟩ : ByteArray)) else (if 0 ≤ (IntKind.wrap .i64 (8 * (t1 : Int))) then (if (Int.toNat (IntKind.wrap .i64 (8 * (t1 : Int)))) ≤ 281474976710656 / 1 then (j0 t1 (t1 : Int) 0 a0 (List.replicate (Int.toNat (IntKind.wrap .i64 (8 * (t1 : Int)))) 0 : List Int)) else none) else none)
def exact_pack.b0 (k : Nat) (j1 : Int → Int → Nat → Int → Int → Int → (List Int) → (List Int) → Option ByteArray) (j2 : Int → (List Int) → Option ByteArray) (n0 : Nat) (x1 x2 : Int) (l3 l4 : List Int) : Option ByteArray :=
  bif decide (x2 < x1) then (if 0 ≤ x2 ∧ x2 < (n0 : Int) then (j1 x2 (List.getD l3 (0 + (Int.toNat x2)) 0) n0 x1 x2 0 l3 l4) else none) else (j2 0 l4)
def exact_pack.b1 (k : Nat) (j0 : Nat → Int → Int → (List Int) → (List Int) → Option ByteArray) (j1 : Int → Int → Nat → Int → Int → Int → (List Int) → (List Int) → Option ByteArray) (x0 x1 : Int) (n2 : Nat) (x3 x4 x5 : Int) (l6 l7 : List Int) : Option ByteArray :=
  bif decide (x5 < 8) then (if (IntKind.wrap .i64 (8 * x5)) < 0 then none else (if 0 ≤ (IntKind.wrap .i64 ((IntKind.wrap .i64 ((IntKind.wrap .i64 ((l7.length : Int) - 1)) - (IntKind.wrap .i64 (8 * x0)))) - x5)) ∧ (IntKind.wrap .i64 ((IntKind.wrap .i64 ((IntKind.wrap .i64 ((l7.length : Int) - 1)) - (IntKind.wrap .i64 (8 * x0)))) - x5)) < (l7.length : Int) then (j1 x0 x1 n2 x3 x4 (IntKind.wrap .i64 (x5 + 1)) l6 (List.set l7 (Int.toNat (IntKind.wrap .i64 ((IntKind.wrap .i64 ((IntKind.wrap .i64 ((l7.length : Int) - 1)) - (IntKind.wrap .i64 (8 * x0)))) - x5))) (IntKind.wrap .u8 (Int.fdiv x1 (2 ^ min (Int.toNat (IntKind.wrap .i64 (8 * x5))) 64))))) else none)) else (j0 n2 x3 (IntKind.wrap .i64 (x4 + 1)) l6 l7)
def exact_pack.b2 (k : Nat) (j2 : Int → (List Int) → Option ByteArray) (x0 : Int) (l1 : List Int) : Option ByteArray :=
  if 0 ≤ x0 ∧ x0 < (l1.length : Int) then (bif decide ((List.getD l1 (Int.toNat x0) 0) = 0) then (j2 (IntKind.wrap .i64 (x0 + 1)) l1) else (if 0 ≤ x0 ∧ x0 ≤ (l1.length : Int) then (some (strOf (List.take (l1.length - (Int.toNat x0)) (List.drop (Int.toNat x0) l1)))) else none)) else none
mutual
def exact_pack.l0 (k : Nat) : Nat → Nat → Int → Int → (List Int) → (List Int) → Option ByteArray
  | 0, _, _, _, _, _ => none
  | n + 1, n0, x1, x2, l3, l4 => exact_pack.b0 k (exact_pack.l1 k n) (exact_pack.l2 k n) n0 x1 x2 l3 l4
def exact_pack.l1 (k : Nat) : Nat → Int → Int → Nat → Int → Int → Int → (List Int) → (List Int) → Option ByteArray
  | 0, _, _, _, _, _, _, _, _ => none
  | n + 1, x0, x1, n2, x3, x4, x5, l6, l7 => exact_pack.b1 k (exact_pack.l0 k n) (exact_pack.l1 k n) x0 x1 n2 x3 x4 x5 l6 l7
def exact_pack.l2 (k : Nat) : Nat → Int → (List Int) → Option ByteArray
  | 0, _, _ => none
  | n + 1, x0, l1 => exact_pack.b2 k (exact_pack.l2 k n) x0 l1
end
def exact_pack (k : Nat) (a0 : List Int) : Option ByteArray :=
  exact_pack.top k (exact_pack.l0 k k) a0
def exact_pack.note : Note := { cert := (.two .none (.two .none (.two .none (.two .none (.two (.two .none (.one (.lab 0 [3, 17, 18, 19] [] [] (.one (.two .none (.two .none (.two (.one (.two .none (.two .none (.one (.lab 1 [3, 4, 5, 17, 18, 19, 24] [] [] .none))))) .none))))))) (.two .none (.two (.one (.lab 2 [3, 7] [] [] .none)) .none))))))) }
def exact_pack.orc {β : Type} (k : Nat) : Oracle β := orcOf [(217, exact_trim.C k)]
def exact_pack.s0 (L : Labels ByteArray) (n0 : Nat) (x1 x2 : Int) (l3 l4 : List Int) : Option ByteArray := L 0 (mkE 55 0 [(3, .own 1), (17, .sl 0 0 n0), (18, .data (.int .i64) x1), (19, .data (.int .i64) x2)]) (ofList [.arr .ro (.int .u64) l3, .arr .own (.int .u8) l4]) 2
def exact_pack.s1 (L : Labels ByteArray) (x0 x1 : Int) (n2 : Nat) (x3 x4 x5 : Int) (l6 l7 : List Int) : Option ByteArray := L 1 (mkE 55 0 [(3, .own 1), (4, .data (.int .i64) x0), (5, .data (.int .u64) x1), (17, .sl 0 0 n2), (18, .data (.int .i64) x3), (19, .data (.int .i64) x4), (24, .data (.int .i64) x5)]) (ofList [.arr .ro (.int .u64) l6, .arr .own (.int .u8) l7]) 2
def exact_pack.s2 (L : Labels ByteArray) (x0 : Int) (l1 : List Int) : Option ByteArray := L 2 (mkE 55 0 [(3, .own 1), (7, .data (.int .i64) x0)]) (ofList [.dead, .arr .own (.int .u8) l1]) 2
def exact_pack.C {β : Type} (k : Nat) : Fun β := cN [.d (.slice (.int .u64))] (rsR [.d .str]) (exact_pack k)
def exact_NatGcd.top (k : Nat) (j0 : (List Int) → (List Int) → Option ByteArray) (a0 a1 : ByteArray) : Option ByteArray :=
  (exact_words k a0).bind fun t1 => (exact_words k a1).bind fun t2 => j0 t1 t2
def exact_NatGcd.b0 (k : Nat) (j0 : (List Int) → (List Int) → Option ByteArray) (x0 x1 : List Int) : Option ByteArray :=
  bif decide (0 < (x1.length : Int)) then ((exact_divide k x0 x1).bind fun pt3 => j0 x1 pt3.2) else ((exact_pack k x0).bind fun t5 => some t5)
def exact_NatGcd.l0 (k : Nat) : Nat → (List Int) → (List Int) → Option ByteArray
  | 0, _, _ => none
  | n + 1, x0, x1 => exact_NatGcd.b0 k (exact_NatGcd.l0 k n) x0 x1
def exact_NatGcd (k : Nat) (a0 a1 : ByteArray) : Option ByteArray :=
  exact_NatGcd.top k (exact_NatGcd.l0 k k) a0 a1
def exact_NatGcd.note : Note := { cert := (.two .none (.two .none (.two (.one (.lab 0 [5, 6] [] [5, 6] .none)) .none))) }
def exact_NatGcd.orc {β : Type} (k : Nat) : Oracle β := orcOf [(197, exact_words.C k), (198, exact_divide.C k), (199, exact_pack.C k)]
def exact_NatGcd.s0 (L : Labels ByteArray) (x0 x1 : List Int) : Option ByteArray := L 0 (mkE 26 0 [(5, .data (.slice (.int .u64)) x0), (6, .data (.slice (.int .u64)) x1)]) (ofList [.dead, .dead]) 2
def exact_NatGcd.C {β : Type} (k : Nat) : Fun β := cN [.d .str, .d .str] (rsR [.d .str]) (exact_NatGcd k)
def rational_Check.top (k : Nat) (j0 : Int → Int → Bool → D1 → Option Int) (a0 : D1) : Option Int :=
  (integer_Check k a0.1).bind fun t1 => (natural_Check k a0.2).bind fun t2 => bif decide (t1 = 1) then (j0 t1 t2 true a0) else (bif decide (t2 = 1) then (j0 t1 t2 true a0) else (j0 t1 t2 (a0.2.toList == (⟨#[]⟩ : ByteArray).toList) a0))
def rational_Check.b0 (k : Nat) (x0 x1 : Int) (x2 : Bool) (x3 : D1) : Option Int :=
  bif x2 then (some 1) else (bif !decide (x0 = 0) then (some x0) else (bif !decide (x1 = 0) then (some x1) else (bif !(x3.2.toList == (⟨#[1]⟩ : ByteArray).toList) then ((exact_NatGcd k x3.1.2 x3.2).bind fun t3 => bif !(t3.toList == (⟨#[1]⟩ : ByteArray).toList) then (some 1) else (some 0)) else (some 0))))
def rational_Check.l0 (k : Nat) : Nat → Int → Int → Bool → D1 → Option Int
  | 0, _, _, _, _ => none
  | n + 1, x0, x1, x2, x3 => rational_Check.b0 k x0 x1 x2 x3
def rational_Check (k : Nat) (a0 : D1) : Option Int :=
  rational_Check.top k (rational_Check.l0 k k) a0
def rational_Check.note : Note := { cert := (.two .none (.two .none (.two (.one (.two (.lab 0 [1, 3, 4, 11] [] [] .none) .none)) .none))) }
def rational_Check.orc {β : Type} (k : Nat) : Oracle β := orcOf [(154, integer_Check.C k), (155, natural_Check.C k), (156, exact_NatGcd.C k)]
def rational_Check.s0 (L : Labels Int) (x0 x1 : Int) (x2 : Bool) (x3 : D1) : Option Int := L 0 (mkE 44 0 [(1, .ptr 1 Y1 []), (3, .data (.int .i64) x0), (4, .data (.int .i64) x1), (11, .data .bool x2)]) (ofList [.dead, .var true Y1 (.data Y1 x3)]) 2
def rational_Check.C {β : Type} (k : Nat) : Fun β := cN [.d Y1] (rsR [.d (.int .i64)]) (rational_Check k)
def enclosure_grid (a0 : Int) : Option Int :=
  bif decide (a0 < 0) then (some 3) else (bif decide (4096 < a0) then (some 3) else (some 0))
def enclosure_grid.note : Note := { cert := .none }
def enclosure_grid.C {β : Type} : Fun β := cN [.d (.int .i64)] (rsR [.d (.int .i64)]) (enclosure_grid)
def enclosure_first.top (j0 : Int → Int → (List Int) → Option Int) (a0 : List Int) : Option Int :=
  j0 (a0.length : Int) 0 a0
def enclosure_first.b0 (j0 : Int → Int → (List Int) → Option Int) (x0 x1 : Int) (l2 : List Int) : Option Int :=
  bif decide (x1 < x0) then (if 0 ≤ x1 ∧ x1 < (l2.length : Int) then (bif !decide ((List.getD l2 (Int.toNat x1) 0) = 0) then (some (List.getD l2 (Int.toNat x1) 0)) else (j0 x0 (IntKind.wrap .i64 (x1 + 1)) l2)) else none) else (some 0)
def enclosure_first.l0 : Nat → Int → Int → (List Int) → Option Int
  | 0, _, _, _ => none
  | n + 1, x0, x1, l2 => enclosure_first.b0 (enclosure_first.l0 n) x0 x1 l2
def enclosure_first (k : Nat) (a0 : List Int) : Option Int :=
  enclosure_first.top (enclosure_first.l0 k) a0
def enclosure_first.note : Note := { cert := (.two .none (.two (.two .none (.one (.lab 0 [5, 6, 7] [] [] .none))) .none)) }
def enclosure_first.s0 (L : Labels Int) (x0 x1 : Int) (l2 : List Int) : Option Int := L 0 (mkE 15 0 [(5, .own 0), (6, .data (.int .i64) x0), (7, .data (.int .i64) x1)]) (ofList [.arr .ro (.int .i64) l2]) 1
def enclosure_first.C {β : Type} (k : Nat) : Fun β := cN [.d (.slice (.int .i64))] (rsR [.d (.int .i64)]) (enclosure_first k)
def exact_NatOf (k : Nat) (a0 : Int) : Option ByteArray :=
  (exact_pack k ([a0] : List Int)).bind fun t1 => some t1
def exact_NatOf.note : Note := { cert := .none }
def exact_NatOf.orc {β : Type} (k : Nat) : Oracle β := orcOf [(199, exact_pack.C k)]
def exact_NatOf.C {β : Type} (k : Nat) : Fun β := cN [.d (.int .u64)] (rsR [.d .str]) (exact_NatOf k)
def exact_IntOf (k : Nat) (a0 : Int) : Option D0 :=
  bif decide (a0 < 0) then ((exact_NatOf k (IntKind.wrap .u64 (0 - (IntKind.wrap .u64 (a0))))).bind fun t1 => some (true, t1)) else ((exact_NatOf k (IntKind.wrap .u64 (a0))).bind fun t2 => some (false, t2))
def exact_IntOf.note : Note := { cert := .none }
def exact_IntOf.orc {β : Type} (k : Nat) : Oracle β := orcOf [(230, exact_NatOf.C k)]
def exact_IntOf.C {β : Type} (k : Nat) : Fun β := cN [.d (.int .i64)] (rsR [.d Y0]) (exact_IntOf k)
def exact_NatTwo (a0 : Int) : Option ByteArray :=
  if 0 ≤ (IntKind.wrap .i64 ((IntKind.wrap .i64 (Int.tdiv a0 8)) + 1)) then (if (Int.toNat (IntKind.wrap .i64 ((IntKind.wrap .i64 (Int.tdiv a0 8)) + 1))) ≤ 281474976710656 / 1 then (if (Int.tmod a0 8) < 0 then none else (if 0 ≤ (0 : Int) ∧ (0 : Int) < ((List.replicate (Int.toNat (IntKind.wrap .i64 ((IntKind.wrap .i64 (Int.tdiv a0 8)) + 1))) 0 : List Int).length : Int) then (some (strOf (List.set (List.replicate (Int.toNat (IntKind.wrap .i64 ((IntKind.wrap .i64 (Int.tdiv a0 8)) + 1))) 0 : List Int) 0 (IntKind.wrap .u8 (1 * 2 ^ min (Int.toNat (Int.tmod a0 8)) 8))))) else none)) else none) else none
def exact_NatTwo.note : Note := { cert := .none }
def exact_NatTwo.C {β : Type} : Fun β := cN [.d (.int .i64)] (rsR [.d .str]) (exact_NatTwo)
def exact_Two (k : Nat) (a0 : Int) : Option D1 :=
  bif decide (a0 < 0) then ((exact_IntOf k 1).bind fun t1 => (exact_NatTwo (IntKind.wrap .i64 (0 - a0))).bind fun t2 => some (t1, t2)) else ((exact_NatTwo a0).bind fun t3 => some ((false, t3), (⟨#[1]⟩ : ByteArray)))
def exact_Two.note : Note := { cert := .none }
def exact_Two.orc {β : Type} (k : Nat) : Oracle β := orcOf [(215, exact_IntOf.C k), (157, exact_NatTwo.C)]
def exact_Two.C {β : Type} (k : Nat) : Fun β := cN [.d (.int .i64)] (rsR [.d Y1]) (exact_Two k)
def exact_mulWords.top (k : Nat) (j0 : Int → Int → (List Int) → (List Int) → (List Int) → Option ((List Int))) (a0 a1 : List Int) : Option ((List Int)) :=
  if 0 ≤ (IntKind.wrap .i64 ((a0.length : Int) + (a1.length : Int))) then (if (Int.toNat (IntKind.wrap .i64 ((a0.length : Int) + (a1.length : Int)))) ≤ 281474976710656 / 8 then (j0 (a0.length : Int) 0 a0 a1 (List.replicate (Int.toNat (IntKind.wrap .i64 ((a0.length : Int) + (a1.length : Int)))) 0 : List Int)) else none) else none
def exact_mulWords.b0 (k : Nat) (j1 : Int → Int → Int → Int → Int → Int → Int → (List Int) → (List Int) → (List Int) → Option ((List Int))) (x0 x1 : Int) (l2 l3 l4 : List Int) : Option ((List Int)) :=
  bif decide (x1 < x0) then (if 0 ≤ x1 ∧ x1 < (l2.length : Int) then (j1 x1 (List.getD l2 (Int.toNat x1) 0) 0 x0 x1 (l3.length : Int) 0 l2 l3 l4) else none) else ((exact_trim k l4).bind fun t7 => some (List.take t7 (List.drop 0 l4)))
def exact_mulWords.b1 (k : Nat) (j0 : Int → Int → (List Int) → (List Int) → (List Int) → Option ((List Int))) (j1 : Int → Int → Int → Int → Int → Int → Int → (List Int) → (List Int) → (List Int) → Option ((List Int))) (x0 x1 x2 x3 x4 x5 x6 : Int) (l7 l8 l9 : List Int) : Option ((List Int)) :=
  bif decide (x6 < x5) then (if 0 ≤ x6 ∧ x6 < (l8.length : Int) then ((bits_Mul64 x1 (List.getD l8 (Int.toNat x6) 0)).bind fun pt1 => if 0 ≤ (IntKind.wrap .i64 (x0 + x6)) ∧ (IntKind.wrap .i64 (x0 + x6)) < (l9.length : Int) then ((add64 pt1.2 (List.getD l9 (Int.toNat (IntKind.wrap .i64 (x0 + x6))) 0) 0).bind fun pt3 => (add64 pt3.1 x2 0).bind fun pt5 => if 0 ≤ (IntKind.wrap .i64 (x0 + x6)) ∧ (IntKind.wrap .i64 (x0 + x6)) < (l9.length : Int) then (j1 x0 x1 (IntKind.wrap .u64 ((IntKind.wrap .u64 (pt1.1 + pt3.2)) + pt5.2)) x3 x4 x5 (IntKind.wrap .i64 (x6 + 1)) l7 l8 (List.set l9 (Int.toNat (IntKind.wrap .i64 (x0 + x6))) pt5.1)) else none) else none) else none) else (if 0 ≤ (IntKind.wrap .i64 (x0 + (l8.length : Int))) ∧ (IntKind.wrap .i64 (x0 + (l8.length : Int))) < (l9.length : Int) then (j0 x3 (IntKind.wrap .i64 (x4 + 1)) l7 l8 (List.set l9 (Int.toNat (IntKind.wrap .i64 (x0 + (l8.length : Int)))) x2)) else none)
mutual
def exact_mulWords.l0 (k : Nat) : Nat → Int → Int → (List Int) → (List Int) → (List Int) → Option ((List Int))
  | 0, _, _, _, _, _ => none
  | n + 1, x0, x1, l2, l3, l4 => exact_mulWords.b0 k (exact_mulWords.l1 k n) x0 x1 l2 l3 l4
def exact_mulWords.l1 (k : Nat) : Nat → Int → Int → Int → Int → Int → Int → Int → (List Int) → (List Int) → (List Int) → Option ((List Int))
  | 0, _, _, _, _, _, _, _, _, _, _ => none
  | n + 1, x0, x1, x2, x3, x4, x5, x6, l7, l8, l9 => exact_mulWords.b1 k (exact_mulWords.l0 k n) (exact_mulWords.l1 k n) x0 x1 x2 x3 x4 x5 x6 l7 l8 l9
end
def exact_mulWords (k : Nat) (a0 a1 : List Int) : Option ((List Int)) :=
  exact_mulWords.top k (exact_mulWords.l0 k k) a0 a1
def exact_mulWords.note : Note := { cert := (.two .none (.two .none (.two (.two .none (.one (.lab 0 [1, 5, 20, 21, 22] [] [] (.one (.two .none (.two .none (.two (.one (.two .none (.two .none (.two (.two .none (.one (.lab 1 [1, 5, 6, 7, 8, 20, 21, 22, 27, 28, 29] [] [] .none))) .none)))) .none))))))) .none))) }
def exact_mulWords.orc {β : Type} (k : Nat) : Oracle β := orcOf [(223, bits_Mul64.C), (224, add64.C), (217, exact_trim.C k)]
def exact_mulWords.s0 (L : Labels ((List Int))) (x0 x1 : Int) (l2 l3 l4 : List Int) : Option ((List Int)) := L 0 (mkE 80 0 [(1, .own 1), (5, .own 2), (20, .own 0), (21, .data (.int .i64) x0), (22, .data (.int .i64) x1)]) (ofList [.arr .ro (.int .u64) l2, .arr .ro (.int .u64) l3, .arr .own (.int .u64) l4]) 3
def exact_mulWords.s1 (L : Labels ((List Int))) (x0 x1 x2 x3 x4 x5 x6 : Int) (l7 l8 l9 : List Int) : Option ((List Int)) := L 1 (mkE 80 0 [(1, .own 1), (5, .own 2), (6, .data (.int .i64) x0), (7, .data (.int .u64) x1), (8, .data (.int .u64) x2), (20, .own 0), (21, .data (.int .i64) x3), (22, .data (.int .i64) x4), (27, .own 1), (28, .data (.int .i64) x5), (29, .data (.int .i64) x6)]) (ofList [.arr .ro (.int .u64) l7, .arr .ro (.int .u64) l8, .arr .own (.int .u64) l9]) 3
def exact_mulWords.C {β : Type} (k : Nat) : Fun β := cN [.d (.slice (.int .u64)), .d (.slice (.int .u64))] (rsR [.o (.int .u64)]) (exact_mulWords k)
def exact_NatMul (k : Nat) (a0 a1 : ByteArray) : Option ByteArray :=
  (exact_words k a0).bind fun t1 => (exact_words k a1).bind fun t2 => (exact_mulWords k t1 t2).bind fun t3 => (exact_pack k t3).bind fun t4 => some t4
def exact_NatMul.note : Note := { cert := .none }
def exact_NatMul.orc {β : Type} (k : Nat) : Oracle β := orcOf [(197, exact_words.C k), (202, exact_mulWords.C k), (199, exact_pack.C k)]
def exact_NatMul.C {β : Type} (k : Nat) : Fun β := cN [.d .str, .d .str] (rsR [.d .str]) (exact_NatMul k)
def exact_IntMake (a0 : Bool) (a1 : ByteArray) : Option D0 :=
  bif a0 then (some (!(a1.toList == (⟨#[]⟩ : ByteArray).toList), a1)) else (some (false, a1))
def exact_IntMake.note : Note := { cert := .none }
def exact_IntMake.C {β : Type} : Fun β := cN [.d .bool, .d .str] (rsR [.d Y0]) (exact_IntMake)
def exact_IntMul (k : Nat) (a0 a1 : D0) : Option D0 :=
  (exact_NatMul k a0.2 a1.2).bind fun t1 => (exact_IntMake (!(a0.1 == a1.1)) t1).bind fun t2 => some t2
def exact_IntMul.note : Note := { cert := .none }
def exact_IntMul.orc {β : Type} (k : Nat) : Oracle β := orcOf [(161, exact_NatMul.C k), (160, exact_IntMake.C)]
def exact_IntMul.C {β : Type} (k : Nat) : Fun β := cN [.d Y0, .d Y0] (rsR [.d Y0]) (exact_IntMul k)
def exact_Whole (a0 : D0) : Option D1 :=
  some (a0, (⟨#[1]⟩ : ByteArray))
def exact_Whole.note : Note := { cert := .none }
def exact_Whole.C {β : Type} : Fun β := cN [.d Y0] (rsR [.d Y1]) (exact_Whole)
def exact_NatDivMod (k : Nat) (a0 a1 : ByteArray) : Option (ByteArray × ByteArray) :=
  (exact_words k a0).bind fun t1 => (exact_words k a1).bind fun t2 => (exact_divide k t1 t2).bind fun pt3 => (exact_pack k pt3.1).bind fun t5 => (exact_pack k pt3.2).bind fun t6 => some (t5, t6)
def exact_NatDivMod.note : Note := { cert := .none }
def exact_NatDivMod.orc {β : Type} (k : Nat) : Oracle β := orcOf [(197, exact_words.C k), (198, exact_divide.C k), (199, exact_pack.C k)]
def exact_NatDivMod.C {β : Type} (k : Nat) : Fun β := cN [.d .str, .d .str] (rsR [.d .str, .d .str]) (exact_NatDivMod k)
def exact_Make (k : Nat) (a0 a1 : D0) : Option D1 :=
  (exact_NatGcd k a0.2 a1.2).bind fun t1 => bif !(t1.toList == (⟨#[1]⟩ : ByteArray).toList) then ((exact_NatDivMod k a0.2 t1).bind fun pt2 => (exact_NatDivMod k a1.2 t1).bind fun pt4 => (exact_IntMake (!(a0.1 == a1.1)) pt2.1).bind fun t6 => some (t6, pt4.1)) else ((exact_IntMake (!(a0.1 == a1.1)) a0.2).bind fun t7 => some (t7, a1.2))
def exact_Make.note : Note := { cert := .none }
def exact_Make.orc {β : Type} (k : Nat) : Oracle β := orcOf [(156, exact_NatGcd.C k), (226, exact_NatDivMod.C k), (160, exact_IntMake.C)]
def exact_Make.C {β : Type} (k : Nat) : Fun β := cN [.d Y0, .d Y0] (rsR [.d Y1]) (exact_Make k)
def exact_Mul.top (k : Nat) (j0 : Bool → D1 → D1 → D1 → Option D1) (a0 a1 : D1) : Option D1 :=
  bif a0.2.toList == (⟨#[1]⟩ : ByteArray).toList then (j0 (a1.2.toList == (⟨#[1]⟩ : ByteArray).toList) a0 a1 ((false, (⟨#[]⟩ : ByteArray)), (⟨#[]⟩ : ByteArray))) else (j0 false a0 a1 ((false, (⟨#[]⟩ : ByteArray)), (⟨#[]⟩ : ByteArray)))
def exact_Mul.b0 (k : Nat) (x0 : Bool) (x1 x2 x3 : D1) : Option D1 :=
  bif x0 then ((exact_IntMul k x1.1 x2.1).bind fun t1 => (exact_Whole t1).bind fun t2 => some t2) else ((exact_IntMul k x1.1 x2.1).bind fun t3 => (exact_NatMul k x1.2 x2.2).bind fun t4 => (exact_Make k t3 (false, t4)).bind fun t5 => some t5)
def exact_Mul.l0 (k : Nat) : Nat → Bool → D1 → D1 → D1 → Option D1
  | 0, _, _, _, _ => none
  | n + 1, x0, x1, x2, x3 => exact_Mul.b0 k x0 x1 x2 x3
def exact_Mul (k : Nat) (a0 a1 : D1) : Option D1 :=
  exact_Mul.top k (exact_Mul.l0 k k) a0 a1
def exact_Mul.note : Note := { cert := (.two .none (.two (.two (.lab 0 [2, 3, 4, 12] [] [] .none) .none) .none)) }
def exact_Mul.orc {β : Type} (k : Nat) : Oracle β := orcOf [(214, exact_IntMul.C k), (212, exact_Whole.C), (161, exact_NatMul.C k), (205, exact_Make.C k)]
def exact_Mul.s0 (L : Labels D1) (x0 : Bool) (x1 x2 x3 : D1) : Option D1 := L 0 (mkE 31 0 [(2, .ptr 2 Y1 []), (3, .ptr 3 Y1 []), (4, .ptr 4 Y1 []), (12, .data .bool x0)]) (ofList [.dead, .dead, .var true Y1 (.data Y1 x1), .var true Y1 (.data Y1 x2), .var true Y1 (.data Y1 x3)]) 5
def exact_Mul.C {β : Type} (k : Nat) : Fun β := cN [.d Y1, .d Y1] (rsR [.d Y1]) (exact_Mul k)
def exact_NatAdd.top (k : Nat) (j0 : (List Int) → (List Int) → Option ByteArray) (a0 a1 : ByteArray) : Option ByteArray :=
  (exact_words k a0).bind fun t1 => (exact_words k a1).bind fun t2 => bif decide ((t1.length : Int) < (t2.length : Int)) then (j0 t2 t1) else (j0 t1 t2)
def exact_NatAdd.b0 (k : Nat) (j1 : Int → Int → Int → (List Int) → (List Int) → (List Int) → Option ByteArray) (l0 l1 : List Int) : Option ByteArray :=
  if 0 ≤ (IntKind.wrap .i64 ((l0.length : Int) + 1)) then (if (Int.toNat (IntKind.wrap .i64 ((l0.length : Int) + 1))) ≤ 281474976710656 / 8 then (j1 0 (l0.length : Int) 0 l0 l1 (List.replicate (Int.toNat (IntKind.wrap .i64 ((l0.length : Int) + 1))) 0 : List Int)) else none) else none
def exact_NatAdd.b1 (k : Nat) (j1 : Int → Int → Int → (List Int) → (List Int) → (List Int) → Option ByteArray) (x0 x1 x2 : Int) (l3 l4 l5 : List Int) : Option ByteArray :=
  bif decide (x2 < x1) then (bif decide (x2 < (l4.length : Int)) then (if 0 ≤ x2 ∧ x2 < (l4.length : Int) then (if 0 ≤ x2 ∧ x2 < (l3.length : Int) then ((add64 (List.getD l3 (Int.toNat x2) 0) (List.getD l4 (Int.toNat x2) 0) x0).bind fun pt3 => if 0 ≤ x2 ∧ x2 < (l5.length : Int) then (j1 pt3.2 x1 (IntKind.wrap .i64 (x2 + 1)) l3 l4 (List.set l5 (Int.toNat x2) pt3.1)) else none) else none) else none) else (if 0 ≤ x2 ∧ x2 < (l3.length : Int) then ((add64 (List.getD l3 (Int.toNat x2) 0) 0 x0).bind fun pt5 => if 0 ≤ x2 ∧ x2 < (l5.length : Int) then (j1 pt5.2 x1 (IntKind.wrap .i64 (x2 + 1)) l3 l4 (List.set l5 (Int.toNat x2) pt5.1)) else none) else none)) else (if 0 ≤ (l3.length : Int) ∧ (l3.length : Int) < (l5.length : Int) then ((exact_pack k (List.set l5 (Int.toNat (l3.length : Int)) x0)).bind fun t7 => some t7) else none)
mutual
def exact_NatAdd.l0 (k : Nat) : Nat → (List Int) → (List Int) → Option ByteArray
  | 0, _, _ => none
  | n + 1, l0, l1 => exact_NatAdd.b0 k (exact_NatAdd.l1 k n) l0 l1
def exact_NatAdd.l1 (k : Nat) : Nat → Int → Int → Int → (List Int) → (List Int) → (List Int) → Option ByteArray
  | 0, _, _, _, _, _, _ => none
  | n + 1, x0, x1, x2, l3, l4, l5 => exact_NatAdd.b1 k (exact_NatAdd.l1 k n) x0 x1 x2 l3 l4 l5
end
def exact_NatAdd (k : Nat) (a0 a1 : ByteArray) : Option ByteArray :=
  exact_NatAdd.top k (exact_NatAdd.l0 k k) a0 a1
def exact_NatAdd.note : Note := { cert := (.two .none (.two .none (.two (.two .none (.lab 0 [5, 6] [] [] .none)) (.two .none (.two .none (.two (.two .none (.one (.lab 1 [5, 6, 7, 8, 27, 28] [] [] .none))) .none)))))) }
def exact_NatAdd.orc {β : Type} (k : Nat) : Oracle β := orcOf [(197, exact_words.C k), (224, add64.C), (199, exact_pack.C k)]
def exact_NatAdd.s0 (L : Labels ByteArray) (l0 l1 : List Int) : Option ByteArray := L 0 (mkE 60 0 [(5, .own 2), (6, .own 3)]) (ofList [.dead, .dead, .arr .own (.int .u64) l0, .arr .own (.int .u64) l1]) 4
def exact_NatAdd.s1 (L : Labels ByteArray) (x0 x1 x2 : Int) (l3 l4 l5 : List Int) : Option ByteArray := L 1 (mkE 60 0 [(5, .own 2), (6, .own 3), (7, .own 4), (8, .data (.int .u64) x0), (27, .data (.int .i64) x1), (28, .data (.int .i64) x2)]) (ofList [.dead, .dead, .arr .own (.int .u64) l3, .arr .own (.int .u64) l4, .arr .own (.int .u64) l5]) 5
def exact_NatAdd.C {β : Type} (k : Nat) : Fun β := cN [.d .str, .d .str] (rsR [.d .str]) (exact_NatAdd k)
def exact_NatSub.top (k : Nat) (j0 : Int → Int → Int → (List Int) → (List Int) → Option ByteArray) (a0 a1 : ByteArray) : Option ByteArray :=
  (exact_words k a0).bind fun t1 => (exact_words k a1).bind fun t2 => j0 0 (t1.length : Int) 0 t1 t2
def exact_NatSub.b0 (k : Nat) (j0 : Int → Int → Int → (List Int) → (List Int) → Option ByteArray) (x0 x1 x2 : Int) (l3 l4 : List Int) : Option ByteArray :=
  bif decide (x2 < x1) then (bif decide (x2 < (l4.length : Int)) then (if 0 ≤ x2 ∧ x2 < (l4.length : Int) then (if 0 ≤ x2 ∧ x2 < (l3.length : Int) then ((sub64 (List.getD l3 (Int.toNat x2) 0) (List.getD l4 (Int.toNat x2) 0) x0).bind fun pt3 => if 0 ≤ x2 ∧ x2 < (l3.length : Int) then (j0 pt3.2 x1 (IntKind.wrap .i64 (x2 + 1)) (List.set l3 (Int.toNat x2) pt3.1) l4) else none) else none) else none) else (if 0 ≤ x2 ∧ x2 < (l3.length : Int) then ((sub64 (List.getD l3 (Int.toNat x2) 0) 0 x0).bind fun pt5 => if 0 ≤ x2 ∧ x2 < (l3.length : Int) then (j0 pt5.2 x1 (IntKind.wrap .i64 (x2 + 1)) (List.set l3 (Int.toNat x2) pt5.1) l4) else none) else none)) else ((exact_pack k l3).bind fun t7 => some t7)
def exact_NatSub.l0 (k : Nat) : Nat → Int → Int → Int → (List Int) → (List Int) → Option ByteArray
  | 0, _, _, _, _, _ => none
  | n + 1, x0, x1, x2, l3, l4 => exact_NatSub.b0 k (exact_NatSub.l0 k n) x0 x1 x2 l3 l4
def exact_NatSub (k : Nat) (a0 a1 : ByteArray) : Option ByteArray :=
  exact_NatSub.top k (exact_NatSub.l0 k k) a0 a1
def exact_NatSub.note : Note := { cert := (.two .none (.two .none (.two .none (.two (.two .none (.one (.lab 0 [5, 6, 7, 15, 16] [] [] .none))) .none)))) }
def exact_NatSub.orc {β : Type} (k : Nat) : Oracle β := orcOf [(197, exact_words.C k), (232, sub64.C), (199, exact_pack.C k)]
def exact_NatSub.s0 (L : Labels ByteArray) (x0 x1 x2 : Int) (l3 l4 : List Int) : Option ByteArray := L 0 (mkE 43 0 [(5, .own 2), (6, .own 3), (7, .data (.int .u64) x0), (15, .data (.int .i64) x1), (16, .data (.int .i64) x2)]) (ofList [.dead, .dead, .arr .own (.int .u64) l3, .arr .own (.int .u64) l4]) 4
def exact_NatSub.C {β : Type} (k : Nat) : Fun β := cN [.d .str, .d .str] (rsR [.d .str]) (exact_NatSub k)
def exact_IntDivMod.top (k : Nat) (j0 : ByteArray → ByteArray → Bool → D0 → D0 → D0 → D0 → Option (D0 × D0)) (a0 a1 : D0) : Option (D0 × D0) :=
  (exact_NatDivMod k a0.2 a1.2).bind fun pt1 => bif a0.1 then (j0 pt1.1 pt1.2 (!(pt1.2.toList == (⟨#[]⟩ : ByteArray).toList)) a0 a1 (false, (⟨#[]⟩ : ByteArray)) (false, (⟨#[]⟩ : ByteArray))) else (j0 pt1.1 pt1.2 false a0 a1 (false, (⟨#[]⟩ : ByteArray)) (false, (⟨#[]⟩ : ByteArray)))
def exact_IntDivMod.b0 (k : Nat) (x0 x1 : ByteArray) (x2 : Bool) (x3 x4 x5 x6 : D0) : Option (D0 × D0) :=
  bif x2 then ((exact_NatOf k 1).bind fun t3 => (exact_NatAdd k x0 t3).bind fun t4 => (exact_NatSub k x4.2 x1).bind fun t5 => (exact_IntMake (!(x3.1 == x4.1)) t4).bind fun t6 => some (t6, (false, t5))) else ((exact_IntMake (!(x3.1 == x4.1)) x0).bind fun t7 => some (t7, (false, x1)))
def exact_IntDivMod.l0 (k : Nat) : Nat → ByteArray → ByteArray → Bool → D0 → D0 → D0 → D0 → Option (D0 × D0)
  | 0, _, _, _, _, _, _, _ => none
  | n + 1, x0, x1, x2, x3, x4, x5, x6 => exact_IntDivMod.b0 k x0 x1 x2 x3 x4 x5 x6
def exact_IntDivMod (k : Nat) (a0 a1 : D0) : Option (D0 × D0) :=
  exact_IntDivMod.top k (exact_IntDivMod.l0 k k) a0 a1
def exact_IntDivMod.note : Note := { cert := (.two .none (.two .none (.two (.two (.lab 0 [2, 3, 4, 5, 6, 7, 21] [] [] .none) .none) .none))) }
def exact_IntDivMod.orc {β : Type} (k : Nat) : Oracle β := orcOf [(226, exact_NatDivMod.C k), (230, exact_NatOf.C k), (228, exact_NatAdd.C k), (229, exact_NatSub.C k), (160, exact_IntMake.C)]
def exact_IntDivMod.s0 (L : Labels (D0 × D0)) (x0 x1 : ByteArray) (x2 : Bool) (x3 x4 x5 x6 : D0) : Option (D0 × D0) := L 0 (mkE 38 0 [(2, .ptr 2 Y0 []), (3, .ptr 3 Y0 []), (4, .ptr 4 Y0 []), (5, .ptr 5 Y0 []), (6, .data .str x0), (7, .data .str x1), (21, .data .bool x2)]) (ofList [.dead, .dead, .var true Y0 (.data Y0 x3), .var true Y0 (.data Y0 x4), .var true Y0 (.data Y0 x5), .var true Y0 (.data Y0 x6)]) 6
def exact_IntDivMod.C {β : Type} (k : Nat) : Fun β := cN [.d Y0, .d Y0] (rsR [.d Y0, .d Y0]) (exact_IntDivMod k)
def exact_Floor (k : Nat) (a0 : D1) : Option D0 :=
  (exact_IntDivMod k a0.1 (false, a0.2)).bind fun pt1 => some pt1.1
def exact_Floor.note : Note := { cert := .none }
def exact_Floor.orc {β : Type} (k : Nat) : Oracle β := orcOf [(225, exact_IntDivMod.C k)]
def exact_Floor.C {β : Type} (k : Nat) : Fun β := cN [.d Y1] (rsR [.d Y0]) (exact_Floor k)
def ival_down (k : Nat) (a0 : D1) (a1 : Int) : Option D1 :=
  (exact_Two k a1).bind fun t1 => (exact_Mul k a0 t1).bind fun t2 => (exact_Floor k t2).bind fun t3 => (exact_NatTwo a1).bind fun t4 => (exact_Make k t3 (false, t4)).bind fun t5 => some t5
def ival_down.note : Note := { cert := .none }
def ival_down.orc {β : Type} (k : Nat) : Oracle β := orcOf [(204, exact_Two.C k), (176, exact_Mul.C k), (203, exact_Floor.C k), (157, exact_NatTwo.C), (205, exact_Make.C k)]
def ival_down.C {β : Type} (k : Nat) : Fun β := cN [.d Y1, .d (.int .i64)] (rsR [.d Y1]) (ival_down k)
def exact_IntNeg (a0 : D0) : Option D0 :=
  (exact_IntMake (!a0.1) a0.2).bind fun t1 => some t1
def exact_IntNeg.note : Note := { cert := .none }
def exact_IntNeg.orc {β : Type} : Oracle β := orcOf [(160, exact_IntMake.C)]
def exact_IntNeg.C {β : Type} : Fun β := cN [.d Y0] (rsR [.d Y0]) (exact_IntNeg)
def exact_Neg (a0 : D1) : Option D1 :=
  (exact_IntNeg a0.1).bind fun t1 => some (t1, a0.2)
def exact_Neg.note : Note := { cert := .none }
def exact_Neg.orc {β : Type} : Oracle β := orcOf [(206, exact_IntNeg.C)]
def exact_Neg.C {β : Type} : Fun β := cN [.d Y1] (rsR [.d Y1]) (exact_Neg)
def ival_Around (k : Nat) (a0 : D1) (a1 : Int) : Option D2 :=
  (ival_down k a0 a1).bind fun t1 => (exact_Neg a0).bind fun t2 => (ival_down k t2 a1).bind fun t3 => (exact_Neg t3).bind fun t4 => some (t1, t4)
def ival_Around.note : Note := { cert := .none }
def ival_Around.orc {β : Type} (k : Nat) : Oracle β := orcOf [(167, ival_down.C k), (168, exact_Neg.C)]
def ival_Around.C {β : Type} (k : Nat) : Fun β := cN [.d Y1, .d (.int .i64)] (rsR [.d Y2]) (ival_Around k)
def exact_Large (a0 : D1) : Option Bool :=
  bif decide (1024 < (a0.1.2.size : Int)) then (some true) else (some (decide (1024 < (a0.2.size : Int))))
def exact_Large.note : Note := { cert := .none }
def exact_Large.C {β : Type} : Fun β := cN [.d Y1] (rsR [.d .bool]) (exact_Large)
def ival_Large (a0 : D2) : Option Bool :=
  (exact_Large a0.1).bind fun t1 => bif t1 then (some true) else ((exact_Large a0.2).bind fun t2 => some t2)
def ival_Large.note : Note := { cert := .none }
def ival_Large.orc {β : Type} : Oracle β := orcOf [(188, exact_Large.C)]
def ival_Large.C {β : Type} : Fun β := cN [.d Y2] (rsR [.d .bool]) (ival_Large)
def enclosure_interval (a0 : D2) : Option (D2 × Int) :=
  (ival_Large a0).bind fun t1 => bif t1 then (some ((((false, (⟨#[]⟩ : ByteArray)), (⟨#[]⟩ : ByteArray)), ((false, (⟨#[]⟩ : ByteArray)), (⟨#[]⟩ : ByteArray))), 4)) else (some (a0, 0))
def enclosure_interval.note : Note := { cert := .none }
def enclosure_interval.orc {β : Type} : Oracle β := orcOf [(164, ival_Large.C)]
def enclosure_interval.C {β : Type} : Fun β := cN [.d Y2] (rsR [.d Y2, .d (.int .i64)]) (enclosure_interval)
def enclosure_Around (k : Nat) (a0 : D1) (a1 : Int) : Option (D2 × Int) :=
  (rational_Check k a0).bind fun t1 => (enclosure_grid a1).bind fun t2 => (enclosure_first k ([t1, t2] : List Int)).bind fun t3 => bif !decide (t3 = 0) then (some ((((false, (⟨#[]⟩ : ByteArray)), (⟨#[]⟩ : ByteArray)), ((false, (⟨#[]⟩ : ByteArray)), (⟨#[]⟩ : ByteArray))), t3)) else ((ival_Around k a0 a1).bind fun t4 => (enclosure_interval t4).bind fun pt5 => some (pt5.1, pt5.2))
def enclosure_Around.note : Note := { cert := .none }
def enclosure_Around.orc {β : Type} (k : Nat) : Oracle β := orcOf [(97, rational_Check.C k), (107, enclosure_grid.C), (96, enclosure_first.C k), (112, ival_Around.C k), (108, enclosure_interval.C)]
def enclosure_Around.C {β : Type} (k : Nat) : Fun β := cN [.d Y1, .d (.int .i64)] (rsR [.d Y2, .d (.int .i64)]) (enclosure_Around k)
def galoisref19_Make (a0 a1 : D1) : Option D2 :=
  some (a0, a1)
def galoisref19_Make.note : Note := { cert := .none }
def galoisref19_Make.C {β : Type} : Fun β := cN [.d Y1, .d Y1] (rsR [.d Y2]) (galoisref19_Make)
def galoislaw19_make2 (k : Nat) (a0 a1 a2 a3 : Int) : Option D2 :=
  (galoisref03_Of k a0 a1).bind fun t1 => (galoisref03_Of k a2 a3).bind fun t2 => (galoisref19_Make t1 t2).bind fun t3 => some t3
def galoislaw19_make2.note : Note := { cert := .none }
def galoislaw19_make2.orc {β : Type} (k : Nat) : Oracle β := orcOf [(101, galoisref03_Of.C k), (118, galoisref19_Make.C)]
def galoislaw19_make2.C {β : Type} (k : Nat) : Fun β := cN [.d (.int .i64), .d (.int .i64), .d (.int .i64), .d (.int .i64)] (rsR [.d Y2]) (galoislaw19_make2 k)
def bits_Len8 (a0 : Int) : Option Int :=
  if 0 ≤ a0 ∧ a0 < ((⟨#[0, 1, 2, 2, 3, 3, 3, 3, 4, 4, 4, 4, 4, 4, 4, 4, 5, 5, 5, 5, 5, 5, 5, 5, 5, 5, 5, 5, 5, 5, 5, 5, 6, 6, 6, 6, 6, 6, 6, 6, 6, 6, 6, 6, 6, 6, 6, 6, 6, 6, 6, 6, 6, 6, 6, 6, 6, 6, 6, 6, 6, 6, 6, 6, 7, 7, 7, 7, 7, 7, 7, 7, 7, 7, 7, 7, 7, 7, 7, 7, 7, 7, 7, 7, 7, 7, 7, 7, 7, 7, 7, 7, 7, 7, 7, 7, 7, 7, 7, 7, 7, 7, 7, 7, 7, 7, 7, 7, 7, 7, 7, 7, 7, 7, 7, 7, 7, 7, 7, 7, 7, 7, 7, 7, 7, 7, 7, 7, 8, 8, 8, 8, 8, 8, 8, 8, 8, 8, 8, 8, 8, 8, 8, 8, 8, 8, 8, 8, 8, 8, 8, 8, 8, 8, 8, 8, 8, 8, 8, 8, 8, 8, 8, 8, 8, 8, 8, 8, 8, 8, 8, 8, 8, 8, 8, 8, 8, 8, 8, 8, 8, 8, 8, 8, 8, 8, 8, 8, 8, 8, 8, 8, 8, 8, 8, 8, 8, 8, 8, 8, 8, 8, 8, 8, 8, 8, 8, 8, 8, 8, 8, 8, 8, 8, 8, 8, 8, 8, 8, 8, 8, 8, 8, 8, 8, 8, 8, 8, 8, 8, 8, 8, 8, 8, 8, 8, 8, 8, 8, 8, 8, 8, 8, 8, 8, 8, 8, 8, 8, 8, 8, 8, 8, 8, 8, 8]⟩ : ByteArray).size : Int) then (some (IntKind.wrap .i64 ((((List.getD (⟨#[0, 1, 2, 2, 3, 3, 3, 3, 4, 4, 4, 4, 4, 4, 4, 4, 5, 5, 5, 5, 5, 5, 5, 5, 5, 5, 5, 5, 5, 5, 5, 5, 6, 6, 6, 6, 6, 6, 6, 6, 6, 6, 6, 6, 6, 6, 6, 6, 6, 6, 6, 6, 6, 6, 6, 6, 6, 6, 6, 6, 6, 6, 6, 6, 7, 7, 7, 7, 7, 7, 7, 7, 7, 7, 7, 7, 7, 7, 7, 7, 7, 7, 7, 7, 7, 7, 7, 7, 7, 7, 7, 7, 7, 7, 7, 7, 7, 7, 7, 7, 7, 7, 7, 7, 7, 7, 7, 7, 7, 7, 7, 7, 7, 7, 7, 7, 7, 7, 7, 7, 7, 7, 7, 7, 7, 7, 7, 7, 8, 8, 8, 8, 8, 8, 8, 8, 8, 8, 8, 8, 8, 8, 8, 8, 8, 8, 8, 8, 8, 8, 8, 8, 8, 8, 8, 8, 8, 8, 8, 8, 8, 8, 8, 8, 8, 8, 8, 8, 8, 8, 8, 8, 8, 8, 8, 8, 8, 8, 8, 8, 8, 8, 8, 8, 8, 8, 8, 8, 8, 8, 8, 8, 8, 8, 8, 8, 8, 8, 8, 8, 8, 8, 8, 8, 8, 8, 8, 8, 8, 8, 8, 8, 8, 8, 8, 8, 8, 8, 8, 8, 8, 8, 8, 8, 8, 8, 8, 8, 8, 8, 8, 8, 8, 8, 8, 8, 8, 8, 8, 8, 8, 8, 8, 8, 8, 8, 8, 8, 8, 8, 8, 8, 8, 8, 8, 8]⟩ : ByteArray).data.toList (Int.toNat a0) 0).toNat : Nat) : Int)))) else none
def bits_Len8.note : Note := { cert := .none }
def bits_Len8.C {β : Type} : Fun β := cN [.d (.int .u8)] (rsR [.d (.int .i64)]) (bits_Len8)
def exact_NatBits (a0 : ByteArray) : Option Int :=
  bif a0.toList == (⟨#[]⟩ : ByteArray).toList then (some 0) else (if 0 ≤ (0 : Int) ∧ (0 : Int) < (a0.size : Int) then ((bits_Len8 (((List.getD a0.data.toList 0 0).toNat : Nat) : Int)).bind fun t1 => some (IntKind.wrap .i64 ((IntKind.wrap .i64 (8 * (IntKind.wrap .i64 ((a0.size : Int) - 1)))) + t1))) else none)
def exact_NatBits.note : Note := { cert := .none }
def exact_NatBits.orc {β : Type} : Oracle β := orcOf [(200, bits_Len8.C)]
def exact_NatBits.C {β : Type} : Fun β := cN [.d .str] (rsR [.d (.int .i64)]) (exact_NatBits)
def enclosure_dyadic (a0 : D1) : Option Bool :=
  (exact_NatBits a0.2).bind fun t1 => (exact_NatTwo (IntKind.wrap .i64 (t1 - 1))).bind fun t2 => some (t2.toList == a0.2.toList)
def enclosure_dyadic.note : Note := { cert := .none }
def enclosure_dyadic.orc {β : Type} : Oracle β := orcOf [(158, exact_NatBits.C), (157, exact_NatTwo.C)]
def enclosure_dyadic.C {β : Type} : Fun β := cN [.d Y1] (rsR [.d .bool]) (enclosure_dyadic)
def exact_NatCmp.top (j0 : ByteArray → ByteArray → Bool → Option Int) (a0 a1 : ByteArray) : Option Int :=
  bif decide ((a0.size : Int) < (a1.size : Int)) then (j0 a0 a1 true) else (bif decide ((a0.size : Int) = (a1.size : Int)) then (j0 a0 a1 (Op.bytesLess a0.toList a1.toList)) else (j0 a0 a1 false))
def exact_NatCmp.b0 (x0 x1 : ByteArray) (x2 : Bool) : Option Int :=
  bif x2 then (some (-1)) else (bif x0.toList == x1.toList then (some 0) else (some 1))
def exact_NatCmp.l0 : Nat → ByteArray → ByteArray → Bool → Option Int
  | 0, _, _, _ => none
  | n + 1, x0, x1, x2 => exact_NatCmp.b0 x0 x1 x2
def exact_NatCmp (k : Nat) (a0 a1 : ByteArray) : Option Int :=
  exact_NatCmp.top (exact_NatCmp.l0 k) a0 a1
def exact_NatCmp.note : Note := { cert := (.two .none (.two (.one (.two (.lab 0 [0, 1, 5] [] [] .none) .none)) .none)) }
def exact_NatCmp.s0 (L : Labels Int) (x0 x1 : ByteArray) (x2 : Bool) : Option Int := L 0 (mkE 27 0 [(0, .data .str x0), (1, .data .str x1), (5, .data .bool x2)]) (ofList [.dead, .dead]) 2
def exact_NatCmp.C {β : Type} (k : Nat) : Fun β := cN [.d .str, .d .str] (rsR [.d (.int .i64)]) (exact_NatCmp k)
def exact_IntCmp (k : Nat) (a0 a1 : D0) : Option Int :=
  bif !(a0.1 == a1.1) then (bif a0.1 then (some (-1)) else (some 1)) else (bif a0.1 then ((exact_NatCmp k a1.2 a0.2).bind fun t1 => some t1) else ((exact_NatCmp k a0.2 a1.2).bind fun t2 => some t2))
def exact_IntCmp.note : Note := { cert := .none }
def exact_IntCmp.orc {β : Type} (k : Nat) : Oracle β := orcOf [(201, exact_NatCmp.C k)]
def exact_IntCmp.C {β : Type} (k : Nat) : Fun β := cN [.d Y0, .d Y0] (rsR [.d (.int .i64)]) (exact_IntCmp k)
def exact_Cmp (k : Nat) (a0 a1 : D1) : Option Int :=
  bif a0.2.toList == a1.2.toList then ((exact_IntCmp k a0.1 a1.1).bind fun t1 => some t1) else ((exact_NatMul k a0.1.2 a1.2).bind fun t2 => (exact_IntMake a0.1.1 t2).bind fun t3 => (exact_NatMul k a1.1.2 a0.2).bind fun t4 => (exact_IntMake a1.1.1 t4).bind fun t5 => (exact_IntCmp k t3 t5).bind fun t6 => some t6)
def exact_Cmp.note : Note := { cert := .none }
def exact_Cmp.orc {β : Type} (k : Nat) : Oracle β := orcOf [(159, exact_IntCmp.C k), (161, exact_NatMul.C k), (160, exact_IntMake.C)]
def exact_Cmp.C {β : Type} (k : Nat) : Fun β := cN [.d Y1, .d Y1] (rsR [.d (.int .i64)]) (exact_Cmp k)
def enclosure_Check.top (k : Nat) (j0 : Bool → D2 → Option Int) (a0 : D2) : Option Int :=
  (rational_Check k a0.1).bind fun t1 => (rational_Check k a0.2).bind fun t2 => (enclosure_first k ([t1, t2] : List Int)).bind fun t3 => bif !decide (t3 = 0) then (some t3) else ((enclosure_dyadic a0.1).bind fun t4 => bif !t4 then (j0 true a0) else ((enclosure_dyadic a0.2).bind fun t6 => j0 (!t6) a0))
def enclosure_Check.b0 (k : Nat) (x0 : Bool) (x1 : D2) : Option Int :=
  bif x0 then (some 1) else ((exact_Cmp k x1.1 x1.2).bind fun t5 => bif decide (0 < t5) then (some 3) else (some 0))
def enclosure_Check.l0 (k : Nat) : Nat → Bool → D2 → Option Int
  | 0, _, _ => none
  | n + 1, x0, x1 => enclosure_Check.b0 k x0 x1
def enclosure_Check (k : Nat) (a0 : D2) : Option Int :=
  enclosure_Check.top k (enclosure_Check.l0 k k) a0
def enclosure_Check.note : Note := { cert := (.two .none (.two .none (.two .none (.two (.two (.lab 0 [1, 24] [] [] .none) .none) .none)))) }
def enclosure_Check.orc {β : Type} (k : Nat) : Oracle β := orcOf [(97, rational_Check.C k), (96, enclosure_first.C k), (98, enclosure_dyadic.C), (99, exact_Cmp.C k)]
def enclosure_Check.s0 (L : Labels Int) (x0 : Bool) (x1 : D2) : Option Int := L 0 (mkE 31 0 [(1, .ptr 1 Y2 []), (24, .data .bool x0)]) (ofList [.dead, .var true Y2 (.data Y2 x1)]) 2
def enclosure_Check.C {β : Type} (k : Nat) : Fun β := cN [.d Y2] (rsR [.d (.int .i64)]) (enclosure_Check k)
def ival_Point (a0 : D1) : Option D2 :=
  some (a0, a0)
def ival_Point.note : Note := { cert := .none }
def ival_Point.C {β : Type} : Fun β := cN [.d Y1] (rsR [.d Y2]) (ival_Point)
def ival_less (k : Nat) (a0 a1 : D1) : Option Bool :=
  (exact_Cmp k a0 a1).bind fun t1 => some (decide (t1 < 0))
def ival_less.note : Note := { cert := .none }
def ival_less.orc {β : Type} (k : Nat) : Oracle β := orcOf [(99, exact_Cmp.C k)]
def ival_less.C {β : Type} (k : Nat) : Fun β := cN [.d Y1, .d Y1] (rsR [.d .bool]) (ival_less k)
def ival_Hull.top (k : Nat) (j0 : D2 → D2 → D2 → Option D2) (a0 a1 : D2) : Option D2 :=
  (ival_less k a1.1 a0.1).bind fun t1 => bif t1 then (j0 (a1.1, a0.2) a1 (((false, (⟨#[]⟩ : ByteArray)), (⟨#[]⟩ : ByteArray)), ((false, (⟨#[]⟩ : ByteArray)), (⟨#[]⟩ : ByteArray)))) else (j0 a0 a1 (((false, (⟨#[]⟩ : ByteArray)), (⟨#[]⟩ : ByteArray)), ((false, (⟨#[]⟩ : ByteArray)), (⟨#[]⟩ : ByteArray))))
def ival_Hull.b0 (k : Nat) (x0 x1 x2 : D2) : Option D2 :=
  (ival_less k x0.2 x1.2).bind fun t2 => bif t2 then (some (x0.1, x1.2)) else (some x0)
def ival_Hull.l0 (k : Nat) : Nat → D2 → D2 → D2 → Option D2
  | 0, _, _, _ => none
  | n + 1, x0, x1, x2 => ival_Hull.b0 k x0 x1 x2
def ival_Hull (k : Nat) (a0 a1 : D2) : Option D2 :=
  ival_Hull.top k (ival_Hull.l0 k k) a0 a1
def ival_Hull.note : Note := { cert := (.two .none (.two (.two .none (.lab 0 [2, 3, 4] [] [] .none)) .none)) }
def ival_Hull.orc {β : Type} (k : Nat) : Oracle β := orcOf [(193, ival_less.C k)]
def ival_Hull.s0 (L : Labels D2) (x0 x1 x2 : D2) : Option D2 := L 0 (mkE 22 0 [(2, .ptr 2 Y2 []), (3, .ptr 3 Y2 []), (4, .ptr 4 Y2 [])]) (ofList [.dead, .dead, .var true Y2 (.data Y2 x0), .var true Y2 (.data Y2 x1), .var true Y2 (.data Y2 x2)]) 5
def ival_Hull.C {β : Type} (k : Nat) : Fun β := cN [.d Y2, .d Y2] (rsR [.d Y2]) (ival_Hull k)
end Go.Proofs.YthghchjbomlpfaaGreat.Ev

namespace Go.Proofs.YthghchjbomlpfaaGreat.Ev
set_option linter.unusedVariables false
set_option maxRecDepth 100000
def ival_Mul.top (k : Nat) (j0 : Int → D2 → (List D1) → D2 → Option D2) (a0 a1 : D2) : Option D2 :=
  (exact_Mul k a0.1 a1.1).bind fun t1 => (exact_Mul k a0.1 a1.2).bind fun t2 => (exact_Mul k a0.2 a1.1).bind fun t3 => (exact_Mul k a0.2 a1.2).bind fun t4 => (ival_Point (List.getD (List.set (List.set (List.set (List.set (List.replicate 4 ((false, (⟨#[]⟩ : ByteArray)), (⟨#[]⟩ : ByteArray)) : List D1) 0 t1) 1 t2) 2 t3) 3 t4) 0 ((false, (⟨#[]⟩ : ByteArray)), (⟨#[]⟩ : ByteArray)))).bind fun t5 => j0 0 (((false, (⟨#[]⟩ : ByteArray)), (⟨#[]⟩ : ByteArray)), ((false, (⟨#[]⟩ : ByteArray)), (⟨#[]⟩ : ByteArray))) (List.set (List.set (List.set (List.set (List.replicate 4 ((false, (⟨#[]⟩ : ByteArray)), (⟨#[]⟩ : ByteArray)) : List D1) 0 t1) 1 t2) 2 t3) 3 t4) t5
def ival_Mul.b0 (k : Nat) (j0 : Int → D2 → (List D1) → D2 → Option D2) (x0 : Int) (x1 : D2) (x2 : List D1) (x3 : D2) : Option D2 :=
  bif decide (x0 < 4) then (if 0 ≤ x0 ∧ x0 < (4 : Int) then ((ival_Point (List.getD x2 (Int.toNat x0) ((false, (⟨#[]⟩ : ByteArray)), (⟨#[]⟩ : ByteArray)))).bind fun t6 => (ival_Hull k x3 t6).bind fun t7 => j0 (IntKind.wrap .i64 (x0 + 1)) x1 x2 t7) else none) else (some x3)
def ival_Mul.l0 (k : Nat) : Nat → Int → D2 → (List D1) → D2 → Option D2
  | 0, _, _, _, _ => none
  | n + 1, x0, x1, x2, x3 => ival_Mul.b0 k (ival_Mul.l0 k n) x0 x1 x2 x3
def ival_Mul (k : Nat) (a0 a1 : D2) : Option D2 :=
  ival_Mul.top k (ival_Mul.l0 k k) a0 a1
def ival_Mul.note : Note := { cert := (.two .none (.two .none (.two .none (.two (.two .none (.one (.lab 0 [4, 5, 6, 32] [] [] .none))) .none)))) }
def ival_Mul.orc {β : Type} (k : Nat) : Oracle β := orcOf [(176, exact_Mul.C k), (177, ival_Point.C), (147, ival_Hull.C k)]
def ival_Mul.s0 (L : Labels D2) (x0 : Int) (x1 : D2) (x2 : List D1) (x3 : D2) : Option D2 := L 0 (mkE 43 0 [(4, .ptr 2 Y2 []), (5, .ptr 3 (.arr 4 Y1) []), (6, .ptr 4 Y2 []), (32, .data (.int .i64) x0)]) (ofList [.dead, .dead, .var true Y2 (.data Y2 x1), .var true (.arr 4 Y1) (.data (.arr 4 Y1) x2), .var true Y2 (.data Y2 x3)]) 5
def ival_Mul.C {β : Type} (k : Nat) : Fun β := cN [.d Y2, .d Y2] (rsR [.d Y2]) (ival_Mul k)
def enclosure_Mul (k : Nat) (a0 a1 : D2) : Option (D2 × Int) :=
  (enclosure_Check k a0).bind fun t1 => (enclosure_Check k a1).bind fun t2 => (enclosure_first k ([t1, t2] : List Int)).bind fun t3 => bif !decide (t3 = 0) then (some ((((false, (⟨#[]⟩ : ByteArray)), (⟨#[]⟩ : ByteArray)), ((false, (⟨#[]⟩ : ByteArray)), (⟨#[]⟩ : ByteArray))), t3)) else ((ival_Mul k a0 a1).bind fun t4 => (enclosure_interval t4).bind fun pt5 => some (pt5.1, pt5.2))
def enclosure_Mul.note : Note := { cert := .none }
def enclosure_Mul.orc {β : Type} (k : Nat) : Oracle β := orcOf [(13, enclosure_Check.C k), (96, enclosure_first.C k), (123, ival_Mul.C k), (108, enclosure_interval.C)]
def enclosure_Mul.C {β : Type} (k : Nat) : Fun β := cN [.d Y2, .d Y2] (rsR [.d Y2, .d (.int .i64)]) (enclosure_Mul k)
def exact_Int (k : Nat) (a0 : Int) : Option D1 :=
  (exact_IntOf k a0).bind fun t1 => (exact_Whole t1).bind fun t2 => some t2
def exact_Int.note : Note := { cert := .none }
def exact_Int.orc {β : Type} (k : Nat) : Oracle β := orcOf [(215, exact_IntOf.C k), (212, exact_Whole.C)]
def exact_Int.C {β : Type} (k : Nat) : Fun β := cN [.d (.int .i64)] (rsR [.d Y1]) (exact_Int k)
def ival_Contains (k : Nat) (a0 : D2) (a1 : D1) : Option Bool :=
  (ival_less k a1 a0.1).bind fun t1 => bif !t1 then ((ival_less k a0.2 a1).bind fun t2 => some (!t2)) else (some false)
def ival_Contains.note : Note := { cert := .none }
def ival_Contains.orc {β : Type} (k : Nat) : Oracle β := orcOf [(193, ival_less.C k)]
def ival_Contains.C {β : Type} (k : Nat) : Fun β := cN [.d Y2, .d Y1] (rsR [.d .bool]) (ival_Contains k)
def ival_Square (k : Nat) (a0 : D2) : Option D2 :=
  (exact_Mul k a0.1 a0.1).bind fun t1 => (ival_Point t1).bind fun t2 => (exact_Mul k a0.2 a0.2).bind fun t3 => (ival_Point t3).bind fun t4 => (ival_Hull k t2 t4).bind fun t5 => (exact_Int k 0).bind fun t6 => (ival_Contains k a0 t6).bind fun t7 => bif t7 then ((exact_Int k 0).bind fun t8 => some (t8, t5.2)) else (some t5)
def ival_Square.note : Note := { cert := .none }
def ival_Square.orc {β : Type} (k : Nat) : Oracle β := orcOf [(176, exact_Mul.C k), (177, ival_Point.C), (147, ival_Hull.C k), (178, exact_Int.C k), (151, ival_Contains.C k)]
def ival_Square.C {β : Type} (k : Nat) : Fun β := cN [.d Y2] (rsR [.d Y2]) (ival_Square k)
def enclosure_Square (k : Nat) (a0 : D2) : Option (D2 × Int) :=
  (enclosure_Check k a0).bind fun t1 => (enclosure_first k ([t1] : List Int)).bind fun t2 => bif !decide (t2 = 0) then (some ((((false, (⟨#[]⟩ : ByteArray)), (⟨#[]⟩ : ByteArray)), ((false, (⟨#[]⟩ : ByteArray)), (⟨#[]⟩ : ByteArray))), t2)) else ((ival_Square k a0).bind fun t3 => (enclosure_interval t3).bind fun pt4 => some (pt4.1, pt4.2))
def enclosure_Square.note : Note := { cert := .none }
def enclosure_Square.orc {β : Type} (k : Nat) : Oracle β := orcOf [(13, enclosure_Check.C k), (96, enclosure_first.C k), (124, ival_Square.C k), (108, enclosure_interval.C)]
def enclosure_Square.C {β : Type} (k : Nat) : Fun β := cN [.d Y2] (rsR [.d Y2, .d (.int .i64)]) (enclosure_Square k)
def galoisref03_FromInt (k : Nat) (a0 : Int) : Option D1 :=
  (galoisref02_FromInt k a0).bind fun t1 => some (t1, (⟨#[1]⟩ : ByteArray))
def galoisref03_FromInt.note : Note := { cert := .none }
def galoisref03_FromInt.orc {β : Type} (k : Nat) : Oracle β := orcOf [(140, galoisref02_FromInt.C k)]
def galoisref03_FromInt.C {β : Type} (k : Nat) : Fun β := cN [.d (.int .i64)] (rsR [.d Y1]) (galoisref03_FromInt k)
def galoisref02_Sign (a0 : D0) : Option Int :=
  bif a0.1 then (some (-1)) else (bif a0.2.toList == (⟨#[]⟩ : ByteArray).toList then (some 0) else (some 1))
def galoisref02_Sign.note : Note := { cert := .none }
def galoisref02_Sign.C {β : Type} : Fun β := cN [.d Y0] (rsR [.d (.int .i64)]) (galoisref02_Sign)
def galoisref03_Sign (a0 : D1) : Option Int :=
  (galoisref02_Sign a0.1).bind fun t1 => some t1
def galoisref03_Sign.note : Note := { cert := .none }
def galoisref03_Sign.orc {β : Type} : Oracle β := orcOf [(179, galoisref02_Sign.C)]
def galoisref03_Sign.C {β : Type} : Fun β := cN [.d Y1] (rsR [.d (.int .i64)]) (galoisref03_Sign)
def galoisref06_Trim.top (j0 : Int → (List D1) → Option ((List D1))) (a0 : List D1) : Option ((List D1)) :=
  j0 (a0.length : Int) a0
def galoisref06_Trim.b0 (j0 : Int → (List D1) → Option ((List D1))) (x0 : Int) (l1 : List D1) : Option ((List D1)) :=
  bif decide (0 < x0) then (if 0 ≤ (IntKind.wrap .i64 (x0 - 1)) ∧ (IntKind.wrap .i64 (x0 - 1)) < (l1.length : Int) then ((galoisref03_Sign (List.getD l1 (Int.toNat (IntKind.wrap .i64 (x0 - 1))) ((false, (⟨#[]⟩ : ByteArray)), (⟨#[]⟩ : ByteArray)))).bind fun t1 => bif decide (t1 = 0) then (j0 (IntKind.wrap .i64 (x0 - 1)) l1) else (if 0 ≤ x0 ∧ x0 ≤ (l1.length : Int) then (if ([] : List D1).length + (List.take ((Int.toNat x0) - 0) (List.drop 0 l1)).length < 140737488355328 / 40 then (some (([] : List D1) ++ (List.take ((Int.toNat x0) - 0) (List.drop 0 l1)))) else none) else none)) else none) else (if 0 ≤ x0 ∧ x0 ≤ (l1.length : Int) then (if ([] : List D1).length + (List.take ((Int.toNat x0) - 0) (List.drop 0 l1)).length < 140737488355328 / 40 then (some (([] : List D1) ++ (List.take ((Int.toNat x0) - 0) (List.drop 0 l1)))) else none) else none)
def galoisref06_Trim.l0 : Nat → Int → (List D1) → Option ((List D1))
  | 0, _, _ => none
  | n + 1, x0, l1 => galoisref06_Trim.b0 (galoisref06_Trim.l0 n) x0 l1
def galoisref06_Trim (k : Nat) (a0 : List D1) : Option ((List D1)) :=
  galoisref06_Trim.top (galoisref06_Trim.l0 k) a0
def galoisref06_Trim.note : Note := { cert := (.two .none (.two .none (.two (.one (.lab 0 [0, 3] [] [] .none)) .none))) }
def galoisref06_Trim.orc {β : Type} : Oracle β := orcOf [(126, galoisref03_Sign.C)]
def galoisref06_Trim.s0 (L : Labels ((List D1))) (x0 : Int) (l1 : List D1) : Option ((List D1)) := L 0 (mkE 24 0 [(0, .own 0), (3, .data (.int .i64) x0)]) (ofList [.arr .ro Y1 l1]) 1
def galoisref06_Trim.C {β : Type} (k : Nat) : Fun β := cN [.d (.slice Y1)] (rsR [.o Y1]) (galoisref06_Trim k)
def galoisref06_Of.top (k : Nat) (j0 : Int → Int → (List Int) → (List D1) → Option ((List D1))) (a0 : List Int) : Option ((List D1)) :=
  j0 (a0.length : Int) 0 a0 ([] : List D1)
def galoisref06_Of.b0 (k : Nat) (j0 : Int → Int → (List Int) → (List D1) → Option ((List D1))) (x0 x1 : Int) (l2 : List Int) (l3 : List D1) : Option ((List D1)) :=
  bif decide (x1 < x0) then (if 0 ≤ x1 ∧ x1 < (l2.length : Int) then ((galoisref03_FromInt k (List.getD l2 (Int.toNat x1) 0)).bind fun t1 => if l3.length + ([t1] : List D1).length < 140737488355328 / 40 then (j0 x0 (IntKind.wrap .i64 (x1 + 1)) l2 (l3 ++ ([t1] : List D1))) else none) else none) else ((galoisref06_Trim k l3).bind fun t2 => some t2)
def galoisref06_Of.l0 (k : Nat) : Nat → Int → Int → (List Int) → (List D1) → Option ((List D1))
  | 0, _, _, _, _ => none
  | n + 1, x0, x1, l2, l3 => galoisref06_Of.b0 k (galoisref06_Of.l0 k n) x0 x1 l2 l3
def galoisref06_Of (k : Nat) (a0 : List Int) : Option ((List D1)) :=
  galoisref06_Of.top k (galoisref06_Of.l0 k k) a0
def galoisref06_Of.note : Note := { cert := (.two .none (.two .none (.two (.two .none (.one (.lab 0 [3, 6, 7, 8] [] [] .none))) .none))) }
def galoisref06_Of.orc {β : Type} (k : Nat) : Oracle β := orcOf [(61, galoisref03_FromInt.C k), (162, galoisref06_Trim.C k)]
def galoisref06_Of.s0 (L : Labels ((List D1))) (x0 x1 : Int) (l2 : List Int) (l3 : List D1) : Option ((List D1)) := L 0 (mkE 20 0 [(3, .own 1), (6, .own 0), (7, .data (.int .i64) x0), (8, .data (.int .i64) x1)]) (ofList [.arr .ro (.int .i64) l2, .arr .own Y1 l3]) 2
def galoisref06_Of.C {β : Type} (k : Nat) : Fun β := cN [.d (.slice (.int .i64))] (rsR [.o Y1]) (galoisref06_Of k)
def exact_IsZero (a0 : D1) : Option Bool :=
  some (a0.1.2.toList == (⟨#[]⟩ : ByteArray).toList)
def exact_IsZero.note : Note := { cert := .none }
def exact_IsZero.C {β : Type} : Fun β := cN [.d Y1] (rsR [.d .bool]) (exact_IsZero)
def qpoly_Check.top (k : Nat) (j0 : Int → Int → (List D1) → Option Int) (a0 : List D1) : Option Int :=
  bif decide (65 < (a0.length : Int)) then (some 4) else (j0 (a0.length : Int) 0 a0)
def qpoly_Check.b0 (k : Nat) (j0 : Int → Int → (List D1) → Option Int) (x0 x1 : Int) (l2 : List D1) : Option Int :=
  bif decide (x1 < x0) then (if 0 ≤ x1 ∧ x1 < (l2.length : Int) then ((rational_Check k (List.getD l2 (Int.toNat x1) ((false, (⟨#[]⟩ : ByteArray)), (⟨#[]⟩ : ByteArray)))).bind fun t1 => bif !decide (t1 = 0) then (some t1) else (j0 x0 (IntKind.wrap .i64 (x1 + 1)) l2)) else none) else (bif decide (0 < (l2.length : Int)) then (if 0 ≤ (IntKind.wrap .i64 ((l2.length : Int) - 1)) ∧ (IntKind.wrap .i64 ((l2.length : Int) - 1)) < (l2.length : Int) then ((exact_IsZero (List.getD l2 (Int.toNat (IntKind.wrap .i64 ((l2.length : Int) - 1))) ((false, (⟨#[]⟩ : ByteArray)), (⟨#[]⟩ : ByteArray)))).bind fun t2 => bif t2 then (some 1) else (some 0)) else none) else (some 0))
def qpoly_Check.l0 (k : Nat) : Nat → Int → Int → (List D1) → Option Int
  | 0, _, _, _ => none
  | n + 1, x0, x1, l2 => qpoly_Check.b0 k (qpoly_Check.l0 k n) x0 x1 l2
def qpoly_Check (k : Nat) (a0 : List D1) : Option Int :=
  qpoly_Check.top k (qpoly_Check.l0 k k) a0
def qpoly_Check.note : Note := { cert := (.two .none (.two .none (.two (.two .none (.one (.lab 0 [0, 9, 10, 11] [] [] .none))) .none))) }
def qpoly_Check.orc {β : Type} (k : Nat) : Oracle β := orcOf [(97, rational_Check.C k), (163, exact_IsZero.C)]
def qpoly_Check.s0 (L : Labels Int) (x0 x1 : Int) (l2 : List D1) : Option Int := L 0 (mkE 33 0 [(0, .own 0), (9, .own 0), (10, .data (.int .i64) x0), (11, .data (.int .i64) x1)]) (ofList [.arr .ro Y1 l2]) 1
def qpoly_Check.C {β : Type} (k : Nat) : Fun β := cN [.d (.slice Y1)] (rsR [.d (.int .i64)]) (qpoly_Check k)
def ival_Zero (k : Nat)  : Option D2 :=
  (exact_Int k 0).bind fun t1 => (ival_Point t1).bind fun t2 => some t2
def ival_Zero.note : Note := { cert := .none }
def ival_Zero.orc {β : Type} (k : Nat) : Oracle β := orcOf [(178, exact_Int.C k), (177, ival_Point.C)]
def ival_Zero.C {β : Type} (k : Nat) : Fun β := cN [] (rsR [.d Y2]) (ival_Zero k)
def exact_IntAdd (k : Nat) (a0 a1 : D0) : Option D0 :=
  bif a0.1 == a1.1 then ((exact_NatAdd k a0.2 a1.2).bind fun t1 => (exact_IntMake a0.1 t1).bind fun t2 => some t2) else ((exact_NatCmp k a0.2 a1.2).bind fun t3 => bif decide (t3 < 0) then ((exact_NatSub k a1.2 a0.2).bind fun t4 => (exact_IntMake a1.1 t4).bind fun t5 => some t5) else ((exact_NatSub k a0.2 a1.2).bind fun t6 => (exact_IntMake a0.1 t6).bind fun t7 => some t7))
def exact_IntAdd.note : Note := { cert := .none }
def exact_IntAdd.orc {β : Type} (k : Nat) : Oracle β := orcOf [(228, exact_NatAdd.C k), (160, exact_IntMake.C), (201, exact_NatCmp.C k), (229, exact_NatSub.C k)]
def exact_IntAdd.C {β : Type} (k : Nat) : Fun β := cN [.d Y0, .d Y0] (rsR [.d Y0]) (exact_IntAdd k)
def exact_Add (k : Nat) (a0 a1 : D1) : Option D1 :=
  bif a0.2.toList == a1.2.toList then (bif a0.2.toList == (⟨#[1]⟩ : ByteArray).toList then ((exact_IntAdd k a0.1 a1.1).bind fun t1 => (exact_Whole t1).bind fun t2 => some t2) else ((exact_IntAdd k a0.1 a1.1).bind fun t3 => (exact_Make k t3 (false, a0.2)).bind fun t4 => some t4)) else ((exact_NatMul k a0.1.2 a1.2).bind fun t5 => (exact_IntMake a0.1.1 t5).bind fun t6 => (exact_NatMul k a1.1.2 a0.2).bind fun t7 => (exact_IntMake a1.1.1 t7).bind fun t8 => (exact_IntAdd k t6 t8).bind fun t9 => (exact_NatMul k a0.2 a1.2).bind fun t10 => (exact_Make k t9 (false, t10)).bind fun t11 => some t11)
def exact_Add.note : Note := { cert := .none }
def exact_Add.orc {β : Type} (k : Nat) : Oracle β := orcOf [(213, exact_IntAdd.C k), (212, exact_Whole.C), (205, exact_Make.C k), (161, exact_NatMul.C k), (160, exact_IntMake.C)]
def exact_Add.C {β : Type} (k : Nat) : Fun β := cN [.d Y1, .d Y1] (rsR [.d Y1]) (exact_Add k)
def ival_Add (k : Nat) (a0 a1 : D2) : Option D2 :=
  (exact_Add k a0.1 a1.1).bind fun t1 => (exact_Add k a0.2 a1.2).bind fun t2 => some (t1, t2)
def ival_Add.note : Note := { cert := .none }
def ival_Add.orc {β : Type} (k : Nat) : Oracle β := orcOf [(174, exact_Add.C k)]
def ival_Add.C {β : Type} (k : Nat) : Fun β := cN [.d Y2, .d Y2] (rsR [.d Y2]) (ival_Add k)
def ival_Round (k : Nat) (a0 : D2) (a1 : Int) : Option D2 :=
  (ival_down k a0.1 a1).bind fun t1 => (exact_Neg a0.2).bind fun t2 => (ival_down k t2 a1).bind fun t3 => (exact_Neg t3).bind fun t4 => some (t1, t4)
def ival_Round.note : Note := { cert := .none }
def ival_Round.orc {β : Type} (k : Nat) : Oracle β := orcOf [(167, ival_down.C k), (168, exact_Neg.C)]
def ival_Round.C {β : Type} (k : Nat) : Fun β := cN [.d Y2, .d (.int .i64)] (rsR [.d Y2]) (ival_Round k)
def ival_EvalPoly.top (k : Nat) (j0 : Int → Int → (List D1) → D2 → D2 → D2 → Option D2) (a0 : List D1) (a1 : D2) (a2 : Int) : Option D2 :=
  (ival_Zero k).bind fun t1 => j0 a2 (IntKind.wrap .i64 ((a0.length : Int) - 1)) a0 a1 (((false, (⟨#[]⟩ : ByteArray)), (⟨#[]⟩ : ByteArray)), ((false, (⟨#[]⟩ : ByteArray)), (⟨#[]⟩ : ByteArray))) t1
def ival_EvalPoly.b0 (k : Nat) (j0 : Int → Int → (List D1) → D2 → D2 → D2 → Option D2) (x0 x1 : Int) (l2 : List D1) (x3 x4 x5 : D2) : Option D2 :=
  bif decide (0 ≤ x1) then ((ival_Mul k x5 x3).bind fun t2 => if 0 ≤ x1 ∧ x1 < (l2.length : Int) then ((ival_Around k (List.getD l2 (Int.toNat x1) ((false, (⟨#[]⟩ : ByteArray)), (⟨#[]⟩ : ByteArray))) x0).bind fun t3 => (ival_Add k t2 t3).bind fun t4 => (ival_Round k t4 x0).bind fun t5 => j0 x0 (IntKind.wrap .i64 (x1 - 1)) l2 x3 x4 t5) else none) else (some x5)
def ival_EvalPoly.l0 (k : Nat) : Nat → Int → Int → (List D1) → D2 → D2 → D2 → Option D2
  | 0, _, _, _, _, _, _ => none
  | n + 1, x0, x1, l2, x3, x4, x5 => ival_EvalPoly.b0 k (ival_EvalPoly.l0 k n) x0 x1 l2 x3 x4 x5
def ival_EvalPoly (k : Nat) (a0 : List D1) (a1 : D2) (a2 : Int) : Option D2 :=
  ival_EvalPoly.top k (ival_EvalPoly.l0 k k) a0 a1 a2
def ival_EvalPoly.note : Note := { cert := (.two .none (.two .none (.two (.two .none (.one (.lab 0 [0, 2, 4, 6, 7, 8] [] [] .none))) .none))) }
def ival_EvalPoly.orc {β : Type} (k : Nat) : Oracle β := orcOf [(165, ival_Zero.C k), (123, ival_Mul.C k), (112, ival_Around.C k), (121, ival_Add.C k), (113, ival_Round.C k)]
def ival_EvalPoly.s0 (L : Labels D2) (x0 x1 : Int) (l2 : List D1) (x3 x4 x5 : D2) : Option D2 := L 0 (mkE 30 0 [(0, .own 0), (2, .data (.int .i64) x0), (4, .ptr 3 Y2 []), (6, .ptr 4 Y2 []), (7, .ptr 5 Y2 []), (8, .data (.int .i64) x1)]) (ofList [.arr .ro Y1 l2, .dead, .dead, .var true Y2 (.data Y2 x3), .var true Y2 (.data Y2 x4), .var true Y2 (.data Y2 x5)]) 6
def ival_EvalPoly.C {β : Type} (k : Nat) : Fun β := cN [.d (.slice Y1), .d Y2, .d (.int .i64)] (rsR [.d Y2]) (ival_EvalPoly k)
def enclosure_EvalPoly (k : Nat) (a0 : List D1) (a1 : D2) (a2 : Int) : Option (D2 × Int) :=
  (qpoly_Check k a0).bind fun t1 => (enclosure_Check k a1).bind fun t2 => (enclosure_grid a2).bind fun t3 => (enclosure_first k ([t1, t2, t3] : List Int)).bind fun t4 => bif !decide (t4 = 0) then (some ((((false, (⟨#[]⟩ : ByteArray)), (⟨#[]⟩ : ByteArray)), ((false, (⟨#[]⟩ : ByteArray)), (⟨#[]⟩ : ByteArray))), t4)) else ((ival_EvalPoly k a0 a1 a2).bind fun t5 => (enclosure_interval t5).bind fun pt6 => some (pt6.1, pt6.2))
def enclosure_EvalPoly.note : Note := { cert := .none }
def enclosure_EvalPoly.orc {β : Type} (k : Nat) : Oracle β := orcOf [(106, qpoly_Check.C k), (13, enclosure_Check.C k), (107, enclosure_grid.C), (96, enclosure_first.C k), (109, ival_EvalPoly.C k), (108, enclosure_interval.C)]
def enclosure_EvalPoly.C {β : Type} (k : Nat) : Fun β := cN [.d (.slice Y1), .d Y2, .d (.int .i64)] (rsR [.d Y2, .d (.int .i64)]) (enclosure_EvalPoly k)
def galoisref19_Zero (k : Nat)  : Option D2 :=
  (galoisref03_Of k 0 1).bind fun t1 => (galoisref03_Of k 0 1).bind fun t2 => (galoisref19_Make t1 t2).bind fun t3 => some t3
def galoisref19_Zero.note : Note := { cert := .none }
def galoisref19_Zero.orc {β : Type} (k : Nat) : Oracle β := orcOf [(101, galoisref03_Of.C k), (118, galoisref19_Make.C)]
def galoisref19_Zero.C {β : Type} (k : Nat) : Fun β := cN [] (rsR [.d Y2]) (galoisref19_Zero k)
def enclosure_CheckBox (k : Nat) (a0 : D3) : Option Int :=
  (enclosure_Check k a0.1).bind fun t1 => (enclosure_Check k a0.2).bind fun t2 => (enclosure_first k ([t1, t2] : List Int)).bind fun t3 => some t3
def enclosure_CheckBox.note : Note := { cert := .none }
def enclosure_CheckBox.orc {β : Type} (k : Nat) : Oracle β := orcOf [(13, enclosure_Check.C k), (96, enclosure_first.C k)]
def enclosure_CheckBox.C {β : Type} (k : Nat) : Fun β := cN [.d Y3] (rsR [.d (.int .i64)]) (enclosure_CheckBox k)
def ival_Neg (a0 : D2) : Option D2 :=
  (exact_Neg a0.2).bind fun t1 => (exact_Neg a0.1).bind fun t2 => some (t1, t2)
def ival_Neg.note : Note := { cert := .none }
def ival_Neg.orc {β : Type} : Oracle β := orcOf [(168, exact_Neg.C)]
def ival_Neg.C {β : Type} : Fun β := cN [.d Y2] (rsR [.d Y2]) (ival_Neg)
def ival_Sub (k : Nat) (a0 a1 : D2) : Option D2 :=
  (ival_Neg a1).bind fun t1 => (ival_Add k a0 t1).bind fun t2 => some t2
def ival_Sub.note : Note := { cert := .none }
def ival_Sub.orc {β : Type} (k : Nat) : Oracle β := orcOf [(175, ival_Neg.C), (121, ival_Add.C k)]
def ival_Sub.C {β : Type} (k : Nat) : Fun β := cN [.d Y2, .d Y2] (rsR [.d Y2]) (ival_Sub k)
def ival_MulBox (k : Nat) (a0 a1 : D3) : Option D3 :=
  (ival_Mul k a0.1 a1.1).bind fun t1 => (ival_Mul k a0.2 a1.2).bind fun t2 => (ival_Sub k t1 t2).bind fun t3 => (ival_Mul k a0.1 a1.2).bind fun t4 => (ival_Mul k a0.2 a1.1).bind fun t5 => (ival_Add k t4 t5).bind fun t6 => some (t3, t6)
def ival_MulBox.note : Note := { cert := .none }
def ival_MulBox.orc {β : Type} (k : Nat) : Oracle β := orcOf [(123, ival_Mul.C k), (122, ival_Sub.C k), (121, ival_Add.C k)]
def ival_MulBox.C {β : Type} (k : Nat) : Fun β := cN [.d Y3, .d Y3] (rsR [.d Y3]) (ival_MulBox k)
def ival_LargeBox (a0 : D3) : Option Bool :=
  (ival_Large a0.1).bind fun t1 => bif t1 then (some true) else ((ival_Large a0.2).bind fun t2 => some t2)
def ival_LargeBox.note : Note := { cert := .none }
def ival_LargeBox.orc {β : Type} : Oracle β := orcOf [(164, ival_Large.C)]
def ival_LargeBox.C {β : Type} : Fun β := cN [.d Y3] (rsR [.d .bool]) (ival_LargeBox)
def enclosure_box (a0 : D3) : Option (D3 × Int) :=
  (ival_LargeBox a0).bind fun t1 => bif t1 then (some (((((false, (⟨#[]⟩ : ByteArray)), (⟨#[]⟩ : ByteArray)), ((false, (⟨#[]⟩ : ByteArray)), (⟨#[]⟩ : ByteArray))), (((false, (⟨#[]⟩ : ByteArray)), (⟨#[]⟩ : ByteArray)), ((false, (⟨#[]⟩ : ByteArray)), (⟨#[]⟩ : ByteArray)))), 4)) else (some (a0, 0))
def enclosure_box.note : Note := { cert := .none }
def enclosure_box.orc {β : Type} : Oracle β := orcOf [(186, ival_LargeBox.C)]
def enclosure_box.C {β : Type} : Fun β := cN [.d Y3] (rsR [.d Y3, .d (.int .i64)]) (enclosure_box)
def enclosure_MulBox (k : Nat) (a0 a1 : D3) : Option (D3 × Int) :=
  (enclosure_CheckBox k a0).bind fun t1 => (enclosure_CheckBox k a1).bind fun t2 => (enclosure_first k ([t1, t2] : List Int)).bind fun t3 => bif !decide (t3 = 0) then (some (((((false, (⟨#[]⟩ : ByteArray)), (⟨#[]⟩ : ByteArray)), ((false, (⟨#[]⟩ : ByteArray)), (⟨#[]⟩ : ByteArray))), (((false, (⟨#[]⟩ : ByteArray)), (⟨#[]⟩ : ByteArray)), ((false, (⟨#[]⟩ : ByteArray)), (⟨#[]⟩ : ByteArray)))), t3)) else ((ival_MulBox k a0 a1).bind fun t4 => (enclosure_box t4).bind fun pt5 => some (pt5.1, pt5.2))
def enclosure_MulBox.note : Note := { cert := .none }
def enclosure_MulBox.orc {β : Type} (k : Nat) : Oracle β := orcOf [(15, enclosure_CheckBox.C k), (96, enclosure_first.C k), (139, ival_MulBox.C k), (133, enclosure_box.C)]
def enclosure_MulBox.C {β : Type} (k : Nat) : Fun β := cN [.d Y3, .d Y3] (rsR [.d Y3, .d (.int .i64)]) (enclosure_MulBox k)
def galoislaw19_awake.top (k : Nat) (j0 : Bool → D2 → D2 → D2 → D2 → D2 → D3 → Option Bool)  : Option Bool :=
  (galoisref03_Of k 1 3).bind fun t1 => (enclosure_Around k t1 2).bind fun pt2 => (galoisref03_Of k (-1) 3).bind fun t4 => (enclosure_Around k t4 0).bind fun pt5 => (galoislaw19_make2 k (-1) 1 2 1).bind fun t7 => (galoislaw19_make2 k (-3) 1 1 2).bind fun t8 => (enclosure_Mul k t7 t8).bind fun pt9 => (galoislaw19_make2 k (-1) 1 2 1).bind fun t11 => (enclosure_Square k t11).bind fun pt12 => (galoisref06_Of k ([(-2), 0, 1] : List Int)).bind fun t14 => (galoislaw19_make2 k 1 1 2 1).bind fun t15 => (enclosure_EvalPoly k t14 t15 0).bind fun pt16 => (galoisref19_Zero k).bind fun t18 => (galoislaw19_make2 k 1 1 1 1).bind fun t19 => (enclosure_MulBox k (t18, t19) (t18, t19)).bind fun pt20 => bif !decide (pt2.2 = 0) then (j0 true pt2.1 pt5.1 pt9.1 pt12.1 pt16.1 pt20.1) else (bif !decide (pt5.2 = 0) then (j0 true pt2.1 pt5.1 pt9.1 pt12.1 pt16.1 pt20.1) else (bif !decide (pt9.2 = 0) then (j0 true pt2.1 pt5.1 pt9.1 pt12.1 pt16.1 pt20.1) else (bif !decide (pt12.2 = 0) then (j0 true pt2.1 pt5.1 pt9.1 pt12.1 pt16.1 pt20.1) else (bif !decide (pt16.2 = 0) then (j0 true pt2.1 pt5.1 pt9.1 pt12.1 pt16.1 pt20.1) else (j0 (!decide (pt20.2 = 0)) pt2.1 pt5.1 pt9.1 pt12.1 pt16.1 pt20.1)))))
def galoislaw19_awake.b0 (k : Nat) (x0 : Bool) (x1 x2 x3 x4 x5 : D2) (x6 : D3) : Option Bool :=
  bif x0 then (some false) else ((galoislaw19_make2 k 1 4 1 2).bind fun t22 => bif Ty.eqb (.pair Y1 Y1) x1 t22 then ((galoislaw19_make2 k (-1) 1 0 1).bind fun t23 => bif Ty.eqb (.pair Y1 Y1) x2 t23 then ((galoislaw19_make2 k (-6) 1 3 1).bind fun t24 => bif Ty.eqb (.pair Y1 Y1) x3 t24 then ((galoislaw19_make2 k 0 1 4 1).bind fun t25 => bif Ty.eqb (.pair Y1 Y1) x4 t25 then ((galoislaw19_make2 k (-1) 1 2 1).bind fun t26 => bif Ty.eqb (.pair Y1 Y1) x5 t26 then ((galoislaw19_make2 k (-1) 1 (-1) 1).bind fun t27 => (galoisref19_Zero k).bind fun t28 => bif Ty.eqb (.pair Y2 Y2) x6 (t27, t28) then ((galoislaw19_make2 k 1 3 1 1).bind fun t29 => (enclosure_Check k t29).bind fun t30 => bif decide (t30 = 1) then ((galoislaw19_make2 k 1 1 0 1).bind fun t31 => (enclosure_Check k t31).bind fun t32 => some (decide (t32 = 3))) else (some false)) else (some false)) else (some false)) else (some false)) else (some false)) else (some false)) else (some false))
def galoislaw19_awake.l0 (k : Nat) : Nat → Bool → D2 → D2 → D2 → D2 → D2 → D3 → Option Bool
  | 0, _, _, _, _, _, _, _ => none
  | n + 1, x0, x1, x2, x3, x4, x5, x6 => galoislaw19_awake.b0 k x0 x1 x2 x3 x4 x5 x6
def galoislaw19_awake (k : Nat)  : Option Bool :=
  galoislaw19_awake.top k (galoislaw19_awake.l0 k k) 
def galoislaw19_awake.note : Note := { cert := (.two .none (.two .none (.two .none (.two .none (.two .none (.two .none (.two .none (.two .none (.two (.two (.lab 0 [1, 3, 5, 7, 9, 12, 72] [] [] .none) .none) .none))))))))) }
def galoislaw19_awake.orc {β : Type} (k : Nat) : Oracle β := orcOf [(101, galoisref03_Of.C k), (27, enclosure_Around.C k), (102, galoislaw19_make2.C k), (36, enclosure_Mul.C k), (37, enclosure_Square.C k), (103, galoisref06_Of.C k), (20, enclosure_EvalPoly.C k), (104, galoisref19_Zero.C k), (59, enclosure_MulBox.C k), (13, enclosure_Check.C k)]
def galoislaw19_awake.s0 (L : Labels Bool) (x0 : Bool) (x1 x2 x3 x4 x5 : D2) (x6 : D3) : Option Bool := L 0 (mkE 113 0 [(1, .ptr 0 Y2 []), (3, .ptr 1 Y2 []), (5, .ptr 2 Y2 []), (7, .ptr 3 Y2 []), (9, .ptr 4 Y2 []), (12, .ptr 5 Y3 []), (72, .data .bool x0)]) (ofList [.var true Y2 (.data Y2 x1), .var true Y2 (.data Y2 x2), .var true Y2 (.data Y2 x3), .var true Y2 (.data Y2 x4), .var true Y2 (.data Y2 x5), .var true Y3 (.data Y3 x6)]) 6
def galoislaw19_awake.C {β : Type} (k : Nat) : Fun β := cN [] (rsR [.d .bool]) (galoislaw19_awake k)
def galoisref01_Valid (a0 : ByteArray) : Option Bool :=
  bif a0.toList == (⟨#[]⟩ : ByteArray).toList then (some true) else (if 0 ≤ (0 : Int) ∧ (0 : Int) < (a0.size : Int) then (some (!decide ((((List.getD a0.data.toList 0 0).toNat : Nat) : Int) = 0))) else none)
def galoisref01_Valid.note : Note := { cert := .none }
def galoisref01_Valid.C {β : Type} : Fun β := cN [.d .str] (rsR [.d .bool]) (galoisref01_Valid)
def galoisref02_Valid (a0 : D0) : Option Bool :=
  (galoisref01_Valid a0.2).bind fun t1 => bif t1 then (bif !a0.1 then (some true) else (some (!(a0.2.toList == (⟨#[]⟩ : ByteArray).toList)))) else (some false)
def galoisref02_Valid.note : Note := { cert := .none }
def galoisref02_Valid.orc {β : Type} : Oracle β := orcOf [(115, galoisref01_Valid.C)]
def galoisref02_Valid.C {β : Type} : Fun β := cN [.d Y0] (rsR [.d .bool]) (galoisref02_Valid)
def galoisref01_Fits (a0 : ByteArray) : Option Int :=
  bif decide (1024 < (a0.size : Int)) then (some 4) else (some 0)
def galoisref01_Fits.note : Note := { cert := .none }
def galoisref01_Fits.C {β : Type} : Fun β := cN [.d .str] (rsR [.d (.int .i64)]) (galoisref01_Fits)
def galoisref02_Fits (a0 : D0) : Option Int :=
  (galoisref01_Fits a0.2).bind fun t1 => some t1
def galoisref02_Fits.note : Note := { cert := .none }
def galoisref02_Fits.orc {β : Type} : Oracle β := orcOf [(170, galoisref01_Fits.C)]
def galoisref02_Fits.C {β : Type} : Fun β := cN [.d Y0] (rsR [.d (.int .i64)]) (galoisref02_Fits)
def galoisref03_Fits (a0 : D1) : Option Int :=
  (galoisref02_Fits a0.1).bind fun t1 => bif !decide (t1 = 0) then (some 4) else ((galoisref01_Fits a0.2).bind fun t2 => some t2)
def galoisref03_Fits.note : Note := { cert := .none }
def galoisref03_Fits.orc {β : Type} : Oracle β := orcOf [(169, galoisref02_Fits.C), (170, galoisref01_Fits.C)]
def galoisref03_Fits.C {β : Type} : Fun β := cN [.d Y1] (rsR [.d (.int .i64)]) (galoisref03_Fits)
def galoisref03_Check.top (k : Nat) (j0 : Bool → D1 → Option Int) (a0 : D1) : Option Int :=
  (galoisref02_Valid a0.1).bind fun t1 => bif !t1 then (j0 true a0) else ((galoisref01_Valid a0.2).bind fun t4 => bif !t4 then (j0 true a0) else (j0 (a0.2.toList == (⟨#[]⟩ : ByteArray).toList) a0))
def galoisref03_Check.b0 (k : Nat) (x0 : Bool) (x1 : D1) : Option Int :=
  bif x0 then (some 1) else ((galoisref03_Fits x1).bind fun t2 => bif !decide (t2 = 0) then (some 4) else ((galoisref01_Gcd k x1.1.2 x1.2).bind fun t3 => bif !(t3.toList == (⟨#[1]⟩ : ByteArray).toList) then (some 1) else (some 0)))
def galoisref03_Check.l0 (k : Nat) : Nat → Bool → D1 → Option Int
  | 0, _, _ => none
  | n + 1, x0, x1 => galoisref03_Check.b0 k x0 x1
def galoisref03_Check (k : Nat) (a0 : D1) : Option Int :=
  galoisref03_Check.top k (galoisref03_Check.l0 k k) a0
def galoisref03_Check.note : Note := { cert := (.two .none (.two (.two (.lab 0 [1, 17] [] [] .none) .none) .none)) }
def galoisref03_Check.orc {β : Type} (k : Nat) : Oracle β := orcOf [(114, galoisref02_Valid.C), (116, galoisref03_Fits.C), (117, galoisref01_Gcd.C k), (115, galoisref01_Valid.C)]
def galoisref03_Check.s0 (L : Labels Int) (x0 : Bool) (x1 : D1) : Option Int := L 0 (mkE 28 0 [(1, .ptr 1 Y1 []), (17, .data .bool x0)]) (ofList [.dead, .var true Y1 (.data Y1 x1)]) 2
def galoisref03_Check.C {β : Type} (k : Nat) : Fun β := cN [.d Y1] (rsR [.d (.int .i64)]) (galoisref03_Check k)
def galoisref19_Dyadic.top (j0 : Int → D1 → Option Bool) (a0 : D1) : Option Bool :=
  j0 0 a0
def galoisref19_Dyadic.b0 (j0 : Int → D1 → Option Bool) (x0 : Int) (x1 : D1) : Option Bool :=
  bif decide (x0 < (x1.2.size : Int)) then (if 0 ≤ x0 ∧ x0 < (x1.2.size : Int) then (bif decide (0 < x0) then (bif !decide ((((List.getD x1.2.data.toList (Int.toNat x0) 0).toNat : Nat) : Int) = 0) then (some false) else (bif decide (x0 = 0) then (bif !decide ((IntKind.wrap .u8 (((BitVec.ofInt 8 (((List.getD x1.2.data.toList (Int.toNat x0) 0).toNat : Nat) : Int) &&& BitVec.ofInt 8 (IntKind.wrap .u8 ((((List.getD x1.2.data.toList (Int.toNat x0) 0).toNat : Nat) : Int) - 1))).toNat : Int))) = 0) then (some false) else (j0 (IntKind.wrap .i64 (x0 + 1)) x1)) else (j0 (IntKind.wrap .i64 (x0 + 1)) x1))) else (bif decide (x0 = 0) then (bif !decide ((IntKind.wrap .u8 (((BitVec.ofInt 8 (((List.getD x1.2.data.toList (Int.toNat x0) 0).toNat : Nat) : Int) &&& BitVec.ofInt 8 (IntKind.wrap .u8 ((((List.getD x1.2.data.toList (Int.toNat x0) 0).toNat : Nat) : Int) - 1))).toNat : Int))) = 0) then (some false) else (j0 (IntKind.wrap .i64 (x0 + 1)) x1)) else (j0 (IntKind.wrap .i64 (x0 + 1)) x1))) else none) else (some true)
def galoisref19_Dyadic.l0 : Nat → Int → D1 → Option Bool
  | 0, _, _ => none
  | n + 1, x0, x1 => galoisref19_Dyadic.b0 (galoisref19_Dyadic.l0 n) x0 x1
def galoisref19_Dyadic (k : Nat) (a0 : D1) : Option Bool :=
  galoisref19_Dyadic.top (galoisref19_Dyadic.l0 k) a0
def galoisref19_Dyadic.note : Note := { cert := (.two .none (.two (.two .none (.one (.lab 0 [1, 3] [] [] .none))) .none)) }
def galoisref19_Dyadic.s0 (L : Labels Bool) (x0 : Int) (x1 : D1) : Option Bool := L 0 (mkE 33 0 [(1, .ptr 1 Y1 []), (3, .data (.int .i64) x0)]) (ofList [.dead, .var true Y1 (.data Y1 x1)]) 2
def galoisref19_Dyadic.C {β : Type} (k : Nat) : Fun β := cN [.d Y1] (rsR [.d .bool]) (galoisref19_Dyadic k)
def galoisref03_denominator (a0 : D1) : Option D0 :=
  some (false, a0.2)
def galoisref03_denominator.note : Note := { cert := .none }
def galoisref03_denominator.C {β : Type} : Fun β := cN [.d Y1] (rsR [.d Y0]) (galoisref03_denominator)
def galoisref01_Mul.top (k : Nat) (j0 : Int → (List Int) → (List Int) → (List Int) → Option ByteArray) (a0 a1 : ByteArray) : Option ByteArray :=
  (galoisref01_limbs k a0).bind fun t1 => (galoisref01_limbs k a1).bind fun t2 => if 0 ≤ (IntKind.wrap .i64 ((t1.length : Int) + (t2.length : Int))) then (if (Int.toNat (IntKind.wrap .i64 ((t1.length : Int) + (t2.length : Int)))) ≤ 281474976710656 / 8 then (j0 0 t1 t2 (List.replicate (Int.toNat (IntKind.wrap .i64 ((t1.length : Int) + (t2.length : Int)))) 0 : List Int)) else none) else none
def galoisref01_Mul.b0 (k : Nat) (j1 : Int → Int → Int → (List Int) → (List Int) → (List Int) → Option ByteArray) (x0 : Int) (l1 l2 l3 : List Int) : Option ByteArray :=
  bif decide (x0 < (l1.length : Int)) then (j1 x0 0 0 l1 l2 l3) else ((galoisref01_pack k l3).bind fun t3 => some t3)
def galoisref01_Mul.b1 (k : Nat) (j0 : Int → (List Int) → (List Int) → (List Int) → Option ByteArray) (j1 : Int → Int → Int → (List Int) → (List Int) → (List Int) → Option ByteArray) (x0 x1 x2 : Int) (l3 l4 l5 : List Int) : Option ByteArray :=
  bif decide (x2 < (l4.length : Int)) then (if 0 ≤ (IntKind.wrap .i64 (x0 + x2)) ∧ (IntKind.wrap .i64 (x0 + x2)) < (l5.length : Int) then (if 0 ≤ x0 ∧ x0 < (l3.length : Int) then (if 0 ≤ x2 ∧ x2 < (l4.length : Int) then (if 0 ≤ (IntKind.wrap .i64 (x0 + x2)) ∧ (IntKind.wrap .i64 (x0 + x2)) < (l5.length : Int) then (j1 x0 (Int.fdiv (IntKind.wrap .u64 ((IntKind.wrap .u64 ((List.getD l5 (Int.toNat (IntKind.wrap .i64 (x0 + x2))) 0) + (IntKind.wrap .u64 ((List.getD l3 (Int.toNat x0) 0) * (List.getD l4 (Int.toNat x2) 0))))) + x1)) 4294967296) (IntKind.wrap .i64 (x2 + 1)) l3 l4 (List.set l5 (Int.toNat (IntKind.wrap .i64 (x0 + x2))) (IntKind.wrap .u64 (((BitVec.ofInt 64 (IntKind.wrap .u64 ((IntKind.wrap .u64 ((List.getD l5 (Int.toNat (IntKind.wrap .i64 (x0 + x2))) 0) + (IntKind.wrap .u64 ((List.getD l3 (Int.toNat x0) 0) * (List.getD l4 (Int.toNat x2) 0))))) + x1)) &&& BitVec.ofInt 64 4294967295).toNat : Int))))) else none) else none) else none) else none) else (if 0 ≤ (IntKind.wrap .i64 (x0 + (l4.length : Int))) ∧ (IntKind.wrap .i64 (x0 + (l4.length : Int))) < (l5.length : Int) then (j0 (IntKind.wrap .i64 (x0 + 1)) l3 l4 (List.set l5 (Int.toNat (IntKind.wrap .i64 (x0 + (l4.length : Int)))) x1)) else none)
mutual
def galoisref01_Mul.l0 (k : Nat) : Nat → Int → (List Int) → (List Int) → (List Int) → Option ByteArray
  | 0, _, _, _, _ => none
  | n + 1, x0, l1, l2, l3 => galoisref01_Mul.b0 k (galoisref01_Mul.l1 k n) x0 l1 l2 l3
def galoisref01_Mul.l1 (k : Nat) : Nat → Int → Int → Int → (List Int) → (List Int) → (List Int) → Option ByteArray
  | 0, _, _, _, _, _, _ => none
  | n + 1, x0, x1, x2, l3, l4, l5 => galoisref01_Mul.b1 k (galoisref01_Mul.l0 k n) (galoisref01_Mul.l1 k n) x0 x1 x2 l3 l4 l5
end
def galoisref01_Mul (k : Nat) (a0 a1 : ByteArray) : Option ByteArray :=
  galoisref01_Mul.top k (galoisref01_Mul.l0 k k) a0 a1
def galoisref01_Mul.note : Note := { cert := (.two .none (.two .none (.two .none (.two (.two .none (.one (.lab 0 [5, 6, 7, 8] [] [] (.one (.two .none (.two (.one (.two .none (.two (.two .none (.one (.lab 1 [5, 6, 7, 8, 9, 10] [] [] .none))) .none))) .none)))))) .none)))) }
def galoisref01_Mul.orc {β : Type} (k : Nat) : Oracle β := orcOf [(207, galoisref01_limbs.C k), (209, galoisref01_pack.C k)]
def galoisref01_Mul.s0 (L : Labels ByteArray) (x0 : Int) (l1 l2 l3 : List Int) : Option ByteArray := L 0 (mkE 70 0 [(5, .own 2), (6, .own 3), (7, .own 4), (8, .data (.int .i64) x0)]) (ofList [.dead, .dead, .arr .own (.int .u64) l1, .arr .own (.int .u64) l2, .arr .own (.int .u64) l3]) 5
def galoisref01_Mul.s1 (L : Labels ByteArray) (x0 x1 x2 : Int) (l3 l4 l5 : List Int) : Option ByteArray := L 1 (mkE 70 0 [(5, .own 2), (6, .own 3), (7, .own 4), (8, .data (.int .i64) x0), (9, .data (.int .u64) x1), (10, .data (.int .i64) x2)]) (ofList [.dead, .dead, .arr .own (.int .u64) l3, .arr .own (.int .u64) l4, .arr .own (.int .u64) l5]) 5
def galoisref01_Mul.C {β : Type} (k : Nat) : Fun β := cN [.d .str, .d .str] (rsR [.d .str]) (galoisref01_Mul k)
def galoisref02_Mul (k : Nat) (a0 a1 : D0) : Option D0 :=
  (galoisref01_Mul k a0.2 a1.2).bind fun t1 => (galoisref02_Make (!(a0.1 == a1.1)) t1).bind fun t2 => some t2
def galoisref02_Mul.note : Note := { cert := .none }
def galoisref02_Mul.orc {β : Type} (k : Nat) : Oracle β := orcOf [(184, galoisref01_Mul.C k), (180, galoisref02_Make.C)]
def galoisref02_Mul.C {β : Type} (k : Nat) : Fun β := cN [.d Y0, .d Y0] (rsR [.d Y0]) (galoisref02_Mul k)
def galoisref01_Compare.top (j0 : ByteArray → ByteArray → Bool → Option Int) (a0 a1 : ByteArray) : Option Int :=
  bif decide ((a0.size : Int) < (a1.size : Int)) then (j0 a0 a1 true) else (bif decide ((a0.size : Int) = (a1.size : Int)) then (j0 a0 a1 (Op.bytesLess a0.toList a1.toList)) else (j0 a0 a1 false))
def galoisref01_Compare.b0 (x0 x1 : ByteArray) (x2 : Bool) : Option Int :=
  bif x2 then (some (-1)) else (bif x0.toList == x1.toList then (some 0) else (some 1))
def galoisref01_Compare.l0 : Nat → ByteArray → ByteArray → Bool → Option Int
  | 0, _, _, _ => none
  | n + 1, x0, x1, x2 => galoisref01_Compare.b0 x0 x1 x2
def galoisref01_Compare (k : Nat) (a0 a1 : ByteArray) : Option Int :=
  galoisref01_Compare.top (galoisref01_Compare.l0 k) a0 a1
def galoisref01_Compare.note : Note := { cert := (.two .none (.two (.one (.two (.lab 0 [0, 1, 5] [] [] .none) .none)) .none)) }
def galoisref01_Compare.s0 (L : Labels Int) (x0 x1 : ByteArray) (x2 : Bool) : Option Int := L 0 (mkE 27 0 [(0, .data .str x0), (1, .data .str x1), (5, .data .bool x2)]) (ofList [.dead, .dead]) 2
def galoisref01_Compare.C {β : Type} (k : Nat) : Fun β := cN [.d .str, .d .str] (rsR [.d (.int .i64)]) (galoisref01_Compare k)
def galoisref02_Compare (k : Nat) (a0 a1 : D0) : Option Int :=
  (galoisref02_Sign a0).bind fun t1 => (galoisref02_Sign a1).bind fun t2 => bif decide (t1 < t2) then (some (-1)) else (bif decide (t2 < t1) then (some 1) else (bif decide (t1 < 0) then ((galoisref01_Compare k a1.2 a0.2).bind fun t3 => some t3) else ((galoisref01_Compare k a0.2 a1.2).bind fun t4 => some t4)))
def galoisref02_Compare.note : Note := { cert := .none }
def galoisref02_Compare.orc {β : Type} (k : Nat) : Oracle β := orcOf [(179, galoisref02_Sign.C), (182, galoisref01_Compare.C k)]
def galoisref02_Compare.C {β : Type} (k : Nat) : Fun β := cN [.d Y0, .d Y0] (rsR [.d (.int .i64)]) (galoisref02_Compare k)
def galoisref03_Compare (k : Nat) (a0 a1 : D1) : Option Int :=
  (galoisref03_denominator a1).bind fun t1 => (galoisref02_Mul k a0.1 t1).bind fun t2 => (galoisref03_denominator a0).bind fun t3 => (galoisref02_Mul k a1.1 t3).bind fun t4 => (galoisref02_Compare k t2 t4).bind fun t5 => some t5
def galoisref03_Compare.note : Note := { cert := .none }
def galoisref03_Compare.orc {β : Type} (k : Nat) : Oracle β := orcOf [(130, galoisref03_denominator.C), (129, galoisref02_Mul.C k), (138, galoisref02_Compare.C k)]
def galoisref03_Compare.C {β : Type} (k : Nat) : Fun β := cN [.d Y1, .d Y1] (rsR [.d (.int .i64)]) (galoisref03_Compare k)
def galoisref19_Check.top (k : Nat) (j0 : Bool → D2 → Option Int) (a0 : D2) : Option Int :=
  (galoisref03_Check k a0.1).bind fun t1 => bif !decide (t1 = 0) then (some t1) else ((galoisref03_Check k a0.2).bind fun t2 => bif !decide (t2 = 0) then (some t2) else ((galoisref19_Dyadic k a0.1).bind fun t3 => bif !t3 then (j0 true a0) else ((galoisref19_Dyadic k a0.2).bind fun t5 => j0 (!t5) a0)))
def galoisref19_Check.b0 (k : Nat) (x0 : Bool) (x1 : D2) : Option Int :=
  bif x0 then (some 1) else ((galoisref03_Compare k x1.1 x1.2).bind fun t4 => bif decide (0 < t4) then (some 3) else (some 0))
def galoisref19_Check.l0 (k : Nat) : Nat → Bool → D2 → Option Int
  | 0, _, _ => none
  | n + 1, x0, x1 => galoisref19_Check.b0 k x0 x1
def galoisref19_Check (k : Nat) (a0 : D2) : Option Int :=
  galoisref19_Check.top k (galoisref19_Check.l0 k k) a0
def galoisref19_Check.note : Note := { cert := (.two .none (.two .none (.two .none (.two .none (.two .none (.two (.two (.lab 0 [1, 25] [] [] .none) .none) .none)))))) }
def galoisref19_Check.orc {β : Type} (k : Nat) : Oracle β := orcOf [(29, galoisref03_Check.C k), (100, galoisref19_Dyadic.C k), (58, galoisref03_Compare.C k)]
def galoisref19_Check.s0 (L : Labels Int) (x0 : Bool) (x1 : D2) : Option Int := L 0 (mkE 32 0 [(1, .ptr 1 Y2 []), (25, .data .bool x0)]) (ofList [.dead, .var true Y2 (.data Y2 x1)]) 2
def galoisref19_Check.C {β : Type} (k : Nat) : Fun β := cN [.d Y2] (rsR [.d (.int .i64)]) (galoisref19_Check k)

def galoisref19_CheckBox (k : Nat) (a0 : D3) : Option Int :=
  (galoisref19_Check k a0.1).bind fun t1 => bif !decide (t1 = 0) then (some t1) else ((galoisref19_Check k a0.2).bind fun t2 => some t2)
def galoisref19_short (a0 : D1) : Option Bool :=
  bif decide ((a0.1.2.size : Int) ≤ 12) then (some (decide ((a0.2.size : Int) ≤ 12))) else (some false)
def galoisref19_short.note : Note := { cert := .none }
def galoisref19_short.C {β : Type} : Fun β := cN [.d Y1] (rsR [.d .bool]) (galoisref19_short)
def galoisref19_FewPoly.top (j0 : Int → (List D1) → Option Bool) (a0 : List D1) : Option Bool :=
  bif decide (7 < (a0.length : Int)) then (some false) else (j0 0 a0)
def galoisref19_FewPoly.b0 (j0 : Int → (List D1) → Option Bool) (x0 : Int) (l1 : List D1) : Option Bool :=
  bif decide (x0 < (l1.length : Int)) then (if 0 ≤ x0 ∧ x0 < (l1.length : Int) then ((galoisref19_short (List.getD l1 (Int.toNat x0) ((false, (⟨#[]⟩ : ByteArray)), (⟨#[]⟩ : ByteArray)))).bind fun t1 => bif !t1 then (some false) else (j0 (IntKind.wrap .i64 (x0 + 1)) l1)) else none) else (some true)
def galoisref19_FewPoly.l0 : Nat → Int → (List D1) → Option Bool
  | 0, _, _ => none
  | n + 1, x0, l1 => galoisref19_FewPoly.b0 (galoisref19_FewPoly.l0 n) x0 l1
def galoisref19_FewPoly (k : Nat) (a0 : List D1) : Option Bool :=
  galoisref19_FewPoly.top (galoisref19_FewPoly.l0 k) a0
def galoisref19_FewPoly.note : Note := { cert := (.two .none (.two .none (.two (.two .none (.one (.lab 0 [0, 3] [] [] .none))) .none))) }
def galoisref19_FewPoly.orc {β : Type} : Oracle β := orcOf [(105, galoisref19_short.C)]
def galoisref19_FewPoly.s0 (L : Labels Bool) (x0 : Int) (l1 : List D1) : Option Bool := L 0 (mkE 19 0 [(0, .own 0), (3, .data (.int .i64) x0)]) (ofList [.arr .ro Y1 l1]) 1
def galoisref19_FewPoly.C {β : Type} (k : Nat) : Fun β := cN [.d (.slice Y1)] (rsR [.d .bool]) (galoisref19_FewPoly k)
def galoisref19_Few (a0 : D2) : Option Bool :=
  (galoisref19_short a0.1).bind fun t1 => bif t1 then ((galoisref19_short a0.2).bind fun t2 => some t2) else (some false)
def galoisref19_Few.note : Note := { cert := .none }
def galoisref19_Few.orc {β : Type} : Oracle β := orcOf [(105, galoisref19_short.C)]
def galoisref19_Few.C {β : Type} : Fun β := cN [.d Y2] (rsR [.d .bool]) (galoisref19_Few)
def galoisref06_Check.top (k : Nat) (j0 : Int → Int → (List D1) → Option Int) (a0 : List D1) : Option Int :=
  bif decide (65 < (a0.length : Int)) then (some 4) else (j0 (a0.length : Int) 0 a0)
def galoisref06_Check.b0 (k : Nat) (j0 : Int → Int → (List D1) → Option Int) (x0 x1 : Int) (l2 : List D1) : Option Int :=
  bif decide (x1 < x0) then (if 0 ≤ x1 ∧ x1 < (l2.length : Int) then ((galoisref03_Check k (List.getD l2 (Int.toNat x1) ((false, (⟨#[]⟩ : ByteArray)), (⟨#[]⟩ : ByteArray)))).bind fun t1 => bif !decide (t1 = 0) then (some t1) else (j0 x0 (IntKind.wrap .i64 (x1 + 1)) l2)) else none) else (bif decide (0 < (l2.length : Int)) then (if 0 ≤ (IntKind.wrap .i64 ((l2.length : Int) - 1)) ∧ (IntKind.wrap .i64 ((l2.length : Int) - 1)) < (l2.length : Int) then ((galoisref03_Sign (List.getD l2 (Int.toNat (IntKind.wrap .i64 ((l2.length : Int) - 1))) ((false, (⟨#[]⟩ : ByteArray)), (⟨#[]⟩ : ByteArray)))).bind fun t2 => bif decide (t2 = 0) then (some 1) else (some 0)) else none) else (some 0))
def galoisref06_Check.l0 (k : Nat) : Nat → Int → Int → (List D1) → Option Int
  | 0, _, _, _ => none
  | n + 1, x0, x1, l2 => galoisref06_Check.b0 k (galoisref06_Check.l0 k n) x0 x1 l2
def galoisref06_Check (k : Nat) (a0 : List D1) : Option Int :=
  galoisref06_Check.top k (galoisref06_Check.l0 k k) a0
def galoisref06_Check.note : Note := { cert := (.two .none (.two .none (.two (.two .none (.one (.lab 0 [0, 9, 10, 11] [] [] .none))) .none))) }
def galoisref06_Check.orc {β : Type} (k : Nat) : Oracle β := orcOf [(29, galoisref03_Check.C k), (126, galoisref03_Sign.C)]
def galoisref06_Check.s0 (L : Labels Int) (x0 x1 : Int) (l2 : List D1) : Option Int := L 0 (mkE 34 0 [(0, .own 0), (9, .own 0), (10, .data (.int .i64) x0), (11, .data (.int .i64) x1)]) (ofList [.arr .ro Y1 l2]) 1
def galoisref06_Check.C {β : Type} (k : Nat) : Fun β := cN [.d (.slice Y1)] (rsR [.d (.int .i64)]) (galoisref06_Check k)
def galoisref19_Poly (k : Nat) (a0 : List D1) : Option Int :=
  (galoisref06_Check k a0).bind fun t1 => some t1
def galoisref19_Poly.note : Note := { cert := .none }
def galoisref19_Poly.orc {β : Type} (k : Nat) : Oracle β := orcOf [(111, galoisref06_Check.C k)]
def galoisref19_Poly.C {β : Type} (k : Nat) : Fun β := cN [.d (.slice Y1)] (rsR [.d (.int .i64)]) (galoisref19_Poly k)

def galoisref19_Bits (a0 : Int) : Option Int :=
  bif decide (a0 < 0) then (some 3) else (bif decide (4096 < a0) then (some 3) else (some 0))

def galoisref19_First.top (j0 : Int → (List Int) → Option Int) (a0 : List Int) : Option Int :=
  j0 0 a0
def galoisref19_First.b0 (j0 : Int → (List Int) → Option Int) (x0 : Int) (l1 : List Int) : Option Int :=
  bif decide (x0 < (l1.length : Int)) then (if 0 ≤ x0 ∧ x0 < (l1.length : Int) then (bif !decide ((List.getD l1 (Int.toNat x0) 0) = 0) then (if 0 ≤ x0 ∧ x0 < (l1.length : Int) then (some (List.getD l1 (Int.toNat x0) 0)) else none) else (j0 (IntKind.wrap .i64 (x0 + 1)) l1)) else none) else (some 0)
def galoisref19_First.l0 : Nat → Int → (List Int) → Option Int
  | 0, _, _ => none
  | n + 1, x0, l1 => galoisref19_First.b0 (galoisref19_First.l0 n) x0 l1
def galoisref19_First (k : Nat) (a0 : List Int) : Option Int :=
  galoisref19_First.top (galoisref19_First.l0 k) a0
def galoisref03_Whole (a0 : D0) : Option D1 :=
  some (a0, (⟨#[1]⟩ : ByteArray))
def galoisref03_Whole.note : Note := { cert := .none }
def galoisref03_Whole.C {β : Type} : Fun β := cN [.d Y0] (rsR [.d Y1]) (galoisref03_Whole)
def galoisref03_Mul.top (k : Nat) (j0 : Bool → D1 → D1 → D1 → Option D1) (a0 a1 : D1) : Option D1 :=
  bif a0.2.toList == (⟨#[1]⟩ : ByteArray).toList then (j0 (a1.2.toList == (⟨#[1]⟩ : ByteArray).toList) a0 a1 ((false, (⟨#[]⟩ : ByteArray)), (⟨#[]⟩ : ByteArray))) else (j0 false a0 a1 ((false, (⟨#[]⟩ : ByteArray)), (⟨#[]⟩ : ByteArray)))
def galoisref03_Mul.b0 (k : Nat) (x0 : Bool) (x1 x2 x3 : D1) : Option D1 :=
  bif x0 then ((galoisref02_Mul k x1.1 x2.1).bind fun t1 => (galoisref03_Whole t1).bind fun t2 => some t2) else ((galoisref02_Mul k x1.1 x2.1).bind fun t3 => (galoisref03_denominator x1).bind fun t4 => (galoisref03_denominator x2).bind fun t5 => (galoisref02_Mul k t4 t5).bind fun t6 => (galoisref03_Make k t3 t6).bind fun t7 => some t7)
def galoisref03_Mul.l0 (k : Nat) : Nat → Bool → D1 → D1 → D1 → Option D1
  | 0, _, _, _, _ => none
  | n + 1, x0, x1, x2, x3 => galoisref03_Mul.b0 k x0 x1 x2 x3
def galoisref03_Mul (k : Nat) (a0 a1 : D1) : Option D1 :=
  galoisref03_Mul.top k (galoisref03_Mul.l0 k k) a0 a1
def galoisref03_Mul.note : Note := { cert := (.two .none (.two (.two (.lab 0 [2, 3, 4, 12] [] [] .none) .none) .none)) }
def galoisref03_Mul.orc {β : Type} (k : Nat) : Oracle β := orcOf [(129, galoisref02_Mul.C k), (127, galoisref03_Whole.C), (130, galoisref03_denominator.C), (131, galoisref03_Make.C k)]
def galoisref03_Mul.s0 (L : Labels D1) (x0 : Bool) (x1 x2 x3 : D1) : Option D1 := L 0 (mkE 30 0 [(2, .ptr 2 Y1 []), (3, .ptr 3 Y1 []), (4, .ptr 4 Y1 []), (12, .data .bool x0)]) (ofList [.dead, .dead, .var true Y1 (.data Y1 x1), .var true Y1 (.data Y1 x2), .var true Y1 (.data Y1 x3)]) 5
def galoisref03_Mul.C {β : Type} (k : Nat) : Fun β := cN [.d Y1, .d Y1] (rsR [.d Y1]) (galoisref03_Mul k)

def galoisref19_Less (k : Nat) (a0 a1 : D1) : Option Bool :=
  (galoisref03_Compare k a0 a1).bind fun t1 => some (decide (t1 < 0))

def galoisref19_Span.top (k : Nat) (j0 : Int → (List D1) → D2 → D2 → Option D2) (a0 : List D1) : Option D2 :=
  if 0 ≤ (0 : Int) ∧ (0 : Int) < (a0.length : Int) then (if 0 ≤ (0 : Int) ∧ (0 : Int) < (a0.length : Int) then ((galoisref19_Make (List.getD a0 0 ((false, (⟨#[]⟩ : ByteArray)), (⟨#[]⟩ : ByteArray))) (List.getD a0 0 ((false, (⟨#[]⟩ : ByteArray)), (⟨#[]⟩ : ByteArray)))).bind fun t1 => j0 1 a0 (((false, (⟨#[]⟩ : ByteArray)), (⟨#[]⟩ : ByteArray)), ((false, (⟨#[]⟩ : ByteArray)), (⟨#[]⟩ : ByteArray))) t1) else none) else none
def galoisref19_Span.b0 (k : Nat) (j1 : Int → (List D1) → D2 → D2 → Option D2) (x0 : Int) (l1 : List D1) (x2 x3 : D2) : Option D2 :=
  bif decide (x0 < (l1.length : Int)) then (if 0 ≤ x0 ∧ x0 < (l1.length : Int) then ((galoisref19_Less k (List.getD l1 (Int.toNat x0) ((false, (⟨#[]⟩ : ByteArray)), (⟨#[]⟩ : ByteArray))) x3.1).bind fun t2 => bif t2 then (if 0 ≤ x0 ∧ x0 < (l1.length : Int) then (j1 x0 l1 x2 (List.getD l1 (Int.toNat x0) ((false, (⟨#[]⟩ : ByteArray)), (⟨#[]⟩ : ByteArray)), x3.2)) else none) else (j1 x0 l1 x2 x3)) else none) else (some x3)
def galoisref19_Span.b1 (k : Nat) (j0 : Int → (List D1) → D2 → D2 → Option D2) (x0 : Int) (l1 : List D1) (x2 x3 : D2) : Option D2 :=
  if 0 ≤ x0 ∧ x0 < (l1.length : Int) then ((galoisref19_Less k x3.2 (List.getD l1 (Int.toNat x0) ((false, (⟨#[]⟩ : ByteArray)), (⟨#[]⟩ : ByteArray)))).bind fun t3 => bif t3 then (if 0 ≤ x0 ∧ x0 < (l1.length : Int) then (j0 (IntKind.wrap .i64 (x0 + 1)) l1 x2 (x3.1, List.getD l1 (Int.toNat x0) ((false, (⟨#[]⟩ : ByteArray)), (⟨#[]⟩ : ByteArray)))) else none) else (j0 (IntKind.wrap .i64 (x0 + 1)) l1 x2 x3)) else none
mutual
def galoisref19_Span.l0 (k : Nat) : Nat → Int → (List D1) → D2 → D2 → Option D2
  | 0, _, _, _, _ => none
  | n + 1, x0, l1, x2, x3 => galoisref19_Span.b0 k (galoisref19_Span.l1 k n) x0 l1 x2 x3
def galoisref19_Span.l1 (k : Nat) : Nat → Int → (List D1) → D2 → D2 → Option D2
  | 0, _, _, _, _ => none
  | n + 1, x0, l1, x2, x3 => galoisref19_Span.b1 k (galoisref19_Span.l0 k n) x0 l1 x2 x3
end
def galoisref19_Span (k : Nat) (a0 : List D1) : Option D2 :=
  galoisref19_Span.top k (galoisref19_Span.l0 k k) a0

def galoisref19_Mul (k : Nat) (a0 a1 : D2) : Option D2 :=
  (galoisref03_Mul k a0.1 a1.1).bind fun t1 => (galoisref03_Mul k a0.1 a1.2).bind fun t2 => (galoisref03_Mul k a0.2 a1.1).bind fun t3 => (galoisref03_Mul k a0.2 a1.2).bind fun t4 => (galoisref19_Span k ([t1, t2, t3, t4] : List D1)).bind fun t5 => some t5

def galoisref01_TwoTo (a0 : Int) : Option ByteArray :=
  if 0 ≤ (IntKind.wrap .i64 ((IntKind.wrap .i64 (Int.tdiv a0 8)) + 1)) then (if (Int.toNat (IntKind.wrap .i64 ((IntKind.wrap .i64 (Int.tdiv a0 8)) + 1))) ≤ 281474976710656 / 1 then (if (Int.tmod a0 8) < 0 then none else (if 0 ≤ (0 : Int) ∧ (0 : Int) < ((List.replicate (Int.toNat (IntKind.wrap .i64 ((IntKind.wrap .i64 (Int.tdiv a0 8)) + 1))) 0 : List Int).length : Int) then (some (strOf (List.set (List.replicate (Int.toNat (IntKind.wrap .i64 ((IntKind.wrap .i64 (Int.tdiv a0 8)) + 1))) 0 : List Int) 0 (IntKind.wrap .u8 (1 * 2 ^ min (Int.toNat (Int.tmod a0 8)) 8))))) else none)) else none) else none

def galoisref19_Two (a0 : Int) : Option D1 :=
  (galoisref01_TwoTo a0).bind fun t1 => (galoisref03_Whole (false, t1)).bind fun t2 => some t2
def galoisref01_Add.top (k : Nat) (j0 : Int → Int → (List Int) → (List Int) → (List Int) → Option ByteArray) (a0 a1 : ByteArray) : Option ByteArray :=
  (galoisref01_limbs k a0).bind fun t1 => (galoisref01_limbs k a1).bind fun t2 => j0 0 0 t1 t2 ([] : List Int)
def galoisref01_Add.b0 (k : Nat) (j1 : Int → Int → Bool → (List Int) → (List Int) → (List Int) → Option ByteArray) (x0 x1 : Int) (l2 l3 l4 : List Int) : Option ByteArray :=
  bif decide (x1 < (l2.length : Int)) then (j1 x0 x1 true l2 l3 l4) else (bif decide (x1 < (l3.length : Int)) then (j1 x0 x1 true l2 l3 l4) else (j1 x0 x1 (decide (0 < x0)) l2 l3 l4))
def galoisref01_Add.b1 (k : Nat) (j0 : Int → Int → (List Int) → (List Int) → (List Int) → Option ByteArray) (x0 x1 : Int) (x2 : Bool) (l3 l4 l5 : List Int) : Option ByteArray :=
  bif x2 then (bif decide (x1 < (l3.length : Int)) then (if 0 ≤ x1 ∧ x1 < (l3.length : Int) then (bif decide (x1 < (l4.length : Int)) then (if 0 ≤ x1 ∧ x1 < (l4.length : Int) then (if l5.length + ([IntKind.wrap .u64 (((BitVec.ofInt 64 (IntKind.wrap .u64 ((IntKind.wrap .u64 (x0 + (List.getD l3 (Int.toNat x1) 0))) + (List.getD l4 (Int.toNat x1) 0))) &&& BitVec.ofInt 64 4294967295).toNat : Int))] : List Int).length < 140737488355328 / 8 then (j0 (Int.fdiv (IntKind.wrap .u64 ((IntKind.wrap .u64 (x0 + (List.getD l3 (Int.toNat x1) 0))) + (List.getD l4 (Int.toNat x1) 0))) 4294967296) (IntKind.wrap .i64 (x1 + 1)) l3 l4 (l5 ++ ([IntKind.wrap .u64 (((BitVec.ofInt 64 (IntKind.wrap .u64 ((IntKind.wrap .u64 (x0 + (List.getD l3 (Int.toNat x1) 0))) + (List.getD l4 (Int.toNat x1) 0))) &&& BitVec.ofInt 64 4294967295).toNat : Int))] : List Int))) else none) else none) else (if l5.length + ([IntKind.wrap .u64 (((BitVec.ofInt 64 (IntKind.wrap .u64 (x0 + (List.getD l3 (Int.toNat x1) 0))) &&& BitVec.ofInt 64 4294967295).toNat : Int))] : List Int).length < 140737488355328 / 8 then (j0 (Int.fdiv (IntKind.wrap .u64 (x0 + (List.getD l3 (Int.toNat x1) 0))) 4294967296) (IntKind.wrap .i64 (x1 + 1)) l3 l4 (l5 ++ ([IntKind.wrap .u64 (((BitVec.ofInt 64 (IntKind.wrap .u64 (x0 + (List.getD l3 (Int.toNat x1) 0))) &&& BitVec.ofInt 64 4294967295).toNat : Int))] : List Int))) else none)) else none) else (bif decide (x1 < (l4.length : Int)) then (if 0 ≤ x1 ∧ x1 < (l4.length : Int) then (if l5.length + ([IntKind.wrap .u64 (((BitVec.ofInt 64 (IntKind.wrap .u64 (x0 + (List.getD l4 (Int.toNat x1) 0))) &&& BitVec.ofInt 64 4294967295).toNat : Int))] : List Int).length < 140737488355328 / 8 then (j0 (Int.fdiv (IntKind.wrap .u64 (x0 + (List.getD l4 (Int.toNat x1) 0))) 4294967296) (IntKind.wrap .i64 (x1 + 1)) l3 l4 (l5 ++ ([IntKind.wrap .u64 (((BitVec.ofInt 64 (IntKind.wrap .u64 (x0 + (List.getD l4 (Int.toNat x1) 0))) &&& BitVec.ofInt 64 4294967295).toNat : Int))] : List Int))) else none) else none) else (if l5.length + ([IntKind.wrap .u64 (((BitVec.ofInt 64 x0 &&& BitVec.ofInt 64 4294967295).toNat : Int))] : List Int).length < 140737488355328 / 8 then (j0 (Int.fdiv x0 4294967296) (IntKind.wrap .i64 (x1 + 1)) l3 l4 (l5 ++ ([IntKind.wrap .u64 (((BitVec.ofInt 64 x0 &&& BitVec.ofInt 64 4294967295).toNat : Int))] : List Int))) else none))) else ((galoisref01_pack k l5).bind fun t3 => some t3)
mutual
def galoisref01_Add.l0 (k : Nat) : Nat → Int → Int → (List Int) → (List Int) → (List Int) → Option ByteArray
  | 0, _, _, _, _, _ => none
  | n + 1, x0, x1, l2, l3, l4 => galoisref01_Add.b0 k (galoisref01_Add.l1 k n) x0 x1 l2 l3 l4
def galoisref01_Add.l1 (k : Nat) : Nat → Int → Int → Bool → (List Int) → (List Int) → (List Int) → Option ByteArray
  | 0, _, _, _, _, _, _ => none
  | n + 1, x0, x1, x2, l3, l4, l5 => galoisref01_Add.b1 k (galoisref01_Add.l0 k n) x0 x1 x2 l3 l4 l5
end
def galoisref01_Add (k : Nat) (a0 a1 : ByteArray) : Option ByteArray :=
  galoisref01_Add.top k (galoisref01_Add.l0 k k) a0 a1
def galoisref01_Add.note : Note := { cert := (.two .none (.two .none (.two .none (.two .none (.two (.two .none (.one (.lab 0 [5, 6, 7, 8, 9] [] [] (.one (.two (.two (.lab 1 [5, 6, 7, 8, 9, 28] [] [] .none) .none) .none))))) .none))))) }
def galoisref01_Add.orc {β : Type} (k : Nat) : Oracle β := orcOf [(207, galoisref01_limbs.C k), (209, galoisref01_pack.C k)]
def galoisref01_Add.s0 (L : Labels ByteArray) (x0 x1 : Int) (l2 l3 l4 : List Int) : Option ByteArray := L 0 (mkE 61 0 [(5, .own 2), (6, .own 3), (7, .own 4), (8, .data (.int .u64) x0), (9, .data (.int .i64) x1)]) (ofList [.dead, .dead, .arr .own (.int .u64) l2, .arr .own (.int .u64) l3, .arr .own (.int .u64) l4]) 5
def galoisref01_Add.s1 (L : Labels ByteArray) (x0 x1 : Int) (x2 : Bool) (l3 l4 l5 : List Int) : Option ByteArray := L 1 (mkE 61 0 [(5, .own 2), (6, .own 3), (7, .own 4), (8, .data (.int .u64) x0), (9, .data (.int .i64) x1), (28, .data .bool x2)]) (ofList [.dead, .dead, .arr .own (.int .u64) l3, .arr .own (.int .u64) l4, .arr .own (.int .u64) l5]) 5
def galoisref01_Add.C {β : Type} (k : Nat) : Fun β := cN [.d .str, .d .str] (rsR [.d .str]) (galoisref01_Add k)
end Go.Proofs.YthghchjbomlpfaaGreat.Ev

namespace Go.Proofs.YthghchjbomlpfaaGreat.Ev
set_option linter.unusedVariables false
set_option maxRecDepth 100000
def galoisref01_Sub.top (k : Nat) (j0 : Int → Int → (List Int) → (List Int) → Option ByteArray) (a0 a1 : ByteArray) : Option ByteArray :=
  (galoisref01_Compare k a0 a1).bind fun t1 => bif decide (t1 < 0) then (some (⟨#[]⟩ : ByteArray)) else ((galoisref01_limbs k a0).bind fun t2 => (galoisref01_limbs k a1).bind fun t3 => j0 0 0 t2 t3)
def galoisref01_Sub.b0 (k : Nat) (j0 : Int → Int → (List Int) → (List Int) → Option ByteArray) (x0 x1 : Int) (l2 l3 : List Int) : Option ByteArray :=
  bif decide (x1 < (l2.length : Int)) then (bif decide (x1 < (l3.length : Int)) then (if 0 ≤ x1 ∧ x1 < (l3.length : Int) then (if 0 ≤ x1 ∧ x1 < (l2.length : Int) then (bif decide ((List.getD l2 (Int.toNat x1) 0) < (IntKind.wrap .u64 (x0 + (List.getD l3 (Int.toNat x1) 0)))) then (if 0 ≤ x1 ∧ x1 < (l2.length : Int) then (if 0 ≤ x1 ∧ x1 < (l2.length : Int) then (if 0 ≤ x1 ∧ x1 < ((List.set l2 (Int.toNat x1) (IntKind.wrap .u64 ((List.getD l2 (Int.toNat x1) 0) + 4294967296))).length : Int) then (if 0 ≤ x1 ∧ x1 < ((List.set l2 (Int.toNat x1) (IntKind.wrap .u64 ((List.getD l2 (Int.toNat x1) 0) + 4294967296))).length : Int) then (j0 1 (IntKind.wrap .i64 (x1 + 1)) (List.set (List.set l2 (Int.toNat x1) (IntKind.wrap .u64 ((List.getD l2 (Int.toNat x1) 0) + 4294967296))) (Int.toNat x1) (IntKind.wrap .u64 ((List.getD (List.set l2 (Int.toNat x1) (IntKind.wrap .u64 ((List.getD l2 (Int.toNat x1) 0) + 4294967296))) (Int.toNat x1) 0) - (IntKind.wrap .u64 (x0 + (List.getD l3 (Int.toNat x1) 0)))))) l3) else none) else none) else none) else none) else (if 0 ≤ x1 ∧ x1 < (l2.length : Int) then (if 0 ≤ x1 ∧ x1 < (l2.length : Int) then (j0 0 (IntKind.wrap .i64 (x1 + 1)) (List.set l2 (Int.toNat x1) (IntKind.wrap .u64 ((List.getD l2 (Int.toNat x1) 0) - (IntKind.wrap .u64 (x0 + (List.getD l3 (Int.toNat x1) 0)))))) l3) else none) else none)) else none) else none) else (if 0 ≤ x1 ∧ x1 < (l2.length : Int) then (bif decide ((List.getD l2 (Int.toNat x1) 0) < x0) then (if 0 ≤ x1 ∧ x1 < (l2.length : Int) then (if 0 ≤ x1 ∧ x1 < (l2.length : Int) then (if 0 ≤ x1 ∧ x1 < ((List.set l2 (Int.toNat x1) (IntKind.wrap .u64 ((List.getD l2 (Int.toNat x1) 0) + 4294967296))).length : Int) then (if 0 ≤ x1 ∧ x1 < ((List.set l2 (Int.toNat x1) (IntKind.wrap .u64 ((List.getD l2 (Int.toNat x1) 0) + 4294967296))).length : Int) then (j0 1 (IntKind.wrap .i64 (x1 + 1)) (List.set (List.set l2 (Int.toNat x1) (IntKind.wrap .u64 ((List.getD l2 (Int.toNat x1) 0) + 4294967296))) (Int.toNat x1) (IntKind.wrap .u64 ((List.getD (List.set l2 (Int.toNat x1) (IntKind.wrap .u64 ((List.getD l2 (Int.toNat x1) 0) + 4294967296))) (Int.toNat x1) 0) - x0))) l3) else none) else none) else none) else none) else (if 0 ≤ x1 ∧ x1 < (l2.length : Int) then (if 0 ≤ x1 ∧ x1 < (l2.length : Int) then (j0 0 (IntKind.wrap .i64 (x1 + 1)) (List.set l2 (Int.toNat x1) (IntKind.wrap .u64 ((List.getD l2 (Int.toNat x1) 0) - x0))) l3) else none) else none)) else none)) else ((galoisref01_pack k l2).bind fun t4 => some t4)
def galoisref01_Sub.l0 (k : Nat) : Nat → Int → Int → (List Int) → (List Int) → Option ByteArray
  | 0, _, _, _, _ => none
  | n + 1, x0, x1, l2, l3 => galoisref01_Sub.b0 k (galoisref01_Sub.l0 k n) x0 x1 l2 l3
def galoisref01_Sub (k : Nat) (a0 a1 : ByteArray) : Option ByteArray :=
  galoisref01_Sub.top k (galoisref01_Sub.l0 k k) a0 a1
def galoisref01_Sub.note : Note := { cert := (.two .none (.two .none (.two .none (.two .none (.two (.two .none (.one (.lab 0 [5, 6, 7, 8] [] [] .none))) .none))))) }
def galoisref01_Sub.orc {β : Type} (k : Nat) : Oracle β := orcOf [(182, galoisref01_Compare.C k), (207, galoisref01_limbs.C k), (209, galoisref01_pack.C k)]
def galoisref01_Sub.s0 (L : Labels ByteArray) (x0 x1 : Int) (l2 l3 : List Int) : Option ByteArray := L 0 (mkE 60 0 [(5, .own 2), (6, .own 3), (7, .data (.int .u64) x0), (8, .data (.int .i64) x1)]) (ofList [.dead, .dead, .arr .own (.int .u64) l2, .arr .own (.int .u64) l3]) 4
def galoisref01_Sub.C {β : Type} (k : Nat) : Fun β := cN [.d .str, .d .str] (rsR [.d .str]) (galoisref01_Sub k)

def galoisref02_DivMod.top (k : Nat) (j0 : ByteArray → ByteArray → Bool → D0 → D0 → D0 → D0 → Option (D0 × D0)) (a0 a1 : D0) : Option (D0 × D0) :=
  (galoisref01_DivMod k a0.2 a1.2).bind fun pt1 => bif a0.1 then (j0 pt1.1 pt1.2 (!(pt1.2.toList == (⟨#[]⟩ : ByteArray).toList)) a0 a1 (false, (⟨#[]⟩ : ByteArray)) (false, (⟨#[]⟩ : ByteArray))) else (j0 pt1.1 pt1.2 false a0 a1 (false, (⟨#[]⟩ : ByteArray)) (false, (⟨#[]⟩ : ByteArray)))
def galoisref02_DivMod.b0 (k : Nat) (x0 x1 : ByteArray) (x2 : Bool) (x3 x4 x5 x6 : D0) : Option (D0 × D0) :=
  bif x2 then ((galoisref01_Of k 1).bind fun t3 => (galoisref01_Add k x0 t3).bind fun t4 => (galoisref01_Sub k x4.2 x1).bind fun t5 => (galoisref02_Make (!(x3.1 == x4.1)) t4).bind fun t6 => some (t6, (false, t5))) else ((galoisref02_Make (!(x3.1 == x4.1)) x0).bind fun t7 => some (t7, (false, x1)))
def galoisref02_DivMod.l0 (k : Nat) : Nat → ByteArray → ByteArray → Bool → D0 → D0 → D0 → D0 → Option (D0 × D0)
  | 0, _, _, _, _, _, _, _ => none
  | n + 1, x0, x1, x2, x3, x4, x5, x6 => galoisref02_DivMod.b0 k x0 x1 x2 x3 x4 x5 x6
def galoisref02_DivMod (k : Nat) (a0 a1 : D0) : Option (D0 × D0) :=
  galoisref02_DivMod.top k (galoisref02_DivMod.l0 k k) a0 a1

def galoisref03_Floor (k : Nat) (a0 : D1) : Option D0 :=
  (galoisref03_denominator a0).bind fun t1 => (galoisref02_DivMod k a0.1 t1).bind fun pt2 => some pt2.1

def galoisref03_Inverse (a0 : D1) : Option D1 :=
  bif a0.1.2.toList == (⟨#[]⟩ : ByteArray).toList then (some a0) else (some ((a0.1.1, a0.2), a0.1.2))

def galoisref03_Div (k : Nat) (a0 a1 : D1) : Option D1 :=
  (galoisref03_Inverse a1).bind fun t1 => (galoisref03_Mul k a0 t1).bind fun t2 => some t2

def galoisref19_Down (k : Nat) (a0 : D1) (a1 : Int) : Option D1 :=
  (galoisref19_Two a1).bind fun t1 => (galoisref03_Mul k a0 t1).bind fun t2 => (galoisref03_Floor k t2).bind fun t3 => (galoisref03_Whole t3).bind fun t4 => (galoisref03_Div k t4 t1).bind fun t5 => some t5
def galoisref02_Neg (a0 : D0) : Option D0 :=
  (galoisref02_Make (!a0.1) a0.2).bind fun t1 => some t1
def galoisref02_Neg.note : Note := { cert := .none }
def galoisref02_Neg.orc {β : Type} : Oracle β := orcOf [(180, galoisref02_Make.C)]
def galoisref02_Neg.C {β : Type} : Fun β := cN [.d Y0] (rsR [.d Y0]) (galoisref02_Neg)
def galoisref03_Neg (a0 : D1) : Option D1 :=
  (galoisref02_Neg a0.1).bind fun t1 => some (t1, a0.2)
def galoisref03_Neg.note : Note := { cert := .none }
def galoisref03_Neg.orc {β : Type} : Oracle β := orcOf [(185, galoisref02_Neg.C)]
def galoisref03_Neg.C {β : Type} : Fun β := cN [.d Y1] (rsR [.d Y1]) (galoisref03_Neg)

def galoisref19_Up (k : Nat) (a0 : D1) (a1 : Int) : Option D1 :=
  (galoisref03_Neg a0).bind fun t1 => (galoisref19_Down k t1 a1).bind fun t2 => (galoisref03_Neg t2).bind fun t3 => some t3

def galoisref19_Around (k : Nat) (a0 : D1) (a1 : Int) : Option D2 :=
  (galoisref19_Down k a0 a1).bind fun t1 => (galoisref19_Up k a0 a1).bind fun t2 => (galoisref19_Make t1 t2).bind fun t3 => some t3
def galoisref02_Add (k : Nat) (a0 a1 : D0) : Option D0 :=
  bif a0.1 == a1.1 then ((galoisref01_Add k a0.2 a1.2).bind fun t1 => (galoisref02_Make a0.1 t1).bind fun t2 => some t2) else ((galoisref01_Compare k a0.2 a1.2).bind fun t3 => bif decide (0 ≤ t3) then ((galoisref01_Sub k a0.2 a1.2).bind fun t4 => (galoisref02_Make a0.1 t4).bind fun t5 => some t5) else ((galoisref01_Sub k a1.2 a0.2).bind fun t6 => (galoisref02_Make a1.1 t6).bind fun t7 => some t7))
def galoisref02_Add.note : Note := { cert := .none }
def galoisref02_Add.orc {β : Type} (k : Nat) : Oracle β := orcOf [(181, galoisref01_Add.C k), (180, galoisref02_Make.C), (182, galoisref01_Compare.C k), (183, galoisref01_Sub.C k)]
def galoisref02_Add.C {β : Type} (k : Nat) : Fun β := cN [.d Y0, .d Y0] (rsR [.d Y0]) (galoisref02_Add k)
def galoisref03_Add.top (k : Nat) (j0 : Bool → D1 → D1 → D1 → Option D1) (a0 a1 : D1) : Option D1 :=
  bif a0.2.toList == (⟨#[1]⟩ : ByteArray).toList then (j0 (a1.2.toList == (⟨#[1]⟩ : ByteArray).toList) a0 a1 ((false, (⟨#[]⟩ : ByteArray)), (⟨#[]⟩ : ByteArray))) else (j0 false a0 a1 ((false, (⟨#[]⟩ : ByteArray)), (⟨#[]⟩ : ByteArray)))
def galoisref03_Add.b0 (k : Nat) (x0 : Bool) (x1 x2 x3 : D1) : Option D1 :=
  bif x0 then ((galoisref02_Add k x1.1 x2.1).bind fun t1 => (galoisref03_Whole t1).bind fun t2 => some t2) else ((galoisref03_denominator x2).bind fun t3 => (galoisref02_Mul k x1.1 t3).bind fun t4 => (galoisref03_denominator x1).bind fun t5 => (galoisref02_Mul k x2.1 t5).bind fun t6 => (galoisref02_Add k t4 t6).bind fun t7 => (galoisref03_denominator x1).bind fun t8 => (galoisref03_denominator x2).bind fun t9 => (galoisref02_Mul k t8 t9).bind fun t10 => (galoisref03_Make k t7 t10).bind fun t11 => some t11)
def galoisref03_Add.l0 (k : Nat) : Nat → Bool → D1 → D1 → D1 → Option D1
  | 0, _, _, _, _ => none
  | n + 1, x0, x1, x2, x3 => galoisref03_Add.b0 k x0 x1 x2 x3
def galoisref03_Add (k : Nat) (a0 a1 : D1) : Option D1 :=
  galoisref03_Add.top k (galoisref03_Add.l0 k k) a0 a1
def galoisref03_Add.note : Note := { cert := (.two .none (.two (.two (.lab 0 [2, 3, 4, 13] [] [] .none) .none) .none)) }
def galoisref03_Add.orc {β : Type} (k : Nat) : Oracle β := orcOf [(128, galoisref02_Add.C k), (127, galoisref03_Whole.C), (130, galoisref03_denominator.C), (129, galoisref02_Mul.C k), (131, galoisref03_Make.C k)]
def galoisref03_Add.s0 (L : Labels D1) (x0 : Bool) (x1 x2 x3 : D1) : Option D1 := L 0 (mkE 38 0 [(2, .ptr 2 Y1 []), (3, .ptr 3 Y1 []), (4, .ptr 4 Y1 []), (13, .data .bool x0)]) (ofList [.dead, .dead, .var true Y1 (.data Y1 x1), .var true Y1 (.data Y1 x2), .var true Y1 (.data Y1 x3)]) 5
def galoisref03_Add.C {β : Type} (k : Nat) : Fun β := cN [.d Y1, .d Y1] (rsR [.d Y1]) (galoisref03_Add k)

def galoisref19_Add (k : Nat) (a0 a1 : D2) : Option D2 :=
  (galoisref03_Add k a0.1 a1.1).bind fun t1 => (galoisref03_Add k a0.2 a1.2).bind fun t2 => (galoisref19_Make t1 t2).bind fun t3 => some t3

def galoisref19_Round (k : Nat) (a0 : D2) (a1 : Int) : Option D2 :=
  (galoisref19_Down k a0.1 a1).bind fun t1 => (galoisref19_Up k a0.2 a1).bind fun t2 => (galoisref19_Make t1 t2).bind fun t3 => some t3

def galoisref19_EvalPoly.top (k : Nat) (j0 : Int → Int → (List D1) → D2 → D2 → D2 → Option D2) (a0 : List D1) (a1 : D2) (a2 : Int) : Option D2 :=
  (galoisref19_Zero k).bind fun t1 => j0 a2 (IntKind.wrap .i64 ((a0.length : Int) - 1)) a0 a1 (((false, (⟨#[]⟩ : ByteArray)), (⟨#[]⟩ : ByteArray)), ((false, (⟨#[]⟩ : ByteArray)), (⟨#[]⟩ : ByteArray))) t1
def galoisref19_EvalPoly.b0 (k : Nat) (j0 : Int → Int → (List D1) → D2 → D2 → D2 → Option D2) (x0 x1 : Int) (l2 : List D1) (x3 x4 x5 : D2) : Option D2 :=
  bif decide (0 ≤ x1) then ((galoisref19_Mul k x5 x3).bind fun t2 => if 0 ≤ x1 ∧ x1 < (l2.length : Int) then ((galoisref19_Around k (List.getD l2 (Int.toNat x1) ((false, (⟨#[]⟩ : ByteArray)), (⟨#[]⟩ : ByteArray))) x0).bind fun t3 => (galoisref19_Add k t2 t3).bind fun t4 => (galoisref19_Round k t4 x0).bind fun t5 => j0 x0 (IntKind.wrap .i64 (x1 - 1)) l2 x3 x4 t5) else none) else (some x5)
def galoisref19_EvalPoly.l0 (k : Nat) : Nat → Int → Int → (List D1) → D2 → D2 → D2 → Option D2
  | 0, _, _, _, _, _, _ => none
  | n + 1, x0, x1, l2, x3, x4, x5 => galoisref19_EvalPoly.b0 k (galoisref19_EvalPoly.l0 k n) x0 x1 l2 x3 x4 x5
def galoisref19_EvalPoly (k : Nat) (a0 : List D1) (a1 : D2) (a2 : Int) : Option D2 :=
  galoisref19_EvalPoly.top k (galoisref19_EvalPoly.l0 k k) a0 a1 a2

def galoisref19_large (a0 : D1) : Option Bool :=
  bif decide (1024 < (a0.1.2.size : Int)) then (some true) else (some (decide (1024 < (a0.2.size : Int))))

def galoisref19_Large (a0 : D2) : Option Int :=
  (galoisref19_large a0.1).bind fun t1 => bif t1 then (some 4) else ((galoisref19_large a0.2).bind fun t2 => bif t2 then (some 4) else (some 0))

def enclosure_Round (k : Nat) (a0 : D2) (a1 : Int) : Option (D2 × Int) :=
  (enclosure_Check k a0).bind fun t1 => (enclosure_grid a1).bind fun t2 => (enclosure_first k ([t1, t2] : List Int)).bind fun t3 => bif !decide (t3 = 0) then (some ((((false, (⟨#[]⟩ : ByteArray)), (⟨#[]⟩ : ByteArray)), ((false, (⟨#[]⟩ : ByteArray)), (⟨#[]⟩ : ByteArray))), t3)) else ((ival_Round k a0 a1).bind fun t4 => (enclosure_interval t4).bind fun pt5 => some (pt5.1, pt5.2))
def enclosure_Add (k : Nat) (a0 a1 : D2) : Option (D2 × Int) :=
  (enclosure_Check k a0).bind fun t1 => (enclosure_Check k a1).bind fun t2 => (enclosure_first k ([t1, t2] : List Int)).bind fun t3 => bif !decide (t3 = 0) then (some ((((false, (⟨#[]⟩ : ByteArray)), (⟨#[]⟩ : ByteArray)), ((false, (⟨#[]⟩ : ByteArray)), (⟨#[]⟩ : ByteArray))), t3)) else ((ival_Add k a0 a1).bind fun t4 => (enclosure_interval t4).bind fun pt5 => some (pt5.1, pt5.2))
def enclosure_Add.note : Note := { cert := .none }
def enclosure_Add.orc {β : Type} (k : Nat) : Oracle β := orcOf [(13, enclosure_Check.C k), (96, enclosure_first.C k), (121, ival_Add.C k), (108, enclosure_interval.C)]
def enclosure_Add.C {β : Type} (k : Nat) : Fun β := cN [.d Y2, .d Y2] (rsR [.d Y2, .d (.int .i64)]) (enclosure_Add k)
def enclosure_Sub (k : Nat) (a0 a1 : D2) : Option (D2 × Int) :=
  (enclosure_Check k a0).bind fun t1 => (enclosure_Check k a1).bind fun t2 => (enclosure_first k ([t1, t2] : List Int)).bind fun t3 => bif !decide (t3 = 0) then (some ((((false, (⟨#[]⟩ : ByteArray)), (⟨#[]⟩ : ByteArray)), ((false, (⟨#[]⟩ : ByteArray)), (⟨#[]⟩ : ByteArray))), t3)) else ((ival_Sub k a0 a1).bind fun t4 => (enclosure_interval t4).bind fun pt5 => some (pt5.1, pt5.2))
def enclosure_Sub.note : Note := { cert := .none }
def enclosure_Sub.orc {β : Type} (k : Nat) : Oracle β := orcOf [(13, enclosure_Check.C k), (96, enclosure_first.C k), (122, ival_Sub.C k), (108, enclosure_interval.C)]
def enclosure_Sub.C {β : Type} (k : Nat) : Fun β := cN [.d Y2, .d Y2] (rsR [.d Y2, .d (.int .i64)]) (enclosure_Sub k)
def galoisref03_Sub (k : Nat) (a0 a1 : D1) : Option D1 :=
  (galoisref03_Neg a1).bind fun t1 => (galoisref03_Add k a0 t1).bind fun t2 => some t2
def galoisref03_Sub.note : Note := { cert := .none }
def galoisref03_Sub.orc {β : Type} (k : Nat) : Oracle β := orcOf [(132, galoisref03_Neg.C), (48, galoisref03_Add.C k)]
def galoisref03_Sub.C {β : Type} (k : Nat) : Fun β := cN [.d Y1, .d Y1] (rsR [.d Y1]) (galoisref03_Sub k)

def galoisref19_Sub (k : Nat) (a0 a1 : D2) : Option D2 :=
  (galoisref03_Sub k a0.1 a1.2).bind fun t1 => (galoisref03_Sub k a0.2 a1.1).bind fun t2 => (galoisref19_Make t1 t2).bind fun t3 => some t3

def galoisref19_Square.top (k : Nat) (j0 : Bool → D2 → D2 → Option D2) (a0 : D2) : Option D2 :=
  (galoisref03_Mul k a0.1 a0.1).bind fun t1 => (galoisref03_Mul k a0.2 a0.2).bind fun t2 => (galoisref19_Span k ([t1, t2] : List D1)).bind fun t3 => (galoisref03_Sign a0.1).bind fun t4 => bif decide (t4 ≤ 0) then ((galoisref03_Sign a0.2).bind fun t5 => j0 (decide (0 ≤ t5)) (((false, (⟨#[]⟩ : ByteArray)), (⟨#[]⟩ : ByteArray)), ((false, (⟨#[]⟩ : ByteArray)), (⟨#[]⟩ : ByteArray))) t3) else (j0 false (((false, (⟨#[]⟩ : ByteArray)), (⟨#[]⟩ : ByteArray)), ((false, (⟨#[]⟩ : ByteArray)), (⟨#[]⟩ : ByteArray))) t3)
def galoisref19_Square.b0 (k : Nat) (x0 : Bool) (x1 x2 : D2) : Option D2 :=
  bif x0 then ((galoisref03_Of k 0 1).bind fun t6 => some (t6, x2.2)) else (some x2)
def galoisref19_Square.l0 (k : Nat) : Nat → Bool → D2 → D2 → Option D2
  | 0, _, _, _ => none
  | n + 1, x0, x1, x2 => galoisref19_Square.b0 k x0 x1 x2
def galoisref19_Square (k : Nat) (a0 : D2) : Option D2 :=
  galoisref19_Square.top k (galoisref19_Square.l0 k k) a0
def galoislaw19_at (k : Nat) (a0 : D2) (a1 : Int) : Option D1 :=
  (galoisref03_Sub k a0.2 a0.1).bind fun t1 => (galoisref03_Of k (IntKind.wrap .i64 (Int.tmod a1 17)) 16).bind fun t2 => (galoisref03_Mul k t1 t2).bind fun t3 => (galoisref03_Add k a0.1 t3).bind fun t4 => some t4
def galoislaw19_at.note : Note := { cert := .none }
def galoislaw19_at.orc {β : Type} (k : Nat) : Oracle β := orcOf [(49, galoisref03_Sub.C k), (101, galoisref03_Of.C k), (50, galoisref03_Mul.C k), (48, galoisref03_Add.C k)]
def galoislaw19_at.C {β : Type} (k : Nat) : Fun β := cN [.d Y2, .d (.int .u8)] (rsR [.d Y1]) (galoislaw19_at k)
def enclosure_Contains (k : Nat) (a0 : D2) (a1 : D1) : Option (Bool × Int) :=
  (enclosure_Check k a0).bind fun t1 => (rational_Check k a1).bind fun t2 => (enclosure_first k ([t1, t2] : List Int)).bind fun t3 => bif !decide (t3 = 0) then (some (false, t3)) else ((ival_Contains k a0 a1).bind fun t4 => some (t4, 0))
def enclosure_Contains.note : Note := { cert := .none }
def enclosure_Contains.orc {β : Type} (k : Nat) : Oracle β := orcOf [(13, enclosure_Check.C k), (97, rational_Check.C k), (96, enclosure_first.C k), (151, ival_Contains.C k)]
def enclosure_Contains.C {β : Type} (k : Nat) : Fun β := cN [.d Y2, .d Y1] (rsR [.d .bool, .d (.int .i64)]) (enclosure_Contains k)
def galoislaw19_has (k : Nat) (a0 : D2) (a1 : Int) (a2 : D1) : Option Bool :=
  (enclosure_Contains k a0 a2).bind fun pt1 => bif decide (a1 = 0) then (bif decide (pt1.2 = 0) then (some pt1.1) else (some false)) else (some false)
def galoislaw19_has.note : Note := { cert := .none }
def galoislaw19_has.orc {β : Type} (k : Nat) : Oracle β := orcOf [(91, enclosure_Contains.C k)]
def galoislaw19_has.C {β : Type} (k : Nat) : Fun β := cN [.d Y2, .d (.int .i64), .d Y1] (rsR [.d .bool]) (galoislaw19_has k)
def galoisref06_Eval.top (k : Nat) (j0 : Int → (List D1) → D1 → D1 → D1 → Option D1) (a0 : List D1) (a1 : D1) : Option D1 :=
  (galoisref03_FromInt k 0).bind fun t1 => j0 (IntKind.wrap .i64 ((a0.length : Int) - 1)) a0 a1 ((false, (⟨#[]⟩ : ByteArray)), (⟨#[]⟩ : ByteArray)) t1
def galoisref06_Eval.b0 (k : Nat) (j0 : Int → (List D1) → D1 → D1 → D1 → Option D1) (x0 : Int) (l1 : List D1) (x2 x3 x4 : D1) : Option D1 :=
  bif decide (0 ≤ x0) then ((galoisref03_Mul k x4 x2).bind fun t2 => if 0 ≤ x0 ∧ x0 < (l1.length : Int) then ((galoisref03_Add k t2 (List.getD l1 (Int.toNat x0) ((false, (⟨#[]⟩ : ByteArray)), (⟨#[]⟩ : ByteArray)))).bind fun t3 => j0 (IntKind.wrap .i64 (x0 - 1)) l1 x2 x3 t3) else none) else (some x4)
def galoisref06_Eval.l0 (k : Nat) : Nat → Int → (List D1) → D1 → D1 → D1 → Option D1
  | 0, _, _, _, _, _ => none
  | n + 1, x0, l1, x2, x3, x4 => galoisref06_Eval.b0 k (galoisref06_Eval.l0 k n) x0 l1 x2 x3 x4
def galoisref06_Eval (k : Nat) (a0 : List D1) (a1 : D1) : Option D1 :=
  galoisref06_Eval.top k (galoisref06_Eval.l0 k k) a0 a1
def galoisref06_Eval.note : Note := { cert := (.two .none (.two .none (.two (.two .none (.one (.lab 0 [0, 3, 4, 5, 6] [] [] .none))) .none))) }
def galoisref06_Eval.orc {β : Type} (k : Nat) : Oracle β := orcOf [(61, galoisref03_FromInt.C k), (50, galoisref03_Mul.C k), (48, galoisref03_Add.C k)]
def galoisref06_Eval.s0 (L : Labels D1) (x0 : Int) (l1 : List D1) (x2 x3 x4 : D1) : Option D1 := L 0 (mkE 24 0 [(0, .own 0), (3, .ptr 2 Y1 []), (4, .ptr 3 Y1 []), (5, .ptr 4 Y1 []), (6, .data (.int .i64) x0)]) (ofList [.arr .ro Y1 l1, .dead, .var true Y1 (.data Y1 x2), .var true Y1 (.data Y1 x3), .var true Y1 (.data Y1 x4)]) 5
def galoisref06_Eval.C {β : Type} (k : Nat) : Fun β := cN [.d (.slice Y1), .d Y1] (rsR [.d Y1]) (galoisref06_Eval k)
def galoislaw19_EnclosureContains.top (k : Nat) (j0 : Bool → (List D1) → D4 → D2 → D2 → Option Bool) (a0 : List D1) (a1 : List D2) (a2 : D4) : Option Bool :=
  (galoisref19_Few (List.getD a1 0 (((false, (⟨#[]⟩ : ByteArray)), (⟨#[]⟩ : ByteArray)), ((false, (⟨#[]⟩ : ByteArray)), (⟨#[]⟩ : ByteArray))))).bind fun t1 => bif !t1 then (j0 true a0 a2 (List.getD a1 0 (((false, (⟨#[]⟩ : ByteArray)), (⟨#[]⟩ : ByteArray)), ((false, (⟨#[]⟩ : ByteArray)), (⟨#[]⟩ : ByteArray)))) (List.getD a1 1 (((false, (⟨#[]⟩ : ByteArray)), (⟨#[]⟩ : ByteArray)), ((false, (⟨#[]⟩ : ByteArray)), (⟨#[]⟩ : ByteArray))))) else ((galoisref19_Few (List.getD a1 1 (((false, (⟨#[]⟩ : ByteArray)), (⟨#[]⟩ : ByteArray)), ((false, (⟨#[]⟩ : ByteArray)), (⟨#[]⟩ : ByteArray))))).bind fun t26 => bif !t26 then (j0 true a0 a2 (List.getD a1 0 (((false, (⟨#[]⟩ : ByteArray)), (⟨#[]⟩ : ByteArray)), ((false, (⟨#[]⟩ : ByteArray)), (⟨#[]⟩ : ByteArray)))) (List.getD a1 1 (((false, (⟨#[]⟩ : ByteArray)), (⟨#[]⟩ : ByteArray)), ((false, (⟨#[]⟩ : ByteArray)), (⟨#[]⟩ : ByteArray))))) else ((galoisref19_Check k (List.getD a1 0 (((false, (⟨#[]⟩ : ByteArray)), (⟨#[]⟩ : ByteArray)), ((false, (⟨#[]⟩ : ByteArray)), (⟨#[]⟩ : ByteArray))))).bind fun t27 => bif !decide (t27 = 0) then (j0 true a0 a2 (List.getD a1 0 (((false, (⟨#[]⟩ : ByteArray)), (⟨#[]⟩ : ByteArray)), ((false, (⟨#[]⟩ : ByteArray)), (⟨#[]⟩ : ByteArray)))) (List.getD a1 1 (((false, (⟨#[]⟩ : ByteArray)), (⟨#[]⟩ : ByteArray)), ((false, (⟨#[]⟩ : ByteArray)), (⟨#[]⟩ : ByteArray))))) else ((galoisref19_Check k (List.getD a1 1 (((false, (⟨#[]⟩ : ByteArray)), (⟨#[]⟩ : ByteArray)), ((false, (⟨#[]⟩ : ByteArray)), (⟨#[]⟩ : ByteArray))))).bind fun t28 => bif !decide (t28 = 0) then (j0 true a0 a2 (List.getD a1 0 (((false, (⟨#[]⟩ : ByteArray)), (⟨#[]⟩ : ByteArray)), ((false, (⟨#[]⟩ : ByteArray)), (⟨#[]⟩ : ByteArray)))) (List.getD a1 1 (((false, (⟨#[]⟩ : ByteArray)), (⟨#[]⟩ : ByteArray)), ((false, (⟨#[]⟩ : ByteArray)), (⟨#[]⟩ : ByteArray))))) else ((galoisref19_FewPoly k a0).bind fun t29 => bif !t29 then (j0 true a0 a2 (List.getD a1 0 (((false, (⟨#[]⟩ : ByteArray)), (⟨#[]⟩ : ByteArray)), ((false, (⟨#[]⟩ : ByteArray)), (⟨#[]⟩ : ByteArray)))) (List.getD a1 1 (((false, (⟨#[]⟩ : ByteArray)), (⟨#[]⟩ : ByteArray)), ((false, (⟨#[]⟩ : ByteArray)), (⟨#[]⟩ : ByteArray))))) else ((galoisref19_Poly k a0).bind fun t30 => j0 (!decide (t30 = 0)) a0 a2 (List.getD a1 0 (((false, (⟨#[]⟩ : ByteArray)), (⟨#[]⟩ : ByteArray)), ((false, (⟨#[]⟩ : ByteArray)), (⟨#[]⟩ : ByteArray)))) (List.getD a1 1 (((false, (⟨#[]⟩ : ByteArray)), (⟨#[]⟩ : ByteArray)), ((false, (⟨#[]⟩ : ByteArray)), (⟨#[]⟩ : ByteArray)))))))))
def galoislaw19_EnclosureContains.b0 (k : Nat) (j1 : Int → Bool → (List D1) → D1 → D2 → Option Bool) (x0 : Bool) (l1 : List D1) (x2 : D4) (x3 x4 : D2) : Option Bool :=
  bif x0 then ((awakeT).bind fun t2 => some t2) else ((galoislaw19_at k x3 x2.1).bind fun t3 => (galoislaw19_at k x4 x2.2.1).bind fun t4 => (enclosure_Add k x3 x4).bind fun pt5 => (enclosure_Sub k x3 x4).bind fun pt7 => (enclosure_Mul k x3 x4).bind fun pt9 => (enclosure_Square k x3).bind fun pt11 => (enclosure_EvalPoly k l1 x3 (Int.tmod (IntKind.wrap .i64 (x2.2.2)) 80)).bind fun pt13 => (galoisref03_Add k t3 t4).bind fun t15 => (galoislaw19_has k pt5.1 pt5.2 t15).bind fun t16 => bif !t16 then (j1 pt13.2 true l1 t3 pt13.1) else ((galoisref03_Sub k t3 t4).bind fun t20 => (galoislaw19_has k pt7.1 pt7.2 t20).bind fun t21 => bif !t21 then (j1 pt13.2 true l1 t3 pt13.1) else ((galoisref03_Mul k t3 t4).bind fun t22 => (galoislaw19_has k pt9.1 pt9.2 t22).bind fun t23 => bif !t23 then (j1 pt13.2 true l1 t3 pt13.1) else ((galoisref03_Mul k t3 t3).bind fun t24 => (galoislaw19_has k pt11.1 pt11.2 t24).bind fun t25 => j1 pt13.2 (!t25) l1 t3 pt13.1))))
def galoislaw19_EnclosureContains.b1 (k : Nat) (x0 : Int) (x1 : Bool) (l2 : List D1) (x3 : D1) (x4 : D2) : Option Bool :=
  bif x1 then (some false) else ((galoisref06_Eval k l2 x3).bind fun t17 => (galoislaw19_has k x4 x0 t17).bind fun t18 => bif t18 then ((awakeT).bind fun t19 => some t19) else (some false))
mutual
def galoislaw19_EnclosureContains.l0 (k : Nat) : Nat → Bool → (List D1) → D4 → D2 → D2 → Option Bool
  | 0, _, _, _, _, _ => none
  | n + 1, x0, l1, x2, x3, x4 => galoislaw19_EnclosureContains.b0 k (galoislaw19_EnclosureContains.l1 k n) x0 l1 x2 x3 x4
def galoislaw19_EnclosureContains.l1 (k : Nat) : Nat → Int → Bool → (List D1) → D1 → D2 → Option Bool
  | 0, _, _, _, _, _ => none
  | n + 1, x0, x1, l2, x3, x4 => galoislaw19_EnclosureContains.b1 k x0 x1 l2 x3 x4
end
def galoislaw19_EnclosureContains (k : Nat) (a0 : List D1) (a1 : List D2) (a2 : D4) : Option Bool :=
  galoislaw19_EnclosureContains.top k (galoislaw19_EnclosureContains.l0 k k) a0 a1 a2
def galoislaw19_EnclosureContains.note : Note := { cert := (.two .none (.two .none (.two (.two (.lab 0 [0, 5, 7, 8, 52] [] [] .none) .none) (.two .none (.two .none (.two .none (.two .none (.two .none (.two .none (.two (.two (.lab 1 [0, 9, 19, 20, 128] [] [] .none) .none) .none)))))))))) }
def galoislaw19_EnclosureContains.orc {β : Type} (k : Nat) : Oracle β := orcOf [(19, galoisref19_Few.C), (17, awakeT.C), (46, galoislaw19_at.C k), (34, enclosure_Add.C k), (35, enclosure_Sub.C k), (36, enclosure_Mul.C k), (37, enclosure_Square.C k), (20, enclosure_EvalPoly.C k), (48, galoisref03_Add.C k), (47, galoislaw19_has.C k), (51, galoisref06_Eval.C k), (49, galoisref03_Sub.C k), (50, galoisref03_Mul.C k), (14, galoisref19_Check.C k), (18, galoisref19_FewPoly.C k), (22, galoisref19_Poly.C k)]
def galoislaw19_EnclosureContains.s0 (L : Labels Bool) (x0 : Bool) (l1 : List D1) (x2 : D4) (x3 x4 : D2) : Option Bool := L 0 (mkE 138 0 [(0, .own 0), (5, .ptr 3 Y4 []), (7, .ptr 4 Y2 []), (8, .ptr 5 Y2 []), (52, .data .bool x0)]) (ofList [.arr .ro Y1 l1, .dead, .dead, .var true Y4 (.data Y4 x2), .var true Y2 (.data Y2 x3), .var true Y2 (.data Y2 x4)]) 6
def galoislaw19_EnclosureContains.s1 (L : Labels Bool) (x0 : Int) (x1 : Bool) (l2 : List D1) (x3 : D1) (x4 : D2) : Option Bool := L 1 (mkE 138 0 [(0, .own 0), (9, .ptr 3 Y1 []), (19, .ptr 4 Y2 []), (20, .data (.int .i64) x0), (128, .data .bool x1)]) (ofList [.arr .ro Y1 l2, .dead, .dead, .var true Y1 (.data Y1 x3), .var true Y2 (.data Y2 x4)]) 5
def galoislaw19_EnclosureContains.C {β : Type} (k : Nat) : Fun β := cN [.d (.slice Y1), .d (.arr 2 Y2), .d Y4] (rsR [.d .bool]) (galoislaw19_EnclosureContains k)

def galoisref19_FewBox (a0 : D3) : Option Bool :=
  (galoisref19_Few a0.1).bind fun t1 => bif t1 then ((galoisref19_Few a0.2).bind fun t2 => some t2) else (some false)

def ival_Real (k : Nat) (a0 : D2) : Option D3 :=
  (ival_Zero k).bind fun t1 => some (a0, t1)

def ival_parts_of (k : Nat) (a1 a2 : D3) : Option D3 :=
  (ival_Add k a1.1 a2.1).bind fun t1 => (ival_Add k a1.2 a2.2).bind fun t2 => some (t1, t2)

def ival_AddBox (k : Nat) (a0 a1 : D3) : Option D3 :=
  (ival_parts_of k a0 a1).bind fun t1 => some t1

def ival_RoundBox_1 (k : Nat) (a0 a1 : D2) (a2 : Int) : Option D2 :=
  (ival_Round k a0 a2).bind fun t1 => some t1

def ival_parts_of_v2 (k : Nat) (a0_0_0 : Int) (a1 a2 : D3) : Option D3 :=
  (ival_RoundBox_1 k a1.1 a2.1 a0_0_0).bind fun t1 => (ival_RoundBox_1 k a1.2 a2.2 a0_0_0).bind fun t2 => some (t1, t2)

def ival_RoundBox (k : Nat) (a0 : D3) (a1 : Int) : Option D3 :=
  (ival_parts_of_v2 k a1 a0 a0).bind fun t1 => some t1

def ival_EvalBox.top (k : Nat) (j0 : Int → Int → (List D1) → D3 → D3 → D3 → Option D3) (a0 : List D1) (a1 : D3) (a2 : Int) : Option D3 :=
  (ival_Zero k).bind fun t1 => (ival_Real k t1).bind fun t2 => j0 a2 (IntKind.wrap .i64 ((a0.length : Int) - 1)) a0 a1 ((((false, (⟨#[]⟩ : ByteArray)), (⟨#[]⟩ : ByteArray)), ((false, (⟨#[]⟩ : ByteArray)), (⟨#[]⟩ : ByteArray))), (((false, (⟨#[]⟩ : ByteArray)), (⟨#[]⟩ : ByteArray)), ((false, (⟨#[]⟩ : ByteArray)), (⟨#[]⟩ : ByteArray)))) t2
def ival_EvalBox.b0 (k : Nat) (j0 : Int → Int → (List D1) → D3 → D3 → D3 → Option D3) (x0 x1 : Int) (l2 : List D1) (x3 x4 x5 : D3) : Option D3 :=
  bif decide (0 ≤ x1) then ((ival_MulBox k x5 x3).bind fun t3 => if 0 ≤ x1 ∧ x1 < (l2.length : Int) then ((ival_Around k (List.getD l2 (Int.toNat x1) ((false, (⟨#[]⟩ : ByteArray)), (⟨#[]⟩ : ByteArray))) x0).bind fun t4 => (ival_Real k t4).bind fun t5 => (ival_AddBox k t3 t5).bind fun t6 => (ival_RoundBox k t6 x0).bind fun t7 => j0 x0 (IntKind.wrap .i64 (x1 - 1)) l2 x3 x4 t7) else none) else (some x5)
def ival_EvalBox.l0 (k : Nat) : Nat → Int → Int → (List D1) → D3 → D3 → D3 → Option D3
  | 0, _, _, _, _, _, _ => none
  | n + 1, x0, x1, l2, x3, x4, x5 => ival_EvalBox.b0 k (ival_EvalBox.l0 k n) x0 x1 l2 x3 x4 x5
def ival_EvalBox (k : Nat) (a0 : List D1) (a1 : D3) (a2 : Int) : Option D3 :=
  ival_EvalBox.top k (ival_EvalBox.l0 k k) a0 a1 a2

def enclosure_EvalBox (k : Nat) (a0 : List D1) (a1 : D3) (a2 : Int) : Option (D3 × Int) :=
  (qpoly_Check k a0).bind fun t1 => (enclosure_CheckBox k a1).bind fun t2 => (enclosure_grid a2).bind fun t3 => (enclosure_first k ([t1, t2, t3] : List Int)).bind fun t4 => bif !decide (t4 = 0) then (some (((((false, (⟨#[]⟩ : ByteArray)), (⟨#[]⟩ : ByteArray)), ((false, (⟨#[]⟩ : ByteArray)), (⟨#[]⟩ : ByteArray))), (((false, (⟨#[]⟩ : ByteArray)), (⟨#[]⟩ : ByteArray)), ((false, (⟨#[]⟩ : ByteArray)), (⟨#[]⟩ : ByteArray)))), t4)) else ((ival_EvalBox k a0 a1 a2).bind fun t5 => (enclosure_box t5).bind fun pt6 => some (pt6.1, pt6.2))

def galoisref19_MulBox (k : Nat) (a0 a1 : D3) : Option D3 :=
  (galoisref19_Mul k a0.1 a1.1).bind fun t1 => (galoisref19_Mul k a0.2 a1.2).bind fun t2 => (galoisref19_Sub k t1 t2).bind fun t3 => (galoisref19_Mul k a0.1 a1.2).bind fun t4 => (galoisref19_Mul k a0.2 a1.1).bind fun t5 => (galoisref19_Add k t4 t5).bind fun t6 => some (t3, t6)

def galoisref19_AddBox (k : Nat) (a0 a1 : D3) : Option D3 :=
  (galoisref19_Add k a0.1 a1.1).bind fun t1 => (galoisref19_Add k a0.2 a1.2).bind fun t2 => some (t1, t2)

def galoisref19_RoundBox (k : Nat) (a0 : D3) (a1 : Int) : Option D3 :=
  (galoisref19_Round k a0.1 a1).bind fun t1 => (galoisref19_Round k a0.2 a1).bind fun t2 => some (t1, t2)

def galoisref19_EvalBox.top (k : Nat) (j0 : Int → Int → (List D1) → D3 → D3 → D3 → Option D3) (a0 : List D1) (a1 : D3) (a2 : Int) : Option D3 :=
  (galoisref19_Zero k).bind fun t1 => (galoisref19_Zero k).bind fun t2 => j0 a2 (IntKind.wrap .i64 ((a0.length : Int) - 1)) a0 a1 ((((false, (⟨#[]⟩ : ByteArray)), (⟨#[]⟩ : ByteArray)), ((false, (⟨#[]⟩ : ByteArray)), (⟨#[]⟩ : ByteArray))), (((false, (⟨#[]⟩ : ByteArray)), (⟨#[]⟩ : ByteArray)), ((false, (⟨#[]⟩ : ByteArray)), (⟨#[]⟩ : ByteArray)))) (t1, t2)
def galoisref19_EvalBox.b0 (k : Nat) (j0 : Int → Int → (List D1) → D3 → D3 → D3 → Option D3) (x0 x1 : Int) (l2 : List D1) (x3 x4 x5 : D3) : Option D3 :=
  bif decide (0 ≤ x1) then ((galoisref19_MulBox k x5 x3).bind fun t3 => if 0 ≤ x1 ∧ x1 < (l2.length : Int) then ((galoisref19_Around k (List.getD l2 (Int.toNat x1) ((false, (⟨#[]⟩ : ByteArray)), (⟨#[]⟩ : ByteArray))) x0).bind fun t4 => (galoisref19_Zero k).bind fun t5 => (galoisref19_AddBox k t3 (t4, t5)).bind fun t6 => (galoisref19_RoundBox k t6 x0).bind fun t7 => j0 x0 (IntKind.wrap .i64 (x1 - 1)) l2 x3 x4 t7) else none) else (some x5)
def galoisref19_EvalBox.l0 (k : Nat) : Nat → Int → Int → (List D1) → D3 → D3 → D3 → Option D3
  | 0, _, _, _, _, _, _ => none
  | n + 1, x0, x1, l2, x3, x4, x5 => galoisref19_EvalBox.b0 k (galoisref19_EvalBox.l0 k n) x0 x1 l2 x3 x4 x5
def galoisref19_EvalBox (k : Nat) (a0 : List D1) (a1 : D3) (a2 : Int) : Option D3 :=
  galoisref19_EvalBox.top k (galoisref19_EvalBox.l0 k k) a0 a1 a2

def galoisref19_LargeBox (k : Nat) (a0 : D3) : Option Int :=
  (galoisref19_Large a0.1).bind fun t1 => (galoisref19_Large a0.2).bind fun t2 => (galoisref19_First k ([t1, t2] : List Int)).bind fun t3 => some t3

def exact_Sub (k : Nat) (a0 a1 : D1) : Option D1 :=
  (exact_Neg a1).bind fun t1 => (exact_Add k a0 t1).bind fun t2 => some t2

def ival_Width (k : Nat) (a0 : D2) : Option D1 :=
  (exact_Sub k a0.2 a0.1).bind fun t1 => some t1

def enclosure_number (a0 : D1) : Option (D1 × Int) :=
  (exact_Large a0).bind fun t1 => bif t1 then (some (((false, (⟨#[]⟩ : ByteArray)), (⟨#[]⟩ : ByteArray)), 4)) else (some (a0, 0))

def enclosure_Width (k : Nat) (a0 : D2) : Option (D1 × Int) :=
  (enclosure_Check k a0).bind fun t1 => (enclosure_first k ([t1] : List Int)).bind fun t2 => bif !decide (t2 = 0) then (some (((false, (⟨#[]⟩ : ByteArray)), (⟨#[]⟩ : ByteArray)), t2)) else ((ival_Width k a0).bind fun t3 => (enclosure_number t3).bind fun pt4 => some (pt4.1, pt4.2))

def enclosure_AddBox (k : Nat) (a0 a1 : D3) : Option (D3 × Int) :=
  (enclosure_CheckBox k a0).bind fun t1 => (enclosure_CheckBox k a1).bind fun t2 => (enclosure_first k ([t1, t2] : List Int)).bind fun t3 => bif !decide (t3 = 0) then (some (((((false, (⟨#[]⟩ : ByteArray)), (⟨#[]⟩ : ByteArray)), ((false, (⟨#[]⟩ : ByteArray)), (⟨#[]⟩ : ByteArray))), (((false, (⟨#[]⟩ : ByteArray)), (⟨#[]⟩ : ByteArray)), ((false, (⟨#[]⟩ : ByteArray)), (⟨#[]⟩ : ByteArray)))), t3)) else ((ival_AddBox k a0 a1).bind fun t4 => (enclosure_box t4).bind fun pt5 => some (pt5.1, pt5.2))

def ival_parts_of_v3 (k : Nat) (a1 a2 : D3) : Option D3 :=
  (ival_Sub k a1.1 a2.1).bind fun t1 => (ival_Sub k a1.2 a2.2).bind fun t2 => some (t1, t2)

def ival_SubBox (k : Nat) (a0 a1 : D3) : Option D3 :=
  (ival_parts_of_v3 k a0 a1).bind fun t1 => some t1

def enclosure_SubBox (k : Nat) (a0 a1 : D3) : Option (D3 × Int) :=
  (enclosure_CheckBox k a0).bind fun t1 => (enclosure_CheckBox k a1).bind fun t2 => (enclosure_first k ([t1, t2] : List Int)).bind fun t3 => bif !decide (t3 = 0) then (some (((((false, (⟨#[]⟩ : ByteArray)), (⟨#[]⟩ : ByteArray)), ((false, (⟨#[]⟩ : ByteArray)), (⟨#[]⟩ : ByteArray))), (((false, (⟨#[]⟩ : ByteArray)), (⟨#[]⟩ : ByteArray)), ((false, (⟨#[]⟩ : ByteArray)), (⟨#[]⟩ : ByteArray)))), t3)) else ((ival_SubBox k a0 a1).bind fun t4 => (enclosure_box t4).bind fun pt5 => some (pt5.1, pt5.2))

def ival_ConjugateBox (a0 : D3) : Option D3 :=
  (ival_Neg a0.2).bind fun t1 => some (a0.1, t1)

def enclosure_ConjugateBox (k : Nat) (a0 : D3) : Option (D3 × Int) :=
  (enclosure_CheckBox k a0).bind fun t1 => (enclosure_first k ([t1] : List Int)).bind fun t2 => bif !decide (t2 = 0) then (some (((((false, (⟨#[]⟩ : ByteArray)), (⟨#[]⟩ : ByteArray)), ((false, (⟨#[]⟩ : ByteArray)), (⟨#[]⟩ : ByteArray))), (((false, (⟨#[]⟩ : ByteArray)), (⟨#[]⟩ : ByteArray)), ((false, (⟨#[]⟩ : ByteArray)), (⟨#[]⟩ : ByteArray)))), t2)) else ((ival_ConjugateBox a0).bind fun t3 => (enclosure_box t3).bind fun pt4 => some (pt4.1, pt4.2))

def enclosure_RoundBox (k : Nat) (a0 : D3) (a1 : Int) : Option (D3 × Int) :=
  (enclosure_CheckBox k a0).bind fun t1 => (enclosure_grid a1).bind fun t2 => (enclosure_first k ([t1, t2] : List Int)).bind fun t3 => bif !decide (t3 = 0) then (some (((((false, (⟨#[]⟩ : ByteArray)), (⟨#[]⟩ : ByteArray)), ((false, (⟨#[]⟩ : ByteArray)), (⟨#[]⟩ : ByteArray))), (((false, (⟨#[]⟩ : ByteArray)), (⟨#[]⟩ : ByteArray)), ((false, (⟨#[]⟩ : ByteArray)), (⟨#[]⟩ : ByteArray)))), t3)) else ((ival_RoundBox k a0 a1).bind fun t4 => (enclosure_box t4).bind fun pt5 => some (pt5.1, pt5.2))

def galoisref19_SubBox (k : Nat) (a0 a1 : D3) : Option D3 :=
  (galoisref19_Sub k a0.1 a1.1).bind fun t1 => (galoisref19_Sub k a0.2 a1.2).bind fun t2 => some (t1, t2)

def galoisref19_ConjugateBox (a0 : D3) : Option D3 :=
  (galoisref03_Neg a0.2.2).bind fun t1 => (galoisref03_Neg a0.2.1).bind fun t2 => (galoisref19_Make t1 t2).bind fun t3 => some (a0.1, t3)

def galoisref19_Apart (k : Nat) (a0 a1 : D2) : Option Bool :=
  (galoisref19_Less k a0.2 a1.1).bind fun t1 => bif t1 then (some true) else ((galoisref19_Less k a1.2 a0.1).bind fun t2 => some t2)

def galoisref19_ApartBox (k : Nat) (a0 a1 : D3) : Option Bool :=
  (galoisref19_Apart k a0.1 a1.1).bind fun t1 => bif t1 then (some true) else ((galoisref19_Apart k a0.2 a1.2).bind fun t2 => some t2)

def ival_Apart (k : Nat) (a0 a1 : D2) : Option Bool :=
  bif !(Ty.eqb (.pair Y1 Y1) a0 a1) then ((ival_less k a0.2 a1.1).bind fun t1 => bif t1 then (some true) else ((ival_less k a1.2 a0.1).bind fun t2 => some t2)) else (some false)

def ival_ApartBox (k : Nat) (a0 a1 : D3) : Option Bool :=
  (ival_Apart k a0.1 a1.1).bind fun t1 => bif t1 then (some true) else ((ival_Apart k a0.2 a1.2).bind fun t2 => some t2)

def enclosure_ApartBox (k : Nat) (a0 a1 : D3) : Option (Bool × Int) :=
  (enclosure_CheckBox k a0).bind fun t1 => (enclosure_CheckBox k a1).bind fun t2 => (enclosure_first k ([t1, t2] : List Int)).bind fun t3 => bif !decide (t3 = 0) then (some (false, t3)) else ((ival_ApartBox k a0 a1).bind fun t4 => some (t4, 0))

def ival_Meet.top (k : Nat) (j0 : D2 → D2 → D2 → Option D2) (a0 a1 : D2) : Option D2 :=
  (ival_less k a0.1 a1.1).bind fun t1 => bif t1 then (j0 (a1.1, a0.2) a1 (((false, (⟨#[]⟩ : ByteArray)), (⟨#[]⟩ : ByteArray)), ((false, (⟨#[]⟩ : ByteArray)), (⟨#[]⟩ : ByteArray)))) else (j0 a0 a1 (((false, (⟨#[]⟩ : ByteArray)), (⟨#[]⟩ : ByteArray)), ((false, (⟨#[]⟩ : ByteArray)), (⟨#[]⟩ : ByteArray))))
def ival_Meet.b0 (k : Nat) (x0 x1 x2 : D2) : Option D2 :=
  (ival_less k x1.2 x0.2).bind fun t2 => bif t2 then (some (x0.1, x1.2)) else (some x0)
def ival_Meet.l0 (k : Nat) : Nat → D2 → D2 → D2 → Option D2
  | 0, _, _, _ => none
  | n + 1, x0, x1, x2 => ival_Meet.b0 k x0 x1 x2
def ival_Meet (k : Nat) (a0 a1 : D2) : Option D2 :=
  ival_Meet.top k (ival_Meet.l0 k k) a0 a1

def ival_parts_of_v4 (k : Nat) (a1 a2 : D3) : Option D3 :=
  (ival_Meet k a1.1 a2.1).bind fun t1 => (ival_Meet k a1.2 a2.2).bind fun t2 => some (t1, t2)

def ival_MeetBox (k : Nat) (a0 a1 : D3) : Option D3 :=
  (ival_parts_of_v4 k a0 a1).bind fun t1 => some t1

def enclosure_MeetBox.top (k : Nat) (j0 : Int → Bool → D3 → D3 → D3 → Option (D3 × Int)) (a0 a1 : D3) : Option (D3 × Int) :=
  (enclosure_CheckBox k a0).bind fun t1 => (enclosure_CheckBox k a1).bind fun t2 => (enclosure_first k ([t1, t2] : List Int)).bind fun t3 => bif decide (t3 = 0) then ((ival_ApartBox k a0 a1).bind fun t4 => j0 t3 t4 a0 a1 ((((false, (⟨#[]⟩ : ByteArray)), (⟨#[]⟩ : ByteArray)), ((false, (⟨#[]⟩ : ByteArray)), (⟨#[]⟩ : ByteArray))), (((false, (⟨#[]⟩ : ByteArray)), (⟨#[]⟩ : ByteArray)), ((false, (⟨#[]⟩ : ByteArray)), (⟨#[]⟩ : ByteArray))))) else (j0 t3 false a0 a1 ((((false, (⟨#[]⟩ : ByteArray)), (⟨#[]⟩ : ByteArray)), ((false, (⟨#[]⟩ : ByteArray)), (⟨#[]⟩ : ByteArray))), (((false, (⟨#[]⟩ : ByteArray)), (⟨#[]⟩ : ByteArray)), ((false, (⟨#[]⟩ : ByteArray)), (⟨#[]⟩ : ByteArray)))))
def enclosure_MeetBox.b0 (k : Nat) (j1 : Int → D3 → D3 → D3 → Option (D3 × Int)) (x0 : Int) (x1 : Bool) (x2 x3 x4 : D3) : Option (D3 × Int) :=
  bif x1 then (j1 10 x2 x3 x4) else (j1 x0 x2 x3 x4)
def enclosure_MeetBox.b1 (k : Nat) (x0 : Int) (x1 x2 x3 : D3) : Option (D3 × Int) :=
  bif !decide (x0 = 0) then (some (((((false, (⟨#[]⟩ : ByteArray)), (⟨#[]⟩ : ByteArray)), ((false, (⟨#[]⟩ : ByteArray)), (⟨#[]⟩ : ByteArray))), (((false, (⟨#[]⟩ : ByteArray)), (⟨#[]⟩ : ByteArray)), ((false, (⟨#[]⟩ : ByteArray)), (⟨#[]⟩ : ByteArray)))), x0)) else ((ival_MeetBox k x1 x2).bind fun t5 => (enclosure_box t5).bind fun pt6 => some (pt6.1, pt6.2))
mutual
def enclosure_MeetBox.l0 (k : Nat) : Nat → Int → Bool → D3 → D3 → D3 → Option (D3 × Int)
  | 0, _, _, _, _, _ => none
  | n + 1, x0, x1, x2, x3, x4 => enclosure_MeetBox.b0 k (enclosure_MeetBox.l1 k n) x0 x1 x2 x3 x4
def enclosure_MeetBox.l1 (k : Nat) : Nat → Int → D3 → D3 → D3 → Option (D3 × Int)
  | 0, _, _, _, _ => none
  | n + 1, x0, x1, x2, x3 => enclosure_MeetBox.b1 k x0 x1 x2 x3
end
def enclosure_MeetBox (k : Nat) (a0 a1 : D3) : Option (D3 × Int) :=
  enclosure_MeetBox.top k (enclosure_MeetBox.l0 k k) a0 a1

def galoisref19_None (a0 : Bool) : Option Int :=
  bif a0 then (some 10) else (some 0)

def galoisref19_Meet.top (k : Nat) (j0 : D2 → D2 → D2 → Option D2) (a0 a1 : D2) : Option D2 :=
  (galoisref19_Less k a0.1 a1.1).bind fun t1 => bif t1 then (j0 a1 (((false, (⟨#[]⟩ : ByteArray)), (⟨#[]⟩ : ByteArray)), ((false, (⟨#[]⟩ : ByteArray)), (⟨#[]⟩ : ByteArray))) (a1.1, a0.2)) else (j0 a1 (((false, (⟨#[]⟩ : ByteArray)), (⟨#[]⟩ : ByteArray)), ((false, (⟨#[]⟩ : ByteArray)), (⟨#[]⟩ : ByteArray))) a0)
def galoisref19_Meet.b0 (k : Nat) (x0 x1 x2 : D2) : Option D2 :=
  (galoisref19_Less k x0.2 x2.2).bind fun t2 => bif t2 then (some (x2.1, x0.2)) else (some x2)
def galoisref19_Meet.l0 (k : Nat) : Nat → D2 → D2 → D2 → Option D2
  | 0, _, _, _ => none
  | n + 1, x0, x1, x2 => galoisref19_Meet.b0 k x0 x1 x2
def galoisref19_Meet (k : Nat) (a0 a1 : D2) : Option D2 :=
  galoisref19_Meet.top k (galoisref19_Meet.l0 k k) a0 a1

def galoisref19_MeetBox (k : Nat) (a0 a1 : D3) : Option D3 :=
  (galoisref19_Meet k a0.1 a1.1).bind fun t1 => (galoisref19_Meet k a0.2 a1.2).bind fun t2 => some (t1, t2)

def enclosure_Hull (k : Nat) (a0 a1 : D2) : Option (D2 × Int) :=
  (enclosure_Check k a0).bind fun t1 => (enclosure_Check k a1).bind fun t2 => (enclosure_first k ([t1, t2] : List Int)).bind fun t3 => bif !decide (t3 = 0) then (some ((((false, (⟨#[]⟩ : ByteArray)), (⟨#[]⟩ : ByteArray)), ((false, (⟨#[]⟩ : ByteArray)), (⟨#[]⟩ : ByteArray))), t3)) else ((ival_Hull k a0 a1).bind fun t4 => (enclosure_interval t4).bind fun pt5 => some (pt5.1, pt5.2))

def galoisref19_Hull (k : Nat) (a0 a1 : D2) : Option D2 :=
  (galoisref19_Span k ([a0.1, a0.2, a1.1, a1.2] : List D1)).bind fun t1 => some t1

def enclosure_Meet.top (k : Nat) (j0 : Int → Bool → D2 → D2 → D2 → Option (D2 × Int)) (a0 a1 : D2) : Option (D2 × Int) :=
  (enclosure_Check k a0).bind fun t1 => (enclosure_Check k a1).bind fun t2 => (enclosure_first k ([t1, t2] : List Int)).bind fun t3 => bif decide (t3 = 0) then ((ival_Apart k a0 a1).bind fun t4 => j0 t3 t4 a0 a1 (((false, (⟨#[]⟩ : ByteArray)), (⟨#[]⟩ : ByteArray)), ((false, (⟨#[]⟩ : ByteArray)), (⟨#[]⟩ : ByteArray)))) else (j0 t3 false a0 a1 (((false, (⟨#[]⟩ : ByteArray)), (⟨#[]⟩ : ByteArray)), ((false, (⟨#[]⟩ : ByteArray)), (⟨#[]⟩ : ByteArray))))
def enclosure_Meet.b0 (k : Nat) (j1 : Int → D2 → D2 → D2 → Option (D2 × Int)) (x0 : Int) (x1 : Bool) (x2 x3 x4 : D2) : Option (D2 × Int) :=
  bif x1 then (j1 10 x2 x3 x4) else (j1 x0 x2 x3 x4)
def enclosure_Meet.b1 (k : Nat) (x0 : Int) (x1 x2 x3 : D2) : Option (D2 × Int) :=
  bif !decide (x0 = 0) then (some ((((false, (⟨#[]⟩ : ByteArray)), (⟨#[]⟩ : ByteArray)), ((false, (⟨#[]⟩ : ByteArray)), (⟨#[]⟩ : ByteArray))), x0)) else ((ival_Meet k x1 x2).bind fun t5 => (enclosure_interval t5).bind fun pt6 => some (pt6.1, pt6.2))
mutual
def enclosure_Meet.l0 (k : Nat) : Nat → Int → Bool → D2 → D2 → D2 → Option (D2 × Int)
  | 0, _, _, _, _, _ => none
  | n + 1, x0, x1, x2, x3, x4 => enclosure_Meet.b0 k (enclosure_Meet.l1 k n) x0 x1 x2 x3 x4
def enclosure_Meet.l1 (k : Nat) : Nat → Int → D2 → D2 → D2 → Option (D2 × Int)
  | 0, _, _, _, _ => none
  | n + 1, x0, x1, x2, x3 => enclosure_Meet.b1 k x0 x1 x2 x3
end
def enclosure_Meet (k : Nat) (a0 a1 : D2) : Option (D2 × Int) :=
  enclosure_Meet.top k (enclosure_Meet.l0 k k) a0 a1

def enclosure_Apart (k : Nat) (a0 a1 : D2) : Option (Bool × Int) :=
  (enclosure_Check k a0).bind fun t1 => (enclosure_Check k a1).bind fun t2 => (enclosure_first k ([t1, t2] : List Int)).bind fun t3 => bif !decide (t3 = 0) then (some (false, t3)) else ((ival_Apart k a0 a1).bind fun t4 => some (t4, 0))

def galoisref19_Contains (k : Nat) (a0 : D2) (a1 : D1) : Option Bool :=
  (galoisref19_Less k a1 a0.1).bind fun t1 => bif !t1 then ((galoisref19_Less k a0.2 a1).bind fun t2 => some (!t2)) else (some false)

def exact_Inverse (a0 : D1) : Option D1 :=
  some ((a0.1.1, a0.2), a0.1.2)

def exact_Div (k : Nat) (a0 a1 : D1) : Option D1 :=
  (exact_Inverse a1).bind fun t1 => (exact_Mul k a0 t1).bind fun t2 => some t2

def ival_Middle (k : Nat) (a0 : D2) : Option D1 :=
  (exact_Add k a0.1 a0.2).bind fun t1 => (exact_Int k 2).bind fun t2 => (exact_Div k t1 t2).bind fun t3 => some t3

def enclosure_Middle (k : Nat) (a0 : D2) : Option (D1 × Int) :=
  (enclosure_Check k a0).bind fun t1 => (enclosure_first k ([t1] : List Int)).bind fun t2 => bif !decide (t2 = 0) then (some (((false, (⟨#[]⟩ : ByteArray)), (⟨#[]⟩ : ByteArray)), t2)) else ((ival_Middle k a0).bind fun t3 => (enclosure_number t3).bind fun pt4 => some (pt4.1, pt4.2))

def galoisref19_Width (k : Nat) (a0 : D2) : Option D1 :=
  (galoisref03_Sub k a0.2 a0.1).bind fun t1 => some t1

def galoisref19_Middle (k : Nat) (a0 : D2) : Option D1 :=
  (galoisref03_Add k a0.1 a0.2).bind fun t1 => (galoisref03_Of k 2 1).bind fun t2 => (galoisref03_Div k t1 t2).bind fun t3 => some t3
end Go.Proofs.YthghchjbomlpfaaGreat.Ev

namespace Go.Proofs.YthghchjbomlpfaaGreat.Ev
set_option linter.unusedVariables false
set_option maxRecDepth 100000

end Go.Proofs.YthghchjbomlpfaaGreat.Ev

namespace Go.Proofs.YthghchjbomlpfaaGreat.Ev
set_option linter.unusedVariables false

theorem can_nil : Can [] := by simp [Can]
theorem can_snoc {l : List Int} {x : Int} (h : x ≠ 0) : Can (l ++ [x]) := by simp [Can, h]
theorem can_take {l : List Int} {i : Nat} (hi : i < l.length) (h : l.getD i 0 ≠ 0) : Can (l.take (i + 1)) := by
  rw [List.take_succ_eq_append_getElem hi]
  apply can_snoc
  simpa [List.getD, hi] using h

theorem trim_loop (l : List Int) (hl : l.length < 4611686018427387904) : ∀ i : Nat, i ≤ l.length → ∃ m, m ≤ i ∧ Evt (fun n => exact_trim.l0 n i l) m ∧ Can (l.take m) ∧ ∀ B, wv B (l.take m) = wv B (l.take i)
  | 0, _ => ⟨0, Nat.le_refl _, Evt.succ (fun n => by simp [exact_trim.l0, exact_trim.b0]) Evt.pure, by simpa using can_nil, fun _ => rfl⟩
  | i + 1, hi => by
    have e : IntKind.wrap .i64 (((i + 1 : Nat) : Int) - 1) = (i : Int) := by rw [wi _ (by omega) (by omega)]; omega
    by_cases hz : l.getD i 0 = 0
    · obtain ⟨m, h1, h2, h3, h4⟩ := trim_loop l hl i (by omega)
      refine ⟨m, by omega, Evt.succ (fun n => ?_) h2, h3, fun B => ?_⟩
      · simp only [exact_trim.l0, exact_trim.b0, e, Int.toNat_natCast]
        rw [bp (by omega), if_pos (by omega), bp hz]
      · rw [h4, wv_take_succ i (by omega), hz]; simp
    · refine ⟨i + 1, Nat.le_refl _, Evt.succ (fun n => ?_) Evt.pure, can_take (by omega) hz, fun _ => rfl⟩
      simp only [exact_trim.l0, exact_trim.b0, e, Int.toNat_natCast, Nat.sub_zero]
      rw [bp (by omega), if_pos (by omega), bn hz, if_pos (by omega)]

theorem trim_ok (l : List Int) (hl : l.length < 4611686018427387904) : ∃ m, m ≤ l.length ∧ Evt (fun k => exact_trim k l) m ∧ Can (l.take m) ∧ ∀ B, wv B (l.take m) = wv B l := by
  obtain ⟨m, h1, h2, h3, h4⟩ := trim_loop l hl l.length (Nat.le_refl _)
  refine ⟨m, h1, h2, h3, fun B => ?_⟩
  rw [h4, List.take_of_length_le (Nat.le_refl _)]

def cmp (a b : Int) : Int := if a < b then -1 else if b < a then 1 else 0

theorem cmpW_loop (a b : List Int) (hl : a.length = b.length) (hs : a.length < 4611686018427387904) {B : Int} (hB : 0 < B) (ha : Lim_ B a) (hb : Lim_ B b) : ∀ i : Nat, i ≤ a.length →
    Evt (fun n => exact_compareWords.l0 n ((i : Int) - 1) a b) (cmp (wv B (a.take i)) (wv B (b.take i)))
  | 0, _ => Evt.succ (fun n => by simp [exact_compareWords.l0, exact_compareWords.b0]; rfl) (by simpa [cmp, wv] using Evt.pure)
  | i + 1, hi => by
    have e0 : ((i + 1 : Nat) : Int) - 1 = (i : Int) := by omega
    have e : IntKind.wrap .i64 ((i : Int) - 1) = (i : Int) - 1 := wi _ (by omega) (by omega)
    rw [wv_take_succ i (by omega), wv_take_succ i (by omega)]
    have h1 := wv_lt hB (ha.take i)
    have h2 := wv_lt hB (hb.take i)
    have h3 := wv_nonneg (by omega) (ha.take i)
    have h4 := wv_nonneg (by omega) (hb.take i)
    rw [List.length_take, Nat.min_eq_left (by omega)] at h1 h2
    have hP : 0 < B ^ i := Int.pow_pos hB
    by_cases hz : a.getD i 0 = b.getD i 0
    · have := cmpW_loop a b hl hs hB ha hb i (by omega)
      have ec : cmp (wv B (a.take i) + B ^ i * a.getD i 0) (wv B (b.take i) + B ^ i * b.getD i 0) = cmp (wv B (a.take i)) (wv B (b.take i)) := by
        rw [hz]
        simp only [cmp]; split <;> split <;> (try split) <;> (try split) <;> omega
      rw [ec]
      refine Evt.succ (fun n => ?_) this
      simp only [exact_compareWords.l0, exact_compareWords.b0, e0, e, Int.toNat_natCast]
      rw [bp (by omega), if_pos (by omega), if_pos (by omega), bnp hz]
    · by_cases hlt : a.getD i 0 < b.getD i 0
      · have hm : B ^ i * (a.getD i 0 + 1) ≤ B ^ i * b.getD i 0 := Int.mul_le_mul_of_nonneg_left (by omega) (by omega)
        rw [Int.mul_add, Int.mul_one] at hm
        have ec : cmp (wv B (a.take i) + B ^ i * a.getD i 0) (wv B (b.take i) + B ^ i * b.getD i 0) = -1 := by
          rw [cmp, if_pos (by omega)]
        rw [ec]
        refine Evt.succ (fun n => ?_) Evt.pure
        simp only [exact_compareWords.l0, exact_compareWords.b0, e0, e, Int.toNat_natCast]
        rw [bp (by omega), if_pos (by omega), if_pos (by omega), bnn hz, if_pos (by omega), if_pos (by omega), bp hlt]
      · have hm : B ^ i * (b.getD i 0 + 1) ≤ B ^ i * a.getD i 0 := Int.mul_le_mul_of_nonneg_left (by omega) (by omega)
        rw [Int.mul_add, Int.mul_one] at hm
        have ec : cmp (wv B (a.take i) + B ^ i * a.getD i 0) (wv B (b.take i) + B ^ i * b.getD i 0) = 1 := by
          rw [cmp, if_neg (by omega), if_pos (by omega)]
        rw [ec]
        refine Evt.succ (fun n => ?_) Evt.pure
        simp only [exact_compareWords.l0, exact_compareWords.b0, e0, e, Int.toNat_natCast]
        rw [bp (by omega), if_pos (by omega), if_pos (by omega), bnn hz, if_pos (by omega), if_pos (by omega), bn hlt]

theorem cmpW_ok (a b : List Int) (hs : a.length < 4611686018427387904) (ht : b.length < 4611686018427387904) {B : Int} (hB : 0 < B) (ha : Lim_ B a) (hb : Lim_ B b) (hca : Can a) (hcb : Can b) :
    Evt (fun k => exact_compareWords k a b) (cmp (wv B a) (wv B b)) := by
  unfold exact_compareWords exact_compareWords.top
  by_cases hl : a.length = b.length
  · have e : IntKind.wrap .i64 ((a.length : Int) - 1) = (a.length : Int) - 1 := wi _ (by omega) (by omega)
    have e2 : ∀ k, (bif !decide ((a.length : Int) = (b.length : Int)) then bif decide ((a.length : Int) < (b.length : Int)) then some (-1) else some 1 else exact_compareWords.l0 k ((a.length : Int) - 1) a b) = exact_compareWords.l0 k ((a.length : Int) - 1) a b := fun k => bnp (by omega)
    simp only [e, e2]
    have := cmpW_loop a b hl hs hB ha hb a.length (Nat.le_refl _)
    rwa [List.take_of_length_le (Nat.le_refl _), List.take_of_length_le (by omega)] at this
  · simp only [show decide ((a.length : Int) = (b.length : Int)) = false from decide_eq_false (by omega), Bool.not_false, cond_true]
    have key : ∀ {x y : List Int}, Lim_ B x → Lim_ B y → Can y → x.length < y.length → wv B x < wv B y := by
      intro x y hx hy hc hlt
      have h1 := wv_lt hB hx
      have h2 := can_lower hB hy hc (fun e => by rw [e] at hlt; simp at hlt)
      have h3 : B ^ x.length ≤ B ^ (y.length - 1) := by
        obtain ⟨d, hd⟩ : ∃ d, y.length - 1 = x.length + d := ⟨y.length - 1 - x.length, by omega⟩
        rw [hd, Int.pow_add]
        have : 0 < B ^ d := Int.pow_pos hB
        have h4 : 0 < B ^ x.length := Int.pow_pos hB
        have := Int.mul_le_mul_of_nonneg_left (show (1 : Int) ≤ B ^ d by omega) (show 0 ≤ B ^ x.length by omega)
        omega
      omega
    rcases Nat.lt_or_gt_of_ne hl with h | h
    · simp only [show decide ((a.length : Int) < (b.length : Int)) = true from decide_eq_true (by omega), cond_true]
      have := key ha hb hcb h
      rw [cmp, if_pos this]; exact Evt.pure
    · simp only [show decide ((a.length : Int) < (b.length : Int)) = false from decide_eq_false (by omega), cond_false]
      have := key hb ha hca h
      rw [cmp, if_neg (by omega), if_pos this]; exact Evt.pure
end Go.Proofs.YthghchjbomlpfaaGreat.Ev

namespace Go.Proofs.YthghchjbomlpfaaGreat.Ev
set_option linter.unusedVariables false

def bz (l : List UInt8) : Int := l.foldl (fun a x => a * 256 + (x.toNat : Int)) 0

theorem bz_snoc (l : List UInt8) (x : UInt8) : bz (l ++ [x]) = bz l * 256 + (x.toNat : Int) := by simp [bz]
theorem bz_nil : bz [] = 0 := rfl
theorem bz_take (l : List UInt8) (i : Nat) (hi : i < l.length) : bz (l.take (i + 1)) = bz (l.take i) * 256 + ((l.getD i 0).toNat : Int) := by
  rw [List.take_succ_eq_append_getElem hi, bz_snoc]
  simp [List.getD, hi]
theorem snoc_ind {α : Type} {P : List α → Prop} (h0 : P []) (h1 : ∀ l x, P l → P (l ++ [x])) (l : List α) : P l := by
  have : ∀ m : List α, P m.reverse := by
    intro m
    induction m with
    | nil => exact h0
    | cons x m ih => rw [List.reverse_cons]; exact h1 _ _ ih
  have h := this l.reverse
  rwa [List.reverse_reverse] at h
theorem u8_lt (x : UInt8) : (x.toNat : Int) < 256 := by have := x.toNat_lt; omega
theorem bz_bounds (l : List UInt8) : 0 ≤ bz l ∧ bz l < 256 ^ l.length := by
  induction l using snoc_ind with
  | h0 => simp [bz]
  | h1 l x ih =>
    rw [bz_snoc, List.length_append, List.length_singleton, Int.pow_succ]
    have := u8_lt x
    omega
theorem bz_app (l m : List UInt8) : bz (l ++ m) = bz l * 256 ^ m.length + bz m := by
  induction m using snoc_ind with
  | h0 => simp [bz]
  | h1 m x ih =>
    rw [← List.append_assoc, bz_snoc, ih, bz_snoc, List.length_append, List.length_singleton, Int.pow_succ]
    grind

def Nrm (l : List UInt8) : Prop := l.head? ≠ some 0

theorem bz_low {l : List UInt8} (h : Nrm l) (hn : l ≠ []) : 256 ^ (l.length - 1) ≤ bz l := by
  match l, h, hn with
  | x :: l, h, _ =>
    have e : bz (x :: l) = bz [x] * 256 ^ l.length + bz l := bz_app [x] l
    have h1 : bz [x] = (x.toNat : Int) := by simp [bz]
    have h2 : x ≠ 0 := fun e => by subst e; simp [Nrm] at h
    have h3 : x.toNat ≠ 0 := fun e => h2 (by simpa using UInt8.toNat_inj.1 (show x.toNat = (0 : UInt8).toNat from e))
    have h4 := (bz_bounds l).1
    have h5 : (0 : Int) ≤ 256 ^ l.length := Int.pow_nonneg (by omega)
    have h6 := Int.mul_le_mul_of_nonneg_right (show (1 : Int) ≤ (x.toNat : Int) by omega) h5
    rw [e, h1, List.length_cons, Nat.add_sub_cancel]
    omega

theorem bz_inj {l m : List UInt8} (hl : Nrm l) (hm : Nrm m) (h : bz l = bz m) : l = m := by
  induction l using snoc_ind generalizing m with
  | h0 =>
    by_cases hn : m = []
    · exact hn.symm
    · have := bz_low hm hn
      have h5 : (0 : Int) < 256 ^ (m.length - 1) := Int.pow_pos (by omega)
      rw [← h, bz_nil] at this
      omega
  | h1 l x ih =>
    by_cases hn : m = []
    · subst hn
      have := bz_low hl (by simp)
      have h5 : (0 : Int) < 256 ^ ((l ++ [x]).length - 1) := Int.pow_pos (by omega)
      rw [h, bz_nil] at this
      omega
    · obtain ⟨m', y, rfl⟩ : ∃ m' y, m = m' ++ [y] := ⟨m.dropLast, m.getLast hn, (List.dropLast_concat_getLast hn).symm⟩
      rw [bz_snoc, bz_snoc] at h
      have h1 := u8_lt x
      have h2 := u8_lt y
      have hx : x.toNat = y.toNat := by omega
      have hv : bz l = bz m' := by omega
      have nr : ∀ {a : List UInt8} {z : UInt8}, Nrm (a ++ [z]) → Nrm a := by
        intro a z h
        cases a with
        | nil => simp [Nrm]
        | cons b a => simpa [Nrm] using h
      rw [ih (nr hl) (nr hm) hv, UInt8.toNat_inj.1 hx]

theorem or_add (a b : Int) (s : Nat) (hs : s ≤ 64) (ha : 0 ≤ a) (ha' : a < 18446744073709551616) (hd : ∃ c, a = 2 ^ s * c) (hb : 0 ≤ b) (hb' : b < 2 ^ s) :
    ((BitVec.ofInt 64 a ||| BitVec.ofInt 64 b).toNat : Int) = a + b := by
  obtain ⟨c, rfl⟩ := hd
  have hp : (0 : Int) < 2 ^ s := Int.pow_pos (by omega)
  have hc : 0 ≤ c := by
    rcases Int.lt_or_le c 0 with h | h
    · have := Int.mul_lt_mul_of_pos_left h hp
      omega
    · exact h
  obtain ⟨C, rfl⟩ := Int.eq_ofNat_of_zero_le hc
  obtain ⟨b, rfl⟩ := Int.eq_ofNat_of_zero_le hb
  have e1 : ((2 : Int) ^ s * (C : Int)) = ((2 ^ s * C : Nat) : Int) := by push_cast; rfl
  have e2 : (b : Int) < ((2 ^ s : Nat) : Int) := by push_cast; exact hb'
  rw [e1] at ha' ⊢
  have h64 : (2 : Nat) ^ s ≤ 2 ^ 64 := Nat.pow_le_pow_right (by omega) hs
  have h1 : 2 ^ s * C < 18446744073709551616 := by omega
  have h2 : b < 18446744073709551616 := by omega
  have o1 : (BitVec.ofInt 64 ((2 ^ s * C : Nat) : Int)).toNat = 2 ^ s * C := by
    rw [BitVec.ofInt_natCast, BitVec.toNat_ofNat]; exact Nat.mod_eq_of_lt h1
  have o2 : (BitVec.ofInt 64 ((b : Nat) : Int)).toNat = b := by
    rw [BitVec.ofInt_natCast, BitVec.toNat_ofNat]; exact Nat.mod_eq_of_lt h2
  rw [BitVec.toNat_or, o1, o2, ← Nat.two_pow_add_eq_or_of_lt (by omega)]
  push_cast; rfl

theorem p64 : (18446744073709551616 : Int) = 256 ^ 8 := by decide
theorem p64q (q : Nat) : (18446744073709551616 : Int) ^ q = 256 ^ (8 * q) := by rw [p64, ← Int.pow_mul]
theorem p2 (s : Nat) : (2 : Int) ^ (8 * s) = 256 ^ s := by rw [Int.pow_mul]; rfl

abbrev B64 : Int := 18446744073709551616

theorem limb_low {l : List Int} (h : Lim_ B64 l) {q r : Nat} (hq : q < l.length) (hr : r ≤ 8) {V : Int} (hv : wv B64 l = V * 256 ^ (8 * q + r)) : ∃ c, l.getD q 0 = 256 ^ r * c := by
  have e := wv_split (B := B64) q (Nat.le_of_lt hq) (l := l)
  rw [wv_drop q hq, hv, Int.pow_add, p64q] at e
  have hP : (0 : Int) < 256 ^ (8 * q) := Int.pow_pos (by omega)
  have h1 := wv_nonneg (by decide) (h.take q)
  have h2 := wv_lt (by decide) (h.take q)
  rw [List.length_take, Nat.min_eq_left (Nat.le_of_lt hq), p64q] at h2
  generalize wv B64 (l.take q) = t at *
  generalize (256 : Int) ^ (8 * q) = P at *
  have h0 : t = P * (V * 256 ^ r - (l.getD q 0 + B64 * wv B64 (l.drop (q + 1)))) := by grind
  have hm : t % P = 0 := by rw [h0]; exact Int.mul_emod_right _ _
  rw [Int.emod_eq_of_lt h1 h2] at hm
  subst hm
  have h3 : l.getD q 0 + B64 * wv B64 (l.drop (q + 1)) = V * 256 ^ r := by
    have : P * (V * 256 ^ r - (l.getD q 0 + B64 * wv B64 (l.drop (q + 1)))) = P * 0 := by rw [← h0]; simp
    have := Int.eq_of_mul_eq_mul_left (by omega) this
    omega
  obtain ⟨d, hd⟩ : ∃ d, 8 = r + d := ⟨8 - r, by omega⟩
  refine ⟨V - 256 ^ d * wv B64 (l.drop (q + 1)), ?_⟩
  have e8 : B64 = 256 ^ r * 256 ^ d := by rw [← Int.pow_add, ← hd]; exact p64
  rw [e8] at h3
  grind
end Go.Proofs.YthghchjbomlpfaaGreat.Ev

namespace Go.Proofs.YthghchjbomlpfaaGreat.Ev
set_option linter.unusedVariables false

theorem td (a : Int) (b : Int) (ha : 0 ≤ a) : Int.tdiv a b = a / b := Int.tdiv_eq_ediv_of_nonneg ha
theorem tm (a : Int) (b : Int) (ha : 0 ≤ a) : Int.tmod a b = a % b := Int.tmod_eq_emod_of_nonneg ha

theorem words_loop (b : ByteArray) (hs : b.size < 4611686018427387904) {m : Nat} (hm : m = (b.size + 7) / 8) : ∀ (j i : Nat) (l : List Int), i + j = b.size → l.length = m → Lim_ B64 l → wv B64 l = bz (b.data.toList.take i) * 256 ^ j →
    ∃ l', Evt2 (fun k n => exact_words.l0 k n b b.size i l) l' ∧ Lim_ B64 l' ∧ Can l' ∧ wv B64 l' = bz b.data.toList ∧ l'.length ≤ m
  | 0, i, l, hi, hl, hL, hv => by
    obtain ⟨t, h1, h2, h3, h4⟩ := trim_ok l (by omega)
    refine ⟨l.take t, ?_, hL.take t, h3, ?_, by rw [List.length_take]; omega⟩
    · refine Evt2.succ (fun k n => ?_) (Evt2.call h2 (g := fun k n t1 => some (List.take t1 (List.drop 0 l))) Evt2.pure)
      simp only [exact_words.l0, exact_words.b0]
      rw [bn (by omega)]
    · rw [h4, hv, List.take_of_length_le (by simp; omega)]; simp
  | j + 1, i, l, hi, hl, hL, hv => by
    have hbl : b.data.toList.length = b.size := by simp
    have e1 : IntKind.wrap .i64 ((b.size : Int) - 1) = (b.size : Int) - 1 := wi _ (by omega) (by omega)
    have e2 : IntKind.wrap .i64 ((b.size : Int) - 1 - (i : Int)) = (j : Int) := by rw [wi _ (by omega) (by omega)]; omega
    have e3 : IntKind.wrap .i64 ((j : Int).tdiv 8) = ((j / 8 : Nat) : Int) := by rw [td _ _ (by omega), wi _ (by omega) (by omega)]; omega
    have e4 : IntKind.wrap .i64 (8 * (j : Int).tmod 8) = ((8 * (j % 8) : Nat) : Int) := by rw [tm _ _ (by omega), wi _ (by omega) (by omega)]; omega
    have e5 : IntKind.wrap .i64 ((i : Int) + 1) = ((i + 1 : Nat) : Int) := by rw [wi _ (by omega) (by omega)]; omega
    have hq : j / 8 < l.length := by omega
    have hj : j = 8 * (j / 8) + j % 8 := by omega
    have hx := u8_lt (b.data.toList.getD i 0)
    -- the byte, shifted
    have e6 : IntKind.wrap .u64 (IntKind.wrap .u64 (((b.data.toList.getD i 0).toNat : Nat) : Int) * 2 ^ min (8 * (j % 8)) 64) = ((b.data.toList.getD i 0).toNat : Int) * 256 ^ (j % 8) := by
      have ei : IntKind.wrap .u64 (((b.data.toList.getD i 0).toNat : Nat) : Int) = ((b.data.toList.getD i 0).toNat : Int) := by rw [wu, Int.emod_eq_of_lt (by omega) (by omega)]
      rw [Nat.min_eq_left (by omega), p2, ei, wu]
      refine Int.emod_eq_of_lt (Int.mul_nonneg (by omega) (Int.pow_nonneg (by omega))) ?_
      have h1 : (256 : Int) ^ (j % 8) ≤ 256 ^ 7 := by
        have : j % 8 ≤ 7 := by omega
        obtain ⟨d, hd⟩ : ∃ d, 7 = j % 8 + d := ⟨7 - j % 8, by omega⟩
        have h2' : (0 : Int) < 256 ^ d := Int.pow_pos (by omega)
        have h2 : (1 : Int) ≤ 256 ^ d := by omega
        have h3 : (0 : Int) ≤ 256 ^ (j % 8) := Int.pow_nonneg (by omega)
        have := Int.mul_le_mul_of_nonneg_left h2 h3
        rw [← Int.pow_add, ← hd] at this
        omega
      have h3 := Int.mul_le_mul_of_nonneg_right (show ((b.data.toList.getD i 0).toNat : Int) ≤ 255 by omega) (show (0 : Int) ≤ 256 ^ (j % 8) from Int.pow_nonneg (by omega))
      omega
    obtain ⟨c, hc⟩ := limb_low hL hq (r := j % 8 + 1) (by omega) (V := bz (b.data.toList.take i)) (by rw [hv, show 8 * (j / 8) + (j % 8 + 1) = j + 1 by omega])
    have hg := hL.get (j / 8) hq
    have h256 : (0 : Int) ≤ 256 ^ (j % 8) := Int.pow_nonneg (by omega)
    have hb0 : (0 : Int) ≤ ((b.data.toList.getD i 0).toNat : Int) * 256 ^ (j % 8) := Int.mul_nonneg (by omega) h256
    have hb1 : ((b.data.toList.getD i 0).toNat : Int) * 256 ^ (j % 8) < 2 ^ (8 * (j % 8 + 1)) := by
      rw [p2, Int.pow_succ, Int.mul_comm]
      have h1 : (0 : Int) < 256 ^ (j % 8) := Int.pow_pos (by omega)
      exact Int.mul_lt_mul_of_pos_left hx h1
    have e7 := or_add (l.getD (j / 8) 0) (((b.data.toList.getD i 0).toNat : Int) * 256 ^ (j % 8)) (8 * (j % 8 + 1)) (by omega) hg.1 hg.2 ⟨c, by rw [hc, p2]⟩ hb0 hb1
    have hsum : l.getD (j / 8) 0 + ((b.data.toList.getD i 0).toNat : Int) * 256 ^ (j % 8) < 18446744073709551616 := by
      -- a multiple below the end, and less than one more
      obtain ⟨d, hd⟩ : ∃ d, 8 = (j % 8 + 1) + d := ⟨8 - (j % 8 + 1), by omega⟩
      have h1 : l.getD (j / 8) 0 < 256 ^ (j % 8 + 1) * 256 ^ d := by rw [← Int.pow_add, ← hd]; exact hg.2
      rw [hc] at h1 ⊢
      have hP : (0 : Int) < 256 ^ (j % 8 + 1) := Int.pow_pos (by omega)
      have h2 : c < 256 ^ d := Int.lt_of_mul_lt_mul_left h1 (by omega)
      have h3 := Int.mul_le_mul_of_nonneg_left (show c + 1 ≤ 256 ^ d by omega) (show (0 : Int) ≤ 256 ^ (j % 8 + 1) by omega)
      rw [← Int.pow_add, ← hd, Int.mul_add, Int.mul_one, ← p64] at h3
      rw [p2] at hb1
      omega
    have e8 : IntKind.wrap .u64 (((BitVec.ofInt 64 (l.getD (j / 8) 0) ||| BitVec.ofInt 64 (((b.data.toList.getD i 0).toNat : Int) * 256 ^ (j % 8))).toNat : Nat) : Int) = l.getD (j / 8) 0 + ((b.data.toList.getD i 0).toNat : Int) * 256 ^ (j % 8) := by
      rw [wu, e7, Int.emod_eq_of_lt (by omega) hsum]
    obtain ⟨l', h1, h2⟩ := words_loop b hs hm j (i + 1) (l.set (j / 8) (l.getD (j / 8) 0 + ((b.data.toList.getD i 0).toNat : Int) * 256 ^ (j % 8))) (by omega) (by simpa using hl) (hL.set _ ⟨by omega, hsum⟩) (by
      rw [wv_set hq, hv, bz_take _ _ (by omega), p64q, Int.pow_succ]
      have : (256 : Int) ^ j = 256 ^ (8 * (j / 8)) * 256 ^ (j % 8) := by rw [← Int.pow_add, ← hj]
      rw [this]
      grind)
    refine ⟨l', Evt2.succ (fun k n => ?_) h1, h2⟩
    simp only [exact_words.l0, exact_words.b0, e1, e2, e3, e4, e5, Int.toNat_natCast, e6, e8]
    rw [bp (by omega), if_pos (by omega), if_pos (by omega), if_neg (by omega), if_pos (by omega)]

theorem words_ok (b : ByteArray) (hs : b.size ≤ 140737488351232) : ∃ l, Evt (fun k => exact_words k b) l ∧ Lim_ B64 l ∧ Can l ∧ wv B64 l = bz b.data.toList ∧ l.length ≤ (b.size + 7) / 8 := by
  obtain ⟨l, h1, h2⟩ := words_loop b (by omega) rfl b.size 0 (List.replicate ((b.size + 7) / 8) 0) (by omega) (by simp) (Lim_.rep (by decide) _) (by simp [wv_rep, bz_nil])
  refine ⟨l, h1.diag.of_eq fun k => ?_, h2⟩
  have e1 : IntKind.wrap .i64 ((b.size : Int) + 7) = ((b.size + 7 : Nat) : Int) := by rw [wi _ (by omega) (by omega)]; omega
  have e2 : IntKind.wrap .i64 (((b.size + 7 : Nat) : Int).tdiv 8) = (((b.size + 7) / 8 : Nat) : Int) := by rw [td _ _ (by omega), wi _ (by omega) (by omega)]; omega
  simp only [exact_words, exact_words.top, e1, e2, Int.toNat_natCast]
  rw [if_pos (by omega), if_pos (by omega)]
  rfl
end Go.Proofs.YthghchjbomlpfaaGreat.Ev

namespace Go.Proofs.YthghchjbomlpfaaGreat.Ev
set_option linter.unusedVariables false

theorem rev_set (y : List Int) (p : Nat) (hp : p < y.length) (v : Int) : (y.set (y.length - 1 - p) v).reverse = y.reverse.set p v := by
  apply List.ext_getElem
  · simp
  · intro i h1 h2
    simp only [List.length_reverse, List.length_set] at h1 h2
    rw [List.getElem_reverse, List.getElem_set, List.getElem_set, List.getElem_reverse]
    simp only [List.length_set]
    by_cases h : p = i
    · subst h; simp
    · rw [if_neg (by omega), if_neg h]

theorem getD_rev (y : List Int) (p : Nat) (hp : p < y.length) : y.reverse.getD p 0 = y.getD (y.length - 1 - p) 0 := by
  simp only [List.getD]
  rw [List.getElem?_reverse hp]

theorem limb_zero {B : Int} (hB : 0 < B) {l : List Int} (h : Lim_ B l) {p : Nat} (hv : wv B l < B ^ p) : l.getD p 0 = 0 := by
  by_cases hp : p < l.length
  · have e := wv_split (B := B) p (Nat.le_of_lt hp) (l := l)
    rw [wv_drop p hp] at e
    have h1 := wv_nonneg (by omega) (h.take p)
    have h2 := wv_nonneg (by omega) (h.drop (p + 1))
    have h3 := h.get p hp
    have hP : 0 < B ^ p := Int.pow_pos hB
    rcases Int.lt_or_le 0 (l.getD p 0) with h4 | h4
    · have h5 := Int.mul_nonneg (show 0 ≤ B by omega) h2
      have h6 := Int.mul_le_mul_of_nonneg_left (show 1 ≤ l.getD p 0 + B * wv B (l.drop (p + 1)) by omega) (show 0 ≤ B ^ p by omega)
      omega
    · omega
  · simp [List.getD, List.getElem?_eq_none (Nat.le_of_not_lt hp)]

theorem Lim_.rev {B : Int} {l : List Int} (h : Lim_ B l) : Lim_ B l.reverse := fun x hx => h x (List.mem_reverse.1 hx)

theorem bz_strOf (y : List Int) (hL : Lim_ 256 y) : bz (strOf y).data.toList = wv 256 y.reverse := by
  have : ∀ y : List Int, Lim_ 256 y → bz (y.map fun n => UInt8.ofNat n.toNat) = wv 256 y.reverse := by
    intro y
    induction y using snoc_ind with
    | h0 => intro _; rfl
    | h1 y x ih =>
      intro h
      rw [List.map_append, List.map_cons, List.map_nil, bz_snoc, ih (fun z hz => h z (by simp [hz])), List.reverse_append]
      have hx := h x (by simp)
      simp only [List.reverse_cons, List.reverse_nil, List.nil_append, List.singleton_append, wv]
      have : ((UInt8.ofNat x.toNat).toNat : Int) = x := by
        rw [UInt8.toNat_ofNat']; omega
      omega
  exact this y hL

theorem pack_skip (t : Nat) (y : List Int) (hs : y.length < 4611686018427387904) (hL : Lim_ 256 y) : ∀ (d i : Nat), i + d = y.length → 0 < wv 256 (y.drop i).reverse →
    Res2 (fun k n => exact_pack.l2 k n i y) fun b => Nrm b.data.toList ∧ bz b.data.toList = wv 256 (y.drop i).reverse ∧ b.size ≤ y.length
  | 0, i, hi, hv => by
    rw [List.drop_of_length_le (by omega)] at hv
    simp [wv] at hv
  | d + 1, i, hi, hv => by
    have e1 : IntKind.wrap .i64 ((i : Int) + 1) = ((i + 1 : Nat) : Int) := by rw [wi _ (by omega) (by omega)]; omega
    by_cases hz : y.getD i 0 = 0
    · have hd : y.drop i = 0 :: y.drop (i + 1) := by
        rw [List.drop_eq_getElem_cons (by omega)]
        congr 1
        have : y.getD i 0 = y[i]'(by omega) := by simp [List.getD, show i < y.length by omega]
        rw [← this, hz]
      have hw : wv 256 (y.drop i).reverse = wv 256 (y.drop (i + 1)).reverse := by
        rw [hd, List.reverse_cons, wv_append]; simp [wv]
      rw [hw] at hv ⊢
      refine Res2.succ (fun k n => ?_) (pack_skip t y hs hL d (i + 1) (by omega) hv)
      simp only [exact_pack.l2, exact_pack.b2, Int.toNat_natCast, e1]
      rw [if_pos (by omega), bp hz]
    · refine Res2.succ (g := fun _ _ => some (strOf (y.drop i))) (fun k n => ?_) (Res2.pure ⟨?_, bz_strOf _ (hL.drop i), ?_⟩)
      · simp only [exact_pack.l2, exact_pack.b2, Int.toNat_natCast]
        rw [if_pos (by omega), bn hz, if_pos (by omega), List.take_of_length_le (by simp)]
      · have hd : y.drop i = y.getD i 0 :: y.drop (i + 1) := by
          rw [List.drop_eq_getElem_cons (by omega)]
          simp [List.getD, show i < y.length by omega]
        rw [hd]
        have hg := hL.get i (by omega)
        have h3 : (UInt8.ofNat (y.getD i 0).toNat).toNat = (y.getD i 0).toNat := by rw [UInt8.toNat_ofNat']; omega
        intro h
        have h4 : UInt8.ofNat (y.getD i 0).toNat = 0 := by
          simpa [strOf] using h
        rw [h4] at h3
        have : (0 : UInt8).toNat = 0 := rfl
        omega
      · have : (strOf (y.drop i)).size = (y.drop i).length := by simp [strOf, ByteArray.size]
        rw [this, List.length_drop]; omega

theorem ediv_pow (x : Int) (s : Nat) : x / 256 ^ s % 256 * 256 ^ s + x % 256 ^ s = x % 256 ^ (s + 1) := by
  have hP : (0 : Int) < 256 ^ s := Int.pow_pos (by omega)
  rw [Int.pow_succ]
  have h1 := Int.emod_add_mul_ediv x (256 ^ s)
  have h2 := Int.emod_add_mul_ediv (x / 256 ^ s) 256
  have h3 := Int.emod_add_mul_ediv x (256 ^ s * 256)
  rw [← Int.ediv_ediv_of_nonneg (by omega)] at h3
  grind

theorem pack_limb (l : List Int) (t i : Nat) (hit : i < t) (ht : t < 4611686018427387904 / 8) (x V : Int) (hx : 0 ≤ x) (hV : 0 ≤ V) (hV' : V < 256 ^ (8 * i)) (Q : ByteArray → Prop)
    (hn : ∀ y : List Int, y.length = 8 * t → Lim_ 256 y → wv 256 y.reverse = V + 256 ^ (8 * i) * (x % 256 ^ 8) → Res2 (fun k n => exact_pack.l0 k n t t ((i + 1 : Nat) : Int) l y) Q) :
    ∀ (d s : Nat) (y : List Int), s + d = 8 → y.length = 8 * t → Lim_ 256 y → wv 256 y.reverse = V + 256 ^ (8 * i) * (x % 256 ^ s) → Res2 (fun k n => exact_pack.l1 k n i x t t i s l y) Q
  | 0, s, y, hd, hl, hL, hv => by
    have e1 : IntKind.wrap .i64 ((i : Int) + 1) = ((i + 1 : Nat) : Int) := by rw [wi _ (by omega) (by omega)]; omega
    obtain rfl : s = 8 := by omega
    refine Res2.succ (fun k n => ?_) (hn y hl hL hv)
    simp only [exact_pack.l1, exact_pack.b1, e1]
    rw [bn (by omega)]
  | d + 1, s, y, hd, hl, hL, hv => by
    have e1 : IntKind.wrap .i64 ((s : Int) + 1) = ((s + 1 : Nat) : Int) := by rw [wi _ (by omega) (by omega)]; omega
    have e2 : IntKind.wrap .i64 (8 * (s : Int)) = ((8 * s : Nat) : Int) := by rw [wi _ (by omega) (by omega)]; omega
    have e3 : IntKind.wrap .i64 (8 * (i : Int)) = ((8 * i : Nat) : Int) := by rw [wi _ (by omega) (by omega)]; omega
    have e4 : IntKind.wrap .i64 ((y.length : Int) - 1) = (y.length : Int) - 1 := by rw [wi _ (by omega) (by omega)]
    have e5 : IntKind.wrap .i64 ((y.length : Int) - 1 - ((8 * i : Nat) : Int)) = (y.length : Int) - 1 - ((8 * i : Nat) : Int) := by rw [wi _ (by omega) (by omega)]
    have e6 : IntKind.wrap .i64 ((y.length : Int) - 1 - ((8 * i : Nat) : Int) - (s : Int)) = ((y.length - 1 - (8 * i + s) : Nat) : Int) := by rw [wi _ (by omega) (by omega)]; omega
    have hp : 8 * i + s < y.length := by omega
    have hP : (0 : Int) < 256 ^ s := Int.pow_pos (by omega)
    have hP8 : (0 : Int) < 256 ^ (8 * i) := Int.pow_pos (by omega)
    have hm := Int.emod_nonneg x (show (256 : Int) ^ s ≠ 0 by omega)
    have hm' := Int.emod_lt_of_pos x hP
    have hlow : wv 256 y.reverse < 256 ^ (8 * i + s) := by
      rw [hv, Int.pow_add]
      have := Int.mul_le_mul_of_nonneg_left (show x % 256 ^ s + 1 ≤ 256 ^ s by omega) (show (0 : Int) ≤ 256 ^ (8 * i) by omega)
      rw [Int.mul_add, Int.mul_one] at this
      omega
    have hz := limb_zero (by decide) hL.rev hlow
    have e7 : IntKind.wrap .u8 (Int.fdiv x (2 ^ min (8 * s) 64)) = x / 256 ^ s % 256 := by
      rw [Nat.min_eq_left (by omega), p2, wb, Int.fdiv_eq_ediv_of_nonneg _ (by omega)]
    have hb0 := Int.emod_nonneg (x / 256 ^ s) (show (256 : Int) ≠ 0 by omega)
    have hb1 := Int.emod_lt_of_pos (x / 256 ^ s) (show (0 : Int) < 256 by omega)
    refine Res2.succ (fun k n => ?_) (pack_limb l t i hit ht x V hx hV hV' Q hn d (s + 1) (y.set (y.length - 1 - (8 * i + s)) (x / 256 ^ s % 256)) (by omega) (by simpa using hl) (hL.set _ ⟨hb0, hb1⟩) ?_)
    · simp only [exact_pack.l1, exact_pack.b1, e1, e2, e3, e4, e5, e6, Int.toNat_natCast, e7]
      rw [bp (by omega), if_neg (by omega), if_pos (by omega)]
    · rw [rev_set y _ hp, wv_set (by simpa using hp), hv, hz, ← ediv_pow, Int.pow_add]
      grind

theorem pack_all (l : List Int) (hL0 : Lim_ B64 l) (t : Nat) (htl : t ≤ l.length) (ht : t < 4611686018427387904 / 8) (hpos : 0 < wv B64 (l.take t)) : ∀ (d i : Nat) (y : List Int), i + d = t → y.length = 8 * t → Lim_ 256 y → wv 256 y.reverse = wv B64 (l.take i) →
    Res2 (fun k n => exact_pack.l0 k n t t i l y) fun b => Nrm b.data.toList ∧ bz b.data.toList = wv B64 (l.take t) ∧ b.size ≤ 8 * t
  | 0, i, y, hd, hl, hL, hv => by
    obtain rfl : i = t := by omega
    have := pack_skip i y (by omega) hL y.length 0 (by omega) (by rw [List.drop_zero, hv]; exact hpos)
    rw [List.drop_zero, hv, hl] at this
    refine Res2.succ (fun k n => ?_) this
    simp only [exact_pack.l0, exact_pack.b0]
    rw [bn (by omega)]
    rfl
  | d + 1, i, y, hd, hl, hL, hv => by
    have hg := hL0.get i (by omega)
    have h1 := wv_nonneg (by decide) (hL0.take i)
    have h2 := wv_lt (by decide) (hL0.take i)
    rw [List.length_take, Nat.min_eq_left (by omega), p64q] at h2
    refine Res2.succ (fun k n => ?_) (pack_limb l t i (by omega) ht (l.getD i 0) (wv B64 (l.take i)) hg.1 h1 h2 _ (fun y' a1 a2 a3 => ?_) 8 0 y (by omega) hl hL (by rw [hv]; simp [Int.emod_one]))
    · simp only [exact_pack.l0, exact_pack.b0, Int.toNat_natCast, Nat.zero_add]
      rw [bp (by omega), if_pos (by omega)]
      rfl
    · refine pack_all l hL0 t htl ht hpos d (i + 1) y' (by omega) a1 a2 ?_
      rw [a3, wv_take_succ i (by omega), p64q, Int.emod_eq_of_lt hg.1 (by rw [← p64]; exact hg.2)]

theorem pack_ok (l : List Int) (hL : Lim_ B64 l) (hs : l.length ≤ 17592186044416) : Res (fun k => exact_pack k l) fun b => Nrm b.data.toList ∧ bz b.data.toList = wv B64 l ∧ b.size ≤ 8 * l.length := by
  obtain ⟨t, h1, h2, h3, h4⟩ := trim_ok l (by omega)
  have h5 := h4 B64
  refine Res.of_eq (g := fun k => (exact_trim k l).bind fun t1 => bif decide ((t1 : Int) = 0) then (some (⟨#[]⟩ : ByteArray)) else (if 0 ≤ (IntKind.wrap .i64 (8 * (t1 : Int))) then (if (Int.toNat (IntKind.wrap .i64 (8 * (t1 : Int)))) ≤ 281474976710656 / 1 then (exact_pack.l0 k k t1 (t1 : Int) 0 l (List.replicate (Int.toNat (IntKind.wrap .i64 (8 * (t1 : Int)))) 0 : List Int)) else none) else none)) ?_ (fun k => rfl)
  refine Res.bind (R := fun x => t = x) ⟨t, h2, rfl⟩ ?_
  rintro _ rfl
  by_cases h0 : t = 0
  · subst h0
    refine Res.of_eq (Res.pure (r := (⟨#[]⟩ : ByteArray)) ⟨by simp [Nrm], ?_, ?_⟩) (fun k => ?_)
    · rw [← h5]; simp [wv, bz]
    · simp [ByteArray.size]
    · rw [bp (by simp)]
  · have e1 : IntKind.wrap .i64 (8 * (t : Int)) = ((8 * t : Nat) : Int) := by rw [wi _ (by omega) (by omega)]; omega
    have hne : l.take t ≠ [] := fun e => by
      have := congrArg List.length e
      rw [List.length_take, List.length_nil] at this
      omega
    have hlow := can_lower (B := B64) (by decide) (hL.take t) h3 hne
    have hP : (0 : Int) < B64 ^ ((l.take t).length - 1) := Int.pow_pos (by decide)
    have := (pack_all l hL t h1 (by omega) (by omega) t 0 (List.replicate (8 * t) 0) (by omega) (by simp) (Lim_.rep (by decide) _) (by simp [wv_rep, wv])).diag
    refine Res.of_eq (this.mono fun b hb => ⟨hb.1, by rw [hb.2.1, h5], by omega⟩) (fun k => ?_)
    simp only [e1, Int.toNat_natCast]
    rw [bn (by omega), if_pos (by omega), if_pos (by omega)]
    rfl
end Go.Proofs.YthghchjbomlpfaaGreat.Ev

namespace Go.Proofs.YthghchjbomlpfaaGreat.Ev
set_option linter.unusedVariables false

theorem fd (a b : Int) (hb : 0 ≤ b) : Int.fdiv a b = a / b := Int.fdiv_eq_ediv_of_nonneg a hb
theorem and_low (a : Int) (s : Nat) (hs : s ≤ 64) (ha : 0 ≤ a) (ha' : a < 18446744073709551616) : ((BitVec.ofInt 64 a &&& BitVec.ofInt 64 (2 ^ s - 1)).toNat : Int) = a % 2 ^ s := by
  obtain ⟨A, rfl⟩ := Int.eq_ofNat_of_zero_le ha
  have hp : (1 : Nat) ≤ 2 ^ s := Nat.one_le_two_pow
  have h64 : (2 : Nat) ^ s ≤ 2 ^ 64 := Nat.pow_le_pow_right (by omega) hs
  have e : ((2 : Int) ^ s - 1) = ((2 ^ s - 1 : Nat) : Int) := by rw [Int.natCast_sub hp]; push_cast; rfl
  have o1 : (BitVec.ofInt 64 ((A : Nat) : Int)).toNat = A := by
    rw [BitVec.ofInt_natCast, BitVec.toNat_ofNat]; exact Nat.mod_eq_of_lt (by omega)
  have o2 : (BitVec.ofInt 64 ((2 ^ s - 1 : Nat) : Int)).toNat = 2 ^ s - 1 := by
    rw [BitVec.ofInt_natCast, BitVec.toNat_ofNat]; exact Nat.mod_eq_of_lt (by omega)
  rw [e, BitVec.toNat_and, o1, o2, Nat.and_two_pow_sub_one_eq_mod]
  push_cast; rfl
theorem and32 (a : Int) (ha : 0 ≤ a) (ha' : a < 18446744073709551616) : IntKind.wrap .u64 (((BitVec.ofInt 64 a &&& BitVec.ofInt 64 4294967295).toNat : Nat) : Int) = a % 4294967296 := by
  have h := and_low a 32 (by omega) ha ha'
  rw [show (2 : Int) ^ 32 - 1 = 4294967295 by decide, show (2 : Int) ^ 32 = 4294967296 by decide] at h
  rw [h, wu, Int.emod_eq_of_lt (by omega) (by omega)]

theorem mul64_ok (x y : Int) (hx0 : 0 ≤ x) (hx : x < 18446744073709551616) (hy0 : 0 ≤ y) (hy : y < 18446744073709551616) : bits_Mul64 x y = some (x * y / 18446744073709551616, x * y % 18446744073709551616) := by
  unfold bits_Mul64
  have ha : ∀ z : Int, IntKind.wrap .u64 (((BitVec.ofInt 64 (IntKind.wrap .u64 z) &&& BitVec.ofInt 64 4294967295).toNat : Nat) : Int) = (z % 18446744073709551616) % 4294967296 := fun z => by
    rw [wu z, and32 _ (by omega) (by omega)]
  rw [ha, and32 x hx0 hx, and32 y hy0 hy]
  simp only [fd _ 4294967296 (by omega), wu]
  rw [mul64_arith x y hx0 hx hy0 hy]

theorem add64_ok' {x y c : Int} (hx : 0 ≤ x) (hy : 0 ≤ y) (hc : 0 ≤ c) (hc' : c ≤ 1) : add64 x y c = some ((x + y + c) % 18446744073709551616, (x + y + c) / 18446744073709551616) := by
  rw [add64, if_pos ⟨hx, hy, hc, hc'⟩]

theorem getD_set_ne {l : List Int} {i j : Nat} (h : i ≠ j) (x : Int) : (l.set i x).getD j 0 = l.getD j 0 := by
  simp [List.getD, List.getElem?_set_ne h]

theorem mac_step {x b o c : Int} (hx : 0 ≤ x ∧ x < B64) (hb : 0 ≤ b ∧ b < B64) (ho : 0 ≤ o ∧ o < B64) (hc : 0 ≤ c ∧ c < B64) :
    ∃ lo hi, lo = ((x * b % B64 + o + 0) % B64 + c + 0) % B64 ∧ hi = ((x * b / B64 + (x * b % B64 + o + 0) / B64) % B64 + ((x * b % B64 + o + 0) % B64 + c + 0) / B64) % B64 ∧ x * b + o + c = lo + B64 * hi ∧ (0 ≤ lo ∧ lo < B64) ∧ (0 ≤ hi ∧ hi < B64) := by
  refine ⟨_, _, rfl, rfl, ?_⟩
  have h1 : x * b ≤ (B64 - 1) * (B64 - 1) := Int.mul_le_mul (by omega) (by omega) hb.1 (by decide)
  have h2 := Int.mul_nonneg hx.1 hb.1
  generalize x * b = p at *
  simp only [B64] at *
  omega

theorem mulW_in (a b : List Int) (hla : a.length ≤ 17592186044416) (hlb : b.length ≤ 17592186044416) (hb : Lim_ B64 b) (i : Nat) (hi : i < a.length) (x : Int) (hx : 0 ≤ x ∧ x < B64) (v : Int) (Q : List Int → Prop)
    (hn : ∀ o : List Int, o.length = a.length + b.length → Lim_ B64 o → wv B64 o = v + x * wv B64 b * B64 ^ i → Res2 (fun k n => exact_mulWords.l0 k n a.length ((i + 1 : Nat) : Int) a b o) Q) :
    ∀ (d j : Nat) (o : List Int) (c : Int), j + d = b.length → o.length = a.length + b.length → Lim_ B64 o → (0 ≤ c ∧ c < B64) → o.getD (i + b.length) 0 = 0 → wv B64 o + c * B64 ^ (i + j) = v + x * wv B64 (b.take j) * B64 ^ i →
      Res2 (fun k n => exact_mulWords.l1 k n i x c a.length i b.length j a b o) Q
  | 0, j, o, c, hd, hl, hL, hc, hz, hv => by
    obtain rfl : j = b.length := by omega
    have e1 : IntKind.wrap .i64 ((i : Int) + (b.length : Int)) = ((i + b.length : Nat) : Int) := by rw [wi _ (by omega) (by omega)]; omega
    have e2 : IntKind.wrap .i64 ((i : Int) + 1) = ((i + 1 : Nat) : Int) := by rw [wi _ (by omega) (by omega)]; omega
    refine Res2.succ (fun k n => ?_) (hn (o.set (i + b.length) c) (by simpa using hl) (hL.set _ hc) ?_)
    · simp only [exact_mulWords.l1, exact_mulWords.b1, e1, e2, Int.toNat_natCast]
      rw [bn (by omega), if_pos (by omega)]
    · rw [wv_set (by omega), hz, Int.sub_zero, hv, List.take_of_length_le (Nat.le_refl _)]
  | d + 1, j, o, c, hd, hl, hL, hc, hz, hv => by
    have e1 : IntKind.wrap .i64 ((i : Int) + (j : Int)) = ((i + j : Nat) : Int) := by rw [wi _ (by omega) (by omega)]; omega
    have e2 : IntKind.wrap .i64 ((j : Int) + 1) = ((j + 1 : Nat) : Int) := by rw [wi _ (by omega) (by omega)]; omega
    have hbj := hb.get j (by omega)
    have hoj := hL.get (i + j) (by omega)
    obtain ⟨lo, hi', h1, h2, h3, h4, h5⟩ := mac_step hx hbj hoj hc
    refine Res2.succ (fun k n => ?_) (mulW_in a b hla hlb hb i hi x hx v Q hn d (j + 1) (o.set (i + j) lo) hi' (by omega) (by simpa using hl) (hL.set _ h4) h5 ?_ ?_)
    · simp only [exact_mulWords.l1, exact_mulWords.b1, e1, e2, Int.toNat_natCast, mul64_ok x _ hx.1 hx.2 hbj.1 hbj.2, Option.bind_some]
      rw [bp (by omega), if_pos (by omega), if_pos (by omega), add64_ok' (by omega) (by omega) (by omega) (by omega)]
      simp only [Option.bind_some]
      rw [add64_ok' (by omega) (by omega) (by omega) (by omega)]
      simp only [Option.bind_some]
      rw [if_pos (by omega), wu, wu, ← h1, ← h2]
    · rw [getD_set_ne (by omega)]; exact hz
    · rw [wv_set (by omega), wv_take_succ j (by omega)]
      have : B64 ^ (i + (j + 1)) = B64 ^ (i + j) * B64 := by rw [← Nat.add_assoc, Int.pow_succ]
      rw [this]
      have e3 : B64 ^ (i + j) = B64 ^ i * B64 ^ j := Int.pow_add _ _ _
      generalize o.getD (i + j) 0 = oj at *
      generalize b.getD j 0 = bj at *
      grind

theorem mulW_out (a b : List Int) (hla : a.length ≤ 17592186044416) (hlb : b.length ≤ 17592186044416) (ha : Lim_ B64 a) (hb : Lim_ B64 b) : ∀ (d i : Nat) (o : List Int), i + d = a.length → o.length = a.length + b.length → Lim_ B64 o → wv B64 o = wv B64 (a.take i) * wv B64 b →
    Res2 (fun k n => exact_mulWords.l0 k n a.length i a b o) fun l => Lim_ B64 l ∧ Can l ∧ wv B64 l = wv B64 a * wv B64 b ∧ l.length ≤ a.length + b.length
  | 0, i, o, hd, hl, hL, hv => by
    obtain rfl : i = a.length := by omega
    obtain ⟨t, h1, h2, h3, h4⟩ := trim_ok o (by omega)
    refine Res2.succ (g := fun k n => (exact_trim k o).bind fun t7 => some (List.take t7 (List.drop 0 o))) (fun k n => ?_) (Res2.call (R := fun x => t = x) (g := fun k n t7 => some (List.take t7 (List.drop 0 o))) ⟨t, h2, rfl⟩ ?_)
    · simp only [exact_mulWords.l0, exact_mulWords.b0]
      rw [bn (by omega)]
    · rintro t rfl
      refine Res2.pure ⟨hL.take t, h3, ?_, by rw [List.length_take]; simp; omega⟩
      rw [List.drop_zero, h4, hv, List.take_of_length_le (Nat.le_refl _)]
  | d + 1, i, o, hd, hl, hL, hv => by
    have hg := ha.get i (by omega)
    refine Res2.succ (fun k n => ?_) (mulW_in a b hla hlb hb i (by omega) (a.getD i 0) hg (wv B64 o) _ (fun o' a1 a2 a3 => ?_) b.length 0 o 0 (by omega) hl hL (by decide) ?_ (by simp [wv]))
    · simp only [exact_mulWords.l0, exact_mulWords.b0, Int.toNat_natCast]
      rw [bp (by omega), if_pos (by omega)]
      rfl
    · refine mulW_out a b hla hlb ha hb d (i + 1) o' (by omega) a1 a2 ?_
      rw [a3, wv_take_succ i (by omega), hv]
      grind
    · refine limb_zero (by decide) hL (p := i + b.length) ?_
      rw [hv, Int.pow_add]
      have h1 := wv_nonneg (by decide) (ha.take i)
      have h2 := wv_lt (by decide) (ha.take i)
      have h3 := wv_nonneg (by decide) hb
      have h4 := wv_lt (by decide) hb
      rw [List.length_take, Nat.min_eq_left (by omega)] at h2
      have hP : 0 < B64 ^ i := Int.pow_pos (by decide)
      calc wv B64 (a.take i) * wv B64 b ≤ B64 ^ i * wv B64 b := Int.mul_le_mul_of_nonneg_right (by omega) h3
        _ < B64 ^ i * B64 ^ b.length := Int.mul_lt_mul_of_pos_left h4 hP

theorem mulW_ok (a b : List Int) (hla : a.length ≤ 17592186044416) (hlb : b.length ≤ 17592186044416) (ha : Lim_ B64 a) (hb : Lim_ B64 b) :
    Res (fun k => exact_mulWords k a b) fun l => Lim_ B64 l ∧ Can l ∧ wv B64 l = wv B64 a * wv B64 b ∧ l.length ≤ a.length + b.length := by
  have e1 : IntKind.wrap .i64 ((a.length : Int) + (b.length : Int)) = ((a.length + b.length : Nat) : Int) := by rw [wi _ (by omega) (by omega)]; omega
  refine Res.of_eq (mulW_out a b hla hlb ha hb a.length 0 (List.replicate (a.length + b.length) 0) (by omega) (by simp) (Lim_.rep (by decide) _) (by simp [wv_rep, wv])).diag (fun k => ?_)
  simp only [exact_mulWords, exact_mulWords.top, e1, Int.toNat_natCast]
  rw [if_pos (by omega), if_pos (by omega)]
  rfl

def Nat_ (b : ByteArray) : Prop := Nrm b.data.toList
def nv (b : ByteArray) : Int := bz b.data.toList

theorem nv_nonneg (b : ByteArray) : 0 ≤ nv b := (bz_bounds _).1
theorem nv_inj {a b : ByteArray} (ha : Nat_ a) (hb : Nat_ b) (h : nv a = nv b) : a = b := by
  have := bz_inj ha hb h
  cases a; cases b
  congr 1
  exact Array.toList_inj.1 this

theorem natMul_ok (a b : ByteArray) (hla : a.size ≤ 1099511627776) (hlb : b.size ≤ 1099511627776) : Res (fun k => exact_NatMul k a b) fun c => Nat_ c ∧ nv c = nv a * nv b := by
  obtain ⟨x, h1, h2, h3, h4, h5⟩ := words_ok a (by omega)
  obtain ⟨y, g1, g2, g3, g4, g5⟩ := words_ok b (by omega)
  unfold exact_NatMul
  refine Res.bind (R := fun t => x = t) ⟨x, h1, rfl⟩ ?_
  rintro x rfl
  refine Res.bind (R := fun t => y = t) ⟨y, g1, rfl⟩ ?_
  rintro y rfl
  refine Res.bind (mulW_ok x y (by omega) (by omega) h2 g2) ?_
  rintro z ⟨z1, z2, z3, z4⟩
  refine Res.bind (pack_ok z z1 (by omega)) ?_
  rintro c ⟨c1, c2, c3⟩
  exact Res.pure ⟨c1, by rw [nv, c2, z3, h4, g4]; rfl⟩
end Go.Proofs.YthghchjbomlpfaaGreat.Ev

namespace Go.Proofs.YthghchjbomlpfaaGreat.Ev
set_option linter.unusedVariables false

def TAB : ByteArray := ⟨#[0, 1, 2, 2, 3, 3, 3, 3, 4, 4, 4, 4, 4, 4, 4, 4, 5, 5, 5, 5, 5, 5, 5, 5, 5, 5, 5, 5, 5, 5, 5, 5, 6, 6, 6, 6, 6, 6, 6, 6, 6, 6, 6, 6, 6, 6, 6, 6, 6, 6, 6, 6, 6, 6, 6, 6, 6, 6, 6, 6, 6, 6, 6, 6, 7, 7, 7, 7, 7, 7, 7, 7, 7, 7, 7, 7, 7, 7, 7, 7, 7, 7, 7, 7, 7, 7, 7, 7, 7, 7, 7, 7, 7, 7, 7, 7, 7, 7, 7, 7, 7, 7, 7, 7, 7, 7, 7, 7, 7, 7, 7, 7, 7, 7, 7, 7, 7, 7, 7, 7, 7, 7, 7, 7, 7, 7, 7, 7, 8, 8, 8, 8, 8, 8, 8, 8, 8, 8, 8, 8, 8, 8, 8, 8, 8, 8, 8, 8, 8, 8, 8, 8, 8, 8, 8, 8, 8, 8, 8, 8, 8, 8, 8, 8, 8, 8, 8, 8, 8, 8, 8, 8, 8, 8, 8, 8, 8, 8, 8, 8, 8, 8, 8, 8, 8, 8, 8, 8, 8, 8, 8, 8, 8, 8, 8, 8, 8, 8, 8, 8, 8, 8, 8, 8, 8, 8, 8, 8, 8, 8, 8, 8, 8, 8, 8, 8, 8, 8, 8, 8, 8, 8, 8, 8, 8, 8, 8, 8, 8, 8, 8, 8, 8, 8, 8, 8, 8, 8, 8, 8, 8, 8, 8, 8, 8, 8, 8, 8, 8, 8, 8, 8, 8, 8, 8, 8]⟩
def lenT (T : ByteArray) (x0 : Int) (x1 : Int) : Option Int :=
  bif decide (65536 ≤ x0) then (bif decide (256 ≤ (Int.fdiv x0 65536)) then (if 0 ≤ (IntKind.wrap .u8 (Int.fdiv (Int.fdiv x0 65536) 256)) ∧ (IntKind.wrap .u8 (Int.fdiv (Int.fdiv x0 65536) 256)) < (T.size : Int) then (some (IntKind.wrap .i64 ((IntKind.wrap .i64 ((IntKind.wrap .i64 (x1 + 16)) + 8)) + (IntKind.wrap .i64 ((((List.getD T.data.toList (Int.toNat (IntKind.wrap .u8 (Int.fdiv (Int.fdiv x0 65536) 256))) 0).toNat : Nat) : Int)))))) else none) else (if 0 ≤ (IntKind.wrap .u8 (Int.fdiv x0 65536)) ∧ (IntKind.wrap .u8 (Int.fdiv x0 65536)) < (T.size : Int) then (some (IntKind.wrap .i64 ((IntKind.wrap .i64 (x1 + 16)) + (IntKind.wrap .i64 ((((List.getD T.data.toList (Int.toNat (IntKind.wrap .u8 (Int.fdiv x0 65536))) 0).toNat : Nat) : Int)))))) else none)) else (bif decide (256 ≤ x0) then (if 0 ≤ (IntKind.wrap .u8 (Int.fdiv x0 256)) ∧ (IntKind.wrap .u8 (Int.fdiv x0 256)) < (T.size : Int) then (some (IntKind.wrap .i64 ((IntKind.wrap .i64 (x1 + 8)) + (IntKind.wrap .i64 ((((List.getD T.data.toList (Int.toNat (IntKind.wrap .u8 (Int.fdiv x0 256))) 0).toNat : Nat) : Int)))))) else none) else (if 0 ≤ (IntKind.wrap .u8 (x0)) ∧ (IntKind.wrap .u8 (x0)) < (T.size : Int) then (some (IntKind.wrap .i64 (x1 + (IntKind.wrap .i64 ((((List.getD T.data.toList (Int.toNat (IntKind.wrap .u8 (x0))) 0).toNat : Nat) : Int)))))) else none))
set_option maxRecDepth 100000 in
theorem lenT_eq (x0 x1 : Int) : bits_Len64.b0 x0 x1 = lenT TAB x0 x1 := rfl
set_option maxRecDepth 100000 in
theorem tab_all : ∀ j : Fin 256, (TAB.data.toList.getD j.val 0).toNat = bitLen j.val := by decide +kernel
theorem tab_get (i : Nat) (h : i < 256) : (((TAB.data.toList.getD i 0).toNat : Nat) : Int) = bitLen i := by
  rw [tab_all ⟨i, h⟩]
set_option maxRecDepth 100000 in
theorem tab_size : (TAB.size : Int) = 256 := rfl

theorem bitLen_div (x b : Nat) (h : 2 ^ b ≤ x) : bitLen x = b + bitLen (x / 2 ^ b) :=
  bitLen_shift x b (by
    have : 0 < x / 2 ^ b := Nat.div_pos h (Nat.two_pow_pos b)
    omega)

theorem bitLen_le (x n : Nat) (h : x < 2 ^ n) : bitLen x ≤ n := by
  have h1 := (bitLen_spec x).2
  by_cases h0 : x = 0
  · subst h0; simp [bitLen]
  · have := h1 h0
    rcases Nat.lt_or_ge n (bitLen x) with h2 | h2
    · have : 2 ^ n ≤ 2 ^ (bitLen x - 1) := Nat.pow_le_pow_right (by omega) (by omega)
      omega
    · exact h2

set_option maxRecDepth 100000 in
theorem len64_b (n : Nat) (x c : Nat) (hc : c ≤ 32) (hx : x < 4294967296) : bits_Len64.l0 (n + 1) x c = some (((c + bitLen x : Nat)) : Int) := by
  show bits_Len64.b0 x c = _
  rw [lenT_eq, lenT]
  have hb : ∀ z : Nat, z < 256 → IntKind.wrap .u8 (z : Int) = (z : Int) := fun z hz => by rw [wb, Int.emod_eq_of_lt (by omega) (by omega)]
  have hlt : ∀ z : Nat, z < 256 → bitLen z ≤ 8 := fun z hz => bitLen_le z 8 (by omega)
  have hi : ∀ z : Int, 0 ≤ z → z < 1000 → IntKind.wrap .i64 z = z := fun z h1 h2 => wi z (by omega) (by omega)
  have f1 : Int.fdiv (x : Int) 65536 = ((x / 65536 : Nat) : Int) := by rw [fd _ _ (by omega)]; omega
  have f2 : Int.fdiv (x : Int) 256 = ((x / 256 : Nat) : Int) := by rw [fd _ _ (by omega)]; omega
  have f3 : Int.fdiv ((x / 65536 : Nat) : Int) 256 = ((x / 65536 / 256 : Nat) : Int) := by rw [fd _ _ (by omega)]; omega
  have tsz := tab_size
  simp only [f1, f2, f3]
  by_cases h1 : 65536 ≤ x
  · rw [bp (by omega)]
    have e1 := bitLen_div x 16 (by omega)
    rw [show (2 : Nat) ^ 16 = 65536 from rfl] at e1
    by_cases h2 : 256 ≤ x / 65536
    · have e2 := bitLen_div (x / 65536) 8 (by omega)
      rw [show (2 : Nat) ^ 8 = 256 from rfl] at e2
      have h3 := hlt (x / 65536 / 256) (by omega)
      rw [bp (by omega), hb _ (by omega), if_pos (by omega), Int.toNat_natCast, tab_get _ (by omega)]
      rw [hi (c + 16) (by omega) (by omega), hi (c + 16 + 8) (by omega) (by omega), hi (bitLen _ : Nat) (by omega) (by omega), hi _ (by omega) (by omega)]
      exact congrArg some (by omega)
    · have h3 := hlt (x / 65536) (by omega)
      rw [bn (by omega), hb _ (by omega), if_pos (by omega), Int.toNat_natCast, tab_get _ (by omega)]
      rw [hi (c + 16) (by omega) (by omega), hi (bitLen _ : Nat) (by omega) (by omega), hi _ (by omega) (by omega)]
      exact congrArg some (by omega)
  · rw [bn (by omega)]
    by_cases h2 : 256 ≤ x
    · have e2 := bitLen_div x 8 (by omega)
      rw [show (2 : Nat) ^ 8 = 256 from rfl] at e2
      have h3 := hlt (x / 256) (by omega)
      rw [bp (by omega), hb _ (by omega), if_pos (by omega), Int.toNat_natCast, tab_get _ (by omega)]
      rw [hi (c + 8) (by omega) (by omega), hi (bitLen _ : Nat) (by omega) (by omega), hi _ (by omega) (by omega)]
      exact congrArg some (by omega)
    · have h3 := hlt x (by omega)
      rw [bn (by omega), hb x (by omega), if_pos (by omega), Int.toNat_natCast, tab_get _ (by omega)]
      rw [hi (bitLen _ : Nat) (by omega) (by omega), hi _ (by omega) (by omega)]
      exact congrArg some (by omega)

theorem len64_ok (x : Nat) (hx : x < 18446744073709551616) : Evt (fun k => bits_Len64 k x) (bitLen x : Nat) := by
  refine Evt.succ (fun n => ?_) Evt.pure
  simp only [bits_Len64, bits_Len64.top]
  have f1 : Int.fdiv (x : Int) 4294967296 = ((x / 4294967296 : Nat) : Int) := by rw [fd _ _ (by omega)]; omega
  by_cases h : 4294967296 ≤ x
  · have e1 := bitLen_div x 32 (by omega)
    rw [show (2 : Nat) ^ 32 = 4294967296 from rfl] at e1
    rw [bp (by omega), f1, e1]
    exact len64_b n _ 32 (by omega) (by omega)
  · rw [bn (by omega)]
    have := len64_b n x 0 (by omega) (by omega)
    rwa [Nat.zero_add] at this

theorem lead_ok (x : Nat) (h0 : 0 < x) (hx : x < 18446744073709551616) : ∃ s : Nat, s ≤ 63 ∧ Evt (fun k => bits_LeadingZeros64 k x) (s : Int) ∧ 9223372036854775808 ≤ x * 2 ^ s ∧ x * 2 ^ s < 18446744073709551616 := by
  have h1 := bitLen_le x 64 (by omega)
  have h2 := bitLen_spec x
  have h3 := h2.2 (by omega)
  have h4 : bitLen x ≠ 0 := by unfold bitLen; rw [if_neg (by omega)]; omega
  refine ⟨64 - bitLen x, by omega, ?_, ?_, ?_⟩
  · refine Evt.bind (g := fun n t1 => some (IntKind.wrap .i64 (64 - t1))) (len64_ok x hx) ?_
    have : IntKind.wrap .i64 (64 - (bitLen x : Int)) = ((64 - bitLen x : Nat) : Int) := by rw [wi _ (by omega) (by omega)]; omega
    rw [this]
    exact Evt.pure
  · have : 2 ^ (bitLen x - 1) * 2 ^ (64 - bitLen x) = 9223372036854775808 := by
      rw [← Nat.pow_add, show bitLen x - 1 + (64 - bitLen x) = 63 by omega]
    have := Nat.mul_le_mul_right (2 ^ (64 - bitLen x)) h3
    omega
  · have : 2 ^ (bitLen x) * 2 ^ (64 - bitLen x) = 18446744073709551616 := by
      rw [← Nat.pow_add, show bitLen x + (64 - bitLen x) = 64 by omega]
    have := Nat.mul_lt_mul_of_pos_right h2.1 (Nat.two_pow_pos (64 - bitLen x))
    omega
end Go.Proofs.YthghchjbomlpfaaGreat.Ev

namespace Go.Proofs.YthghchjbomlpfaaGreat.Ev
set_option linter.unusedVariables false

section
variable {Y y1 y0 U u q r Q R : Int}

structure QS (Y y1 y0 U u Q R : Int) : Prop where
  hY : Y = y1 * 4294967296 + y0
  y1l : 2147483648 ≤ y1
  y1h : y1 < 4294967296
  y0l : 0 ≤ y0
  y0h : y0 < 4294967296
  Ul : 0 ≤ U
  Uh : U < Y
  ul : 0 ≤ u
  uh : u < 4294967296
  eq : U * 4294967296 + u = Q * Y + R
  Rl : 0 ≤ R
  Rh : R < Y

theorem QS.Qlt (h : QS Y y1 y0 U u Q R) : Q < 4294967296 := by
  obtain ⟨hY, a1, a2, a3, a4, a5, a6, a7, a8, a9, a10, a11⟩ := h
  rcases Int.lt_or_le Q 4294967296 with h | h
  · exact h
  · have := Int.mul_le_mul_of_nonneg_right h (show 0 ≤ Y by omega)
    omega
theorem QS.Q0 (h : QS Y y1 y0 U u Q R) : 0 ≤ Q := by
  obtain ⟨hY, a1, a2, a3, a4, a5, a6, a7, a8, a9, a10, a11⟩ := h
  rcases Int.lt_or_le Q 0 with h | h
  · have := Int.mul_le_mul_of_nonneg_right (show Q ≤ -1 by omega) (show 0 ≤ Y by omega)
    omega
  · exact h
theorem QS.diff (h : QS Y y1 y0 U u Q R) (hr : r = U - q * y1) : U * 4294967296 + u - q * Y = 4294967296 * r + u - q * y0 := by
  rw [hr, h.hY]; grind
theorem QS.ge (h : QS Y y1 y0 U u Q R) (hq : q * Y ≤ U * 4294967296 + u) : q ≤ Q := by
  rcases Int.lt_or_le Q q with h1 | h1
  · have := Int.mul_le_mul_of_nonneg_right (show Q + 1 ≤ q by omega) (show 0 ≤ Y by have := h.Uh; have := h.Ul; omega)
    rw [Int.add_mul, Int.one_mul] at this
    have := h.eq; have := h.Rh
    omega
  · exact h1
theorem QS.lt (h : QS Y y1 y0 U u Q R) (hq : U * 4294967296 + u < q * Y) : Q < q := by
  rcases Int.lt_or_le Q q with h1 | h1
  · exact h1
  · have := Int.mul_le_mul_of_nonneg_right h1 (show 0 ≤ Y by have := h.Uh; have := h.Ul; omega)
    have := h.eq; have := h.Rl
    omega

theorem QS.down (h : QS Y y1 y0 U u Q R) (hr : r = U - q * y1) (hc : 4294967296 ≤ q ∨ 4294967296 * r + u < q * y0) : Q < q := by
  rcases hc with hc | hc
  · have := h.Qlt; omega
  · refine h.lt ?_
    have := h.diff hr
    omega
theorem QS.stay (h : QS Y y1 y0 U u Q R) (hr : r = U - q * y1) (hq : Q ≤ q) (hc : ¬ 4294967296 * r + u < q * y0) : q = Q := by
  have := h.diff hr
  have := h.ge (q := q) (by omega)
  omega
theorem QS.brk (h : QS Y y1 y0 U u Q R) (hr : r = U - q * y1) (hq : Q < q) (hb : 4294967296 ≤ r + y1) : q - 1 = Q := by
  have hr' : r + y1 = U - (q - 1) * y1 := by rw [hr]; grind
  have hd := h.diff hr'
  have hq1 : q - 1 < 4294967296 := by
    rcases Int.lt_or_le (q - 1) 4294967296 with h1 | h1
    · exact h1
    · have := Int.mul_le_mul_of_nonneg_right h1 (show 0 ≤ y1 by have := h.y1l; omega)
      have h2 := h.Uh
      have h3 := h.hY
      have h4 := h.y0h
      omega
  have h5 : (q - 1) * y0 ≤ 4294967295 * 4294967295 := Int.mul_le_mul (by omega) (by have := h.y0h; omega) h.y0l (by omega)
  have := h.ge (q := q - 1) (by have := h.ul; omega)
  omega
end

theorem div64_l0 {Y y1 y0 U u Q R : Int} (hQ : QS Y y1 y0 U u Q R) (hY : Y < 18446744073709551616) (s u0 : Int) (P : Int × Int → Prop) (hn : Res2 (fun k n => bits_Div64.l2 k n Y s y1 y0 U u u0 Q) P) :
    ∀ (m : Nat) (q r : Int), q - Q ≤ m → Q ≤ q → q < 18446744073709551616 → r = U - q * y1 → 0 ≤ r → r < 4294967296 → Res2 (fun k n => bits_Div64.l0 k n Y s y1 y0 U u u0 q r) P := by
  intro m
  induction m with
  | zero =>
    intro q r hm hq hq' hr h0 hb
    obtain rfl : q = Q := by omega
    have hQl := hQ.Qlt
    have hnc : ¬ 4294967296 * r + u < q * y0 := fun hc => by have := hQ.down hr (.inr hc); omega
    have hp : q * y0 ≤ 4294967295 * 4294967295 := Int.mul_le_mul (by omega) (by have := hQ.y0h; omega) hQ.y0l (by omega)
    have hp0 := Int.mul_nonneg hQ.Q0 hQ.y0l
    have h1 := hQ.ul
    have h2 := hQ.uh
    refine Res2.succ (fun k n => ?_) (Res2.succ (f := fun k n => bits_Div64.l1 k n Y s y1 y0 U u u0 q r false) (fun k n => ?_) hn)
    · simp only [bits_Div64.l0, bits_Div64.b0, wu]
      rw [bn (by omega), Int.emod_eq_of_lt (by omega) (by omega : 4294967296 * r < 18446744073709551616), Int.emod_eq_of_lt (by omega) (by omega), Int.emod_eq_of_lt hp0 (by omega)]
      simp only [hnc, decide_false]
    · simp only [bits_Div64.l1, bits_Div64.b1, cond_false]
  | succ m ih =>
    intro q r hm hq hq' hr h0 hb
    have h1 := hQ.ul
    have h2 := hQ.uh
    by_cases hc : 4294967296 ≤ q ∨ 4294967296 * r + u < q * y0
    · have hlt := hQ.down hr hc
      have hQ0 := hQ.Q0
      have e0 : ∀ k n, bits_Div64.l0 k (n + 1) Y s y1 y0 U u u0 q r = bits_Div64.l1 k n Y s y1 y0 U u u0 q r true := fun k n => by
        simp only [bits_Div64.l0, bits_Div64.b0, wu]
        by_cases hb1 : 4294967296 ≤ q
        · rw [bp hb1]
        · have hp : q * y0 ≤ 4294967295 * 4294967295 := Int.mul_le_mul (by omega) (by have := hQ.y0h; omega) hQ.y0l (by omega)
          have hp0 := Int.mul_nonneg (show 0 ≤ q by omega) hQ.y0l
          rw [bn hb1, Int.emod_eq_of_lt (by omega) (by omega : 4294967296 * r < 18446744073709551616), Int.emod_eq_of_lt (by omega) (by omega), Int.emod_eq_of_lt hp0 (by omega)]
          rcases hc with hc | hc
          · omega
          · simp only [hc, decide_true]
      have hy1 := hQ.y1h
      have hy2 := hQ.y1l
      by_cases hk : 4294967296 ≤ r + y1
      · have hq1 := hQ.brk hr hlt hk
        refine Res2.succ e0 (Res2.succ (fun k n => ?_) hn)
        simp only [bits_Div64.l1, bits_Div64.b1, cond_true, wu]
        rw [Int.emod_eq_of_lt (by omega : 0 ≤ r + y1) (by omega), bp hk, Int.emod_eq_of_lt (by omega : 0 ≤ q - 1) (by omega), hq1]
      · refine Res2.succ e0 (Res2.succ (fun k n => ?_) (ih (q - 1) (r + y1) (by omega) (by omega) (by omega) (by rw [hr]; grind) (by omega) (by omega)))
        simp only [bits_Div64.l1, bits_Div64.b1, cond_true, wu]
        rw [Int.emod_eq_of_lt (by omega : 0 ≤ r + y1) (by omega), bn hk, Int.emod_eq_of_lt (by omega : 0 ≤ q - 1) (by omega)]
    · have hqQ := hQ.stay hr hq (fun h => hc (.inr h))
      subst hqQ
      exact ih q r (by omega) (by omega) hq' hr h0 hb

theorem div64_l3 {Y y1 y0 U u Q R : Int} (hQ : QS Y y1 y0 U u Q R) (hY : Y < 18446744073709551616) (s : Nat) (hs : s ≤ 63) (q1 : Int) (hq1 : 0 ≤ q1) (hq1' : q1 < 4294967296) :
    ∀ (m : Nat) (q r : Int), q - Q ≤ m → Q ≤ q → q < 18446744073709551616 → r = U - q * y1 → 0 ≤ r → r < 4294967296 →
      Res2 (fun k n => bits_Div64.l3 k n Y s y1 y0 u q1 r U q) fun x => x = (q1 * 4294967296 + Q, R / 2 ^ s) := by
  have hfin : (IntKind.wrap .u64 (IntKind.wrap .u64 (q1 * 4294967296) + Q), Int.fdiv (IntKind.wrap .u64 (IntKind.wrap .u64 (IntKind.wrap .u64 (U * 4294967296) + u) - IntKind.wrap .u64 (Q * Y))) (2 ^ min (Int.toNat (s : Int)) 64)) = (q1 * 4294967296 + Q, R / 2 ^ s) := by
    have := hQ.Qlt
    have := hQ.Q0
    rw [Int.toNat_natCast, Nat.min_eq_left (by omega), fd _ _ (Int.pow_nonneg (by omega))]
    simp only [wu]
    have e := hQ.eq
    have h1 := hQ.Rl
    have h2 := hQ.Rh
    congr 1
    · omega
    · congr 1
      generalize Q * Y = t at *
      omega
  intro m
  induction m with
  | zero =>
    intro q r hm hq hq' hr h0 hb
    obtain rfl : q = Q := by omega
    have hQl := hQ.Qlt
    have hnc : ¬ 4294967296 * r + u < q * y0 := fun hc => by have := hQ.down hr (.inr hc); omega
    have hp : q * y0 ≤ 4294967295 * 4294967295 := Int.mul_le_mul (by omega) (by have := hQ.y0h; omega) hQ.y0l (by omega)
    have hp0 := Int.mul_nonneg hQ.Q0 hQ.y0l
    have h1 := hQ.ul
    have h2 := hQ.uh
    refine Res2.succ (fun k n => ?_) (Res2.succ (f := fun k n => bits_Div64.l4 k n Y s y1 y0 u q1 r U q false) (g := fun _ _ => some (q1 * 4294967296 + q, R / 2 ^ s)) (fun k n => ?_) (Res2.pure rfl))
    · simp only [bits_Div64.l3, bits_Div64.b3, wu]
      rw [bn (by omega), Int.emod_eq_of_lt (by omega) (by omega : 4294967296 * r < 18446744073709551616), Int.emod_eq_of_lt (by omega) (by omega), Int.emod_eq_of_lt hp0 (by omega)]
      simp only [hnc, decide_false]
    · simp only [bits_Div64.l4, bits_Div64.b4, cond_false]
      rw [if_neg (by omega), hfin]
  | succ m ih =>
    intro q r hm hq hq' hr h0 hb
    have h1 := hQ.ul
    have h2 := hQ.uh
    by_cases hc : 4294967296 ≤ q ∨ 4294967296 * r + u < q * y0
    · have hlt := hQ.down hr hc
      have hQ0 := hQ.Q0
      have e0 : ∀ k n, bits_Div64.l3 k (n + 1) Y s y1 y0 u q1 r U q = bits_Div64.l4 k n Y s y1 y0 u q1 r U q true := fun k n => by
        simp only [bits_Div64.l3, bits_Div64.b3, wu]
        by_cases hb1 : 4294967296 ≤ q
        · rw [bp hb1]
        · have hp : q * y0 ≤ 4294967295 * 4294967295 := Int.mul_le_mul (by omega) (by have := hQ.y0h; omega) hQ.y0l (by omega)
          have hp0 := Int.mul_nonneg (show 0 ≤ q by omega) hQ.y0l
          rw [bn hb1, Int.emod_eq_of_lt (by omega) (by omega : 4294967296 * r < 18446744073709551616), Int.emod_eq_of_lt (by omega) (by omega), Int.emod_eq_of_lt hp0 (by omega)]
          rcases hc with hc | hc
          · omega
          · simp only [hc, decide_true]
      have hy1 := hQ.y1h
      have hy2 := hQ.y1l
      by_cases hk : 4294967296 ≤ r + y1
      · have hqq := hQ.brk hr hlt hk
        refine Res2.succ e0 (Res2.succ (g := fun _ _ => some (q1 * 4294967296 + Q, R / 2 ^ s)) (fun k n => ?_) (Res2.pure rfl))
        simp only [bits_Div64.l4, bits_Div64.b4, cond_true]
        have e5 : IntKind.wrap .u64 (q - 1) = Q := by rw [wu, Int.emod_eq_of_lt (by omega : 0 ≤ q - 1) (by omega), hqq]
        rw [wu (r + y1), Int.emod_eq_of_lt (by omega : 0 ≤ r + y1) (by omega), bp hk, if_neg (by omega), e5, hfin]
      · refine Res2.succ e0 (Res2.succ (fun k n => ?_) (ih (q - 1) (r + y1) (by omega) (by omega) (by omega) (by rw [hr]; grind) (by omega) (by omega)))
        simp only [bits_Div64.l4, bits_Div64.b4, cond_true]
        have e5 : IntKind.wrap .u64 (q - 1) = q - 1 := by rw [wu, Int.emod_eq_of_lt (by omega : 0 ≤ q - 1) (by omega)]
        rw [wu (r + y1), Int.emod_eq_of_lt (by omega : 0 ≤ r + y1) (by omega), bn hk, e5]
    · have hqQ := hQ.stay hr hq (fun h => hc (.inr h))
      subst hqQ
      exact ih q r (by omega) (by omega) hq' hr h0 hb
end Go.Proofs.YthghchjbomlpfaaGreat.Ev
