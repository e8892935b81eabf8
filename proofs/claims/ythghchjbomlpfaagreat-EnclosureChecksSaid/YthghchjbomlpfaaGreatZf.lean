/- EnclosureChecks: the program's checks of intervals and boxes answer what the reference answers, for every interval and box. -/
import Derived.Below
import Derived.ChangeOld
import Derived.OpenShut
import Derived.ProofKit
import Derived.ShutString
import Derived.SizedLaws
import Derived.Test.YthghchjbomlpfaaGreatRows
import Derived.WalkKit
import Derived.Test.YthghchjbomlpfaaGreatZe
namespace Go.Proofs.YthghchjbomlpfaaGreat.Ev
set_option linter.unusedVariables false
set_option maxRecDepth 100000
theorem exact_step.top_eq (k : Nat) (L : Labels (Int × (List Int))) (a0 : List Int) (a1 : List Int) : evTop ctx (exact_step.orc k) L exact_step.note Tryz.f222 [.mut (.int .u64) a0, .data (.slice (.int .u64)) a1] exact_step.κ = exact_step.top k (fun x0 x1 x2 x3 l4 l5 => L 0 (mkE 186 0 [(0, .own 0), (1, .own 1), (5, .data (.int .i64) x0), (6, .data (.int .u64) x1), (7, .data (.int .u64) x2), (8, .data (.int .u64) x3)]) (ofList [.arr .rw (.int .u64) l4, .arr .ro (.int .u64) l5]) 2) a0 a1 := by
  kernel_rfl
theorem exact_step.b0_eq (k : Nat) (L : Labels (Int × (List Int))) (x0 : Int) (x1 : Int) (x2 : Int) (x3 : Int) (l4 : List Int) (l5 : List Int) : evLab ctx (exact_step.orc k) L exact_step.note Tryz.f222 2 exact_step.κ 0 (mkE 186 0 [(0, .own 0), (1, .own 1), (5, .data (.int .i64) x0), (6, .data (.int .u64) x1), (7, .data (.int .u64) x2), (8, .data (.int .u64) x3)]) (ofList [.arr .rw (.int .u64) l4, .arr .ro (.int .u64) l5]) 2 = exact_step.b0 k (fun x0 x1 x2 x3 l4 l5 => L 1 (mkE 186 0 [(0, .own 0), (1, .own 1), (5, .data (.int .i64) x0), (6, .data (.int .u64) x1), (7, .data (.int .u64) x2), (8, .data (.int .u64) x3)]) (ofList [.arr .rw (.int .u64) l4, .arr .ro (.int .u64) l5]) 2) x0 x1 x2 x3 l4 l5 := by
  kernel_rfl
theorem exact_step.b1_eq (k : Nat) (L : Labels (Int × (List Int))) (x0 : Int) (x1 : Int) (x2 : Int) (x3 : Int) (l4 : List Int) (l5 : List Int) : evLab ctx (exact_step.orc k) L exact_step.note Tryz.f222 2 exact_step.κ 1 (mkE 186 0 [(0, .own 0), (1, .own 1), (5, .data (.int .i64) x0), (6, .data (.int .u64) x1), (7, .data (.int .u64) x2), (8, .data (.int .u64) x3)]) (ofList [.arr .rw (.int .u64) l4, .arr .ro (.int .u64) l5]) 2 = exact_step.b1 k (fun x0 x1 x2 x3 l4 l5 => L 2 (mkE 186 0 [(0, .own 0), (1, .own 1), (5, .data (.int .i64) x0), (6, .data (.int .u64) x1), (7, .data (.int .u64) x2), (91, .data .bool x3)]) (ofList [.arr .rw (.int .u64) l4, .arr .ro (.int .u64) l5]) 2) (fun x0 x1 l2 l3 => L 3 (mkE 186 0 [(0, .own 0), (1, .own 1), (5, .data (.int .i64) x0), (6, .data (.int .u64) x1)]) (ofList [.arr .rw (.int .u64) l2, .arr .ro (.int .u64) l3]) 2) x0 x1 x2 x3 l4 l5 := by
  kernel_rfl
theorem exact_step.b2_eq (k : Nat) (L : Labels (Int × (List Int))) (x0 : Int) (x1 : Int) (x2 : Int) (x3 : Bool) (l4 : List Int) (l5 : List Int) : evLab ctx (exact_step.orc k) L exact_step.note Tryz.f222 2 exact_step.κ 2 (mkE 186 0 [(0, .own 0), (1, .own 1), (5, .data (.int .i64) x0), (6, .data (.int .u64) x1), (7, .data (.int .u64) x2), (91, .data .bool x3)]) (ofList [.arr .rw (.int .u64) l4, .arr .ro (.int .u64) l5]) 2 = exact_step.b2 k (fun x0 x1 x2 x3 l4 l5 => L 1 (mkE 186 0 [(0, .own 0), (1, .own 1), (5, .data (.int .i64) x0), (6, .data (.int .u64) x1), (7, .data (.int .u64) x2), (8, .data (.int .u64) x3)]) (ofList [.arr .rw (.int .u64) l4, .arr .ro (.int .u64) l5]) 2) (fun x0 x1 l2 l3 => L 3 (mkE 186 0 [(0, .own 0), (1, .own 1), (5, .data (.int .i64) x0), (6, .data (.int .u64) x1)]) (ofList [.arr .rw (.int .u64) l2, .arr .ro (.int .u64) l3]) 2) x0 x1 x2 x3 l4 l5 := by
  kernel_rfl
theorem exact_step.b3_eq (k : Nat) (L : Labels (Int × (List Int))) (x0 : Int) (x1 : Int) (l2 : List Int) (l3 : List Int) : evLab ctx (exact_step.orc k) L exact_step.note Tryz.f222 2 exact_step.κ 3 (mkE 186 0 [(0, .own 0), (1, .own 1), (5, .data (.int .i64) x0), (6, .data (.int .u64) x1)]) (ofList [.arr .rw (.int .u64) l2, .arr .ro (.int .u64) l3]) 2 = exact_step.b3 k (fun x0 x1 x2 x3 x4 x5 l6 l7 => L 4 (mkE 186 0 [(0, .own 0), (1, .own 1), (5, .data (.int .i64) x0), (6, .data (.int .u64) x1), (11, .data (.int .u64) x2), (12, .data (.int .u64) x3), (104, .data (.int .i64) x4), (105, .data (.int .i64) x5)]) (ofList [.arr .rw (.int .u64) l6, .arr .ro (.int .u64) l7]) 2) x0 x1 l2 l3 := by
  kernel_rfl
theorem exact_step.b4_eq (k : Nat) (L : Labels (Int × (List Int))) (x0 : Int) (x1 : Int) (x2 : Int) (x3 : Int) (x4 : Int) (x5 : Int) (l6 : List Int) (l7 : List Int) : evLab ctx (exact_step.orc k) L exact_step.note Tryz.f222 2 exact_step.κ 4 (mkE 186 0 [(0, .own 0), (1, .own 1), (5, .data (.int .i64) x0), (6, .data (.int .u64) x1), (11, .data (.int .u64) x2), (12, .data (.int .u64) x3), (104, .data (.int .i64) x4), (105, .data (.int .i64) x5)]) (ofList [.arr .rw (.int .u64) l6, .arr .ro (.int .u64) l7]) 2 = exact_step.b4 k (fun x0 x1 x2 x3 x4 x5 l6 l7 => L 4 (mkE 186 0 [(0, .own 0), (1, .own 1), (5, .data (.int .i64) x0), (6, .data (.int .u64) x1), (11, .data (.int .u64) x2), (12, .data (.int .u64) x3), (104, .data (.int .i64) x4), (105, .data (.int .i64) x5)]) (ofList [.arr .rw (.int .u64) l6, .arr .ro (.int .u64) l7]) 2) (fun x0 x1 x2 x3 x4 l5 l6 => L 5 (mkE 186 0 [(0, .own 0), (1, .own 1), (5, .data (.int .i64) x0), (6, .data (.int .u64) x1), (17, .data (.int .u64) x2), (156, .data (.int .i64) x3), (157, .data (.int .i64) x4)]) (ofList [.arr .rw (.int .u64) l5, .arr .ro (.int .u64) l6]) 2) x0 x1 x2 x3 x4 x5 l6 l7 := by
  kernel_rfl
theorem exact_step.b5_eq (k : Nat) (L : Labels (Int × (List Int))) (x0 : Int) (x1 : Int) (x2 : Int) (x3 : Int) (x4 : Int) (l5 : List Int) (l6 : List Int) : evLab ctx (exact_step.orc k) L exact_step.note Tryz.f222 2 exact_step.κ 5 (mkE 186 0 [(0, .own 0), (1, .own 1), (5, .data (.int .i64) x0), (6, .data (.int .u64) x1), (17, .data (.int .u64) x2), (156, .data (.int .i64) x3), (157, .data (.int .i64) x4)]) (ofList [.arr .rw (.int .u64) l5, .arr .ro (.int .u64) l6]) 2 = exact_step.b5 k (fun x0 x1 x2 x3 x4 l5 l6 => L 5 (mkE 186 0 [(0, .own 0), (1, .own 1), (5, .data (.int .i64) x0), (6, .data (.int .u64) x1), (17, .data (.int .u64) x2), (156, .data (.int .i64) x3), (157, .data (.int .i64) x4)]) (ofList [.arr .rw (.int .u64) l5, .arr .ro (.int .u64) l6]) 2) x0 x1 x2 x3 x4 l5 l6 := by
  kernel_rfl
theorem exact_step.run (k : Nat) : ∀ n : Nat, (∀ (x0 : Int) (x1 : Int) (x2 : Int) (x3 : Int) (l4 : List Int) (l5 : List Int), evRun ctx (exact_step.orc k) exact_step.note Tryz.f222 2 exact_step.κ n 0 (mkE 186 0 [(0, .own 0), (1, .own 1), (5, .data (.int .i64) x0), (6, .data (.int .u64) x1), (7, .data (.int .u64) x2), (8, .data (.int .u64) x3)]) (ofList [.arr .rw (.int .u64) l4, .arr .ro (.int .u64) l5]) 2 = exact_step.l0 k n x0 x1 x2 x3 l4 l5) ∧ (∀ (x0 : Int) (x1 : Int) (x2 : Int) (x3 : Int) (l4 : List Int) (l5 : List Int), evRun ctx (exact_step.orc k) exact_step.note Tryz.f222 2 exact_step.κ n 1 (mkE 186 0 [(0, .own 0), (1, .own 1), (5, .data (.int .i64) x0), (6, .data (.int .u64) x1), (7, .data (.int .u64) x2), (8, .data (.int .u64) x3)]) (ofList [.arr .rw (.int .u64) l4, .arr .ro (.int .u64) l5]) 2 = exact_step.l1 k n x0 x1 x2 x3 l4 l5) ∧ (∀ (x0 : Int) (x1 : Int) (x2 : Int) (x3 : Bool) (l4 : List Int) (l5 : List Int), evRun ctx (exact_step.orc k) exact_step.note Tryz.f222 2 exact_step.κ n 2 (mkE 186 0 [(0, .own 0), (1, .own 1), (5, .data (.int .i64) x0), (6, .data (.int .u64) x1), (7, .data (.int .u64) x2), (91, .data .bool x3)]) (ofList [.arr .rw (.int .u64) l4, .arr .ro (.int .u64) l5]) 2 = exact_step.l2 k n x0 x1 x2 x3 l4 l5) ∧ (∀ (x0 : Int) (x1 : Int) (l2 : List Int) (l3 : List Int), evRun ctx (exact_step.orc k) exact_step.note Tryz.f222 2 exact_step.κ n 3 (mkE 186 0 [(0, .own 0), (1, .own 1), (5, .data (.int .i64) x0), (6, .data (.int .u64) x1)]) (ofList [.arr .rw (.int .u64) l2, .arr .ro (.int .u64) l3]) 2 = exact_step.l3 k n x0 x1 l2 l3) ∧ (∀ (x0 : Int) (x1 : Int) (x2 : Int) (x3 : Int) (x4 : Int) (x5 : Int) (l6 : List Int) (l7 : List Int), evRun ctx (exact_step.orc k) exact_step.note Tryz.f222 2 exact_step.κ n 4 (mkE 186 0 [(0, .own 0), (1, .own 1), (5, .data (.int .i64) x0), (6, .data (.int .u64) x1), (11, .data (.int .u64) x2), (12, .data (.int .u64) x3), (104, .data (.int .i64) x4), (105, .data (.int .i64) x5)]) (ofList [.arr .rw (.int .u64) l6, .arr .ro (.int .u64) l7]) 2 = exact_step.l4 k n x0 x1 x2 x3 x4 x5 l6 l7) ∧ (∀ (x0 : Int) (x1 : Int) (x2 : Int) (x3 : Int) (x4 : Int) (l5 : List Int) (l6 : List Int), evRun ctx (exact_step.orc k) exact_step.note Tryz.f222 2 exact_step.κ n 5 (mkE 186 0 [(0, .own 0), (1, .own 1), (5, .data (.int .i64) x0), (6, .data (.int .u64) x1), (17, .data (.int .u64) x2), (156, .data (.int .i64) x3), (157, .data (.int .i64) x4)]) (ofList [.arr .rw (.int .u64) l5, .arr .ro (.int .u64) l6]) 2 = exact_step.l5 k n x0 x1 x2 x3 x4 l5 l6) := by
  intro n
  induction n with
  | zero => exact ⟨fun _ _ _ _ _ _ => rfl, fun _ _ _ _ _ _ => rfl, fun _ _ _ _ _ _ => rfl, fun _ _ _ _ => rfl, fun _ _ _ _ _ _ _ _ => rfl, fun _ _ _ _ _ _ _ => rfl⟩
  | succ n ih =>
    have ⟨h0, h1, h2, h3, h4, h5⟩ := ih
    refine ⟨?_, ?_, ?_, ?_, ?_, ?_⟩
    · intro x0 x1 x2 x3 l4 l5; refine (exact_step.b0_eq k (evRun ctx (exact_step.orc k) exact_step.note Tryz.f222 2 exact_step.κ n) x0 x1 x2 x3 l4 l5).trans ?_
      simp only [h1]
      rfl
    · intro x0 x1 x2 x3 l4 l5; refine (exact_step.b1_eq k (evRun ctx (exact_step.orc k) exact_step.note Tryz.f222 2 exact_step.κ n) x0 x1 x2 x3 l4 l5).trans ?_
      simp only [h2, h3]
      rfl
    · intro x0 x1 x2 x3 l4 l5; refine (exact_step.b2_eq k (evRun ctx (exact_step.orc k) exact_step.note Tryz.f222 2 exact_step.κ n) x0 x1 x2 x3 l4 l5).trans ?_
      simp only [h1, h3]
      rfl
    · intro x0 x1 l2 l3; refine (exact_step.b3_eq k (evRun ctx (exact_step.orc k) exact_step.note Tryz.f222 2 exact_step.κ n) x0 x1 l2 l3).trans ?_
      simp only [h4]
      rfl
    · intro x0 x1 x2 x3 x4 x5 l6 l7; refine (exact_step.b4_eq k (evRun ctx (exact_step.orc k) exact_step.note Tryz.f222 2 exact_step.κ n) x0 x1 x2 x3 x4 x5 l6 l7).trans ?_
      simp only [h4, h5]
      rfl
    · intro x0 x1 x2 x3 x4 l5 l6; refine (exact_step.b5_eq k (evRun ctx (exact_step.orc k) exact_step.note Tryz.f222 2 exact_step.κ n) x0 x1 x2 x3 x4 l5 l6).trans ?_
      simp only [h5]
      rfl
theorem exact_step.fn_eq (k : Nat) (a0 : List Int) (a1 : List Int) : evFunc ctx (exact_step.orc k) k exact_step.note Tryz.f222 [.mut (.int .u64) a0, .data (.slice (.int .u64)) a1] exact_step.κ = exact_step k a0 a1 := by
  refine (exact_step.top_eq k (evRun ctx (exact_step.orc k) exact_step.note Tryz.f222 2 exact_step.κ k) a0 a1).trans ?_
  have ⟨h0, h1, h2, h3, h4, h5⟩ := exact_step.run k k
  simp only [h0]
  rfl
theorem exact_step.sound {β : Type} (k : Nat) : FunOK Tryz.prog ctx 222 (exact_step.C k : Fun β) := by
  intro xs κ r h
  rcases xs with _ | ⟨a0, _ | ⟨a1, _ | ⟨x', l'⟩⟩⟩
  · exact no h
  · exact no h
  · obtain ⟨x0, rfl, h1⟩ := A.unMut_some h
    obtain ⟨x1, rfl, h2⟩ := A.un_some h1
    obtain ⟨res, hr, hf⟩ := bnd h2
    refine ⟨[.data (.int .u64) res.1, .upd 0 (.int .u64) res.2], fun_ok' ctx_ok mixed_ok (f := 222) (fn := Tryz.f222) (n := exact_step.note) (by kernel_rfl) (by kernel_rfl) (orc_sound (orc_cons (add64.sound) (orc_cons (bits_Mul64.sound) (orc_cons (sub64.sound) (orc_cons (bits_Div64.sound k) (orc_nil)))))) ((exact_step.fn_eq k x0 x1).trans hr) ?_, hf⟩
    intro rs' h
    rcases rs' with _ | ⟨r0, _ | ⟨r1, _ | ⟨x', l'⟩⟩⟩
    · exact no h
    · exact no h
    · obtain ⟨y0, rfl, h0⟩ := R.un_some h
      obtain ⟨y1, rfl, h1⟩ := R.unUpd_some h0
      obtain rfl := inj h1
      rfl
    · exact no h
  · exact no h
theorem exact_divide.top_eq (k : Nat) (L : Labels ((List Int) × (List Int))) (a0 : List Int) (a1 : List Int) : evTop ctx (exact_divide.orc k) L exact_divide.note Tryz.f198 [.data (.slice (.int .u64)) a0, .data (.slice (.int .u64)) a1] exact_divide.κ = exact_divide.top k (fun x0 x1 l2 l3 l4 => L 0 (mkE 137 0 [(0, .own 0), (1, .own 1), (6, .own 2), (7, .data (.int .u64) x0), (8, .data (.int .i64) x1)]) (ofList [.arr .ro (.int .u64) l2, .arr .ro (.int .u64) l3, .arr .own (.int .u64) l4]) 3) (fun x0 n1 x2 x3 l4 l5 l6 => L 1 (mkE 137 0 [(9, .data (.int .i64) x0), (10, .sl 2 0 n1), (11, .own 3), (12, .data (.int .i64) x2), (13, .own 4), (14, .data (.int .i64) x3)]) (ofList [.dead, .dead, .arr .own (.int .u64) l4, .arr .own (.int .u64) l5, .arr .own (.int .u64) l6]) 5) a0 a1 := by
  kernel_rfl
theorem exact_divide.b0_eq (k : Nat) (L : Labels ((List Int) × (List Int))) (x0 : Int) (x1 : Int) (l2 : List Int) (l3 : List Int) (l4 : List Int) : evLab ctx (exact_divide.orc k) L exact_divide.note Tryz.f198 2 exact_divide.κ 0 (mkE 137 0 [(0, .own 0), (1, .own 1), (6, .own 2), (7, .data (.int .u64) x0), (8, .data (.int .i64) x1)]) (ofList [.arr .ro (.int .u64) l2, .arr .ro (.int .u64) l3, .arr .own (.int .u64) l4]) 3 = exact_divide.b0 k (fun x0 x1 l2 l3 l4 => L 0 (mkE 137 0 [(0, .own 0), (1, .own 1), (6, .own 2), (7, .data (.int .u64) x0), (8, .data (.int .i64) x1)]) (ofList [.arr .ro (.int .u64) l2, .arr .ro (.int .u64) l3, .arr .own (.int .u64) l4]) 3) x0 x1 l2 l3 l4 := by
  kernel_rfl
theorem exact_divide.b1_eq (k : Nat) (L : Labels ((List Int) × (List Int))) (x0 : Int) (n1 : Nat) (x2 : Int) (x3 : Int) (l4 : List Int) (l5 : List Int) (l6 : List Int) : evLab ctx (exact_divide.orc k) L exact_divide.note Tryz.f198 2 exact_divide.κ 1 (mkE 137 0 [(9, .data (.int .i64) x0), (10, .sl 2 0 n1), (11, .own 3), (12, .data (.int .i64) x2), (13, .own 4), (14, .data (.int .i64) x3)]) (ofList [.dead, .dead, .arr .own (.int .u64) l4, .arr .own (.int .u64) l5, .arr .own (.int .u64) l6]) 5 = exact_divide.b1 k (fun x0 n1 x2 x3 l4 l5 l6 => L 1 (mkE 137 0 [(9, .data (.int .i64) x0), (10, .sl 2 0 n1), (11, .own 3), (12, .data (.int .i64) x2), (13, .own 4), (14, .data (.int .i64) x3)]) (ofList [.dead, .dead, .arr .own (.int .u64) l4, .arr .own (.int .u64) l5, .arr .own (.int .u64) l6]) 5) (fun x0 x1 x2 x3 l4 l5 => L 2 (mkE 137 0 [(9, .data (.int .i64) x0), (11, .own 2), (12, .data (.int .i64) x1), (13, .own 3), (96, .data (.int .i64) x2), (97, .data (.int .i64) x3)]) (ofList [.dead, .dead, .arr .own (.int .u64) l4, .arr .own (.int .u64) l5]) 4) x0 n1 x2 x3 l4 l5 l6 := by
  kernel_rfl
theorem exact_divide.b2_eq (k : Nat) (L : Labels ((List Int) × (List Int))) (x0 : Int) (x1 : Int) (x2 : Int) (x3 : Int) (l4 : List Int) (l5 : List Int) : evLab ctx (exact_divide.orc k) L exact_divide.note Tryz.f198 2 exact_divide.κ 2 (mkE 137 0 [(9, .data (.int .i64) x0), (11, .own 2), (12, .data (.int .i64) x1), (13, .own 3), (96, .data (.int .i64) x2), (97, .data (.int .i64) x3)]) (ofList [.dead, .dead, .arr .own (.int .u64) l4, .arr .own (.int .u64) l5]) 4 = exact_divide.b2 k (fun x0 x1 x2 x3 l4 l5 => L 2 (mkE 137 0 [(9, .data (.int .i64) x0), (11, .own 2), (12, .data (.int .i64) x1), (13, .own 3), (96, .data (.int .i64) x2), (97, .data (.int .i64) x3)]) (ofList [.dead, .dead, .arr .own (.int .u64) l4, .arr .own (.int .u64) l5]) 4) x0 x1 x2 x3 l4 l5 := by
  kernel_rfl
theorem exact_divide.run (k : Nat) : ∀ n : Nat, (∀ (x0 : Int) (x1 : Int) (l2 : List Int) (l3 : List Int) (l4 : List Int), evRun ctx (exact_divide.orc k) exact_divide.note Tryz.f198 2 exact_divide.κ n 0 (mkE 137 0 [(0, .own 0), (1, .own 1), (6, .own 2), (7, .data (.int .u64) x0), (8, .data (.int .i64) x1)]) (ofList [.arr .ro (.int .u64) l2, .arr .ro (.int .u64) l3, .arr .own (.int .u64) l4]) 3 = exact_divide.l0 k n x0 x1 l2 l3 l4) ∧ (∀ (x0 : Int) (n1 : Nat) (x2 : Int) (x3 : Int) (l4 : List Int) (l5 : List Int) (l6 : List Int), evRun ctx (exact_divide.orc k) exact_divide.note Tryz.f198 2 exact_divide.κ n 1 (mkE 137 0 [(9, .data (.int .i64) x0), (10, .sl 2 0 n1), (11, .own 3), (12, .data (.int .i64) x2), (13, .own 4), (14, .data (.int .i64) x3)]) (ofList [.dead, .dead, .arr .own (.int .u64) l4, .arr .own (.int .u64) l5, .arr .own (.int .u64) l6]) 5 = exact_divide.l1 k n x0 n1 x2 x3 l4 l5 l6) ∧ (∀ (x0 : Int) (x1 : Int) (x2 : Int) (x3 : Int) (l4 : List Int) (l5 : List Int), evRun ctx (exact_divide.orc k) exact_divide.note Tryz.f198 2 exact_divide.κ n 2 (mkE 137 0 [(9, .data (.int .i64) x0), (11, .own 2), (12, .data (.int .i64) x1), (13, .own 3), (96, .data (.int .i64) x2), (97, .data (.int .i64) x3)]) (ofList [.dead, .dead, .arr .own (.int .u64) l4, .arr .own (.int .u64) l5]) 4 = exact_divide.l2 k n x0 x1 x2 x3 l4 l5) := by
  intro n
  induction n with
  | zero => exact ⟨fun _ _ _ _ _ => rfl, fun _ _ _ _ _ _ _ => rfl, fun _ _ _ _ _ _ => rfl⟩
  | succ n ih =>
    have ⟨h0, h1, h2⟩ := ih
    refine ⟨?_, ?_, ?_⟩
    · intro x0 x1 l2 l3 l4; refine (exact_divide.b0_eq k (evRun ctx (exact_divide.orc k) exact_divide.note Tryz.f198 2 exact_divide.κ n) x0 x1 l2 l3 l4).trans ?_
      simp only [h0]
      rfl
    · intro x0 n1 x2 x3 l4 l5 l6; refine (exact_divide.b1_eq k (evRun ctx (exact_divide.orc k) exact_divide.note Tryz.f198 2 exact_divide.κ n) x0 n1 x2 x3 l4 l5 l6).trans ?_
      simp only [h1, h2]
      rfl
    · intro x0 x1 x2 x3 l4 l5; refine (exact_divide.b2_eq k (evRun ctx (exact_divide.orc k) exact_divide.note Tryz.f198 2 exact_divide.κ n) x0 x1 x2 x3 l4 l5).trans ?_
      simp only [h2]
      rfl
theorem exact_divide.fn_eq (k : Nat) (a0 : List Int) (a1 : List Int) : evFunc ctx (exact_divide.orc k) k exact_divide.note Tryz.f198 [.data (.slice (.int .u64)) a0, .data (.slice (.int .u64)) a1] exact_divide.κ = exact_divide k a0 a1 := by
  refine (exact_divide.top_eq k (evRun ctx (exact_divide.orc k) exact_divide.note Tryz.f198 2 exact_divide.κ k) a0 a1).trans ?_
  have ⟨h0, h1, h2⟩ := exact_divide.run k k
  simp only [h0, h1]
  rfl
theorem exact_divide.sound {β : Type} (k : Nat) : FunOK Tryz.prog ctx 198 (exact_divide.C k : Fun β) := by
  intro xs κ r h
  rcases xs with _ | ⟨a0, _ | ⟨a1, _ | ⟨x', l'⟩⟩⟩
  · exact no h
  · exact no h
  · obtain ⟨x0, rfl, h1⟩ := A.un_some h
    obtain ⟨x1, rfl, h2⟩ := A.un_some h1
    obtain ⟨res, hr, hf⟩ := bnd h2
    refine ⟨[.own (.int .u64) res.1, .data (.slice (.int .u64)) res.2], fun_ok' ctx_ok mixed_ok (f := 198) (fn := Tryz.f198) (n := exact_divide.note) (by kernel_rfl) (by kernel_rfl) (orc_sound (orc_cons (exact_compareWords.sound k) (orc_cons (bits_Div64.sound k) (orc_cons (exact_trim.sound k) (orc_cons (bits_LeadingZeros64.sound k) (orc_cons (exact_shiftUp.sound k) (orc_cons (exact_step.sound k) (orc_nil)))))))) ((exact_divide.fn_eq k x0 x1).trans hr) ?_, hf⟩
    intro rs' h
    rcases rs' with _ | ⟨r0, _ | ⟨r1, _ | ⟨x', l'⟩⟩⟩
    · exact no h
    · exact no h
    · obtain ⟨y0, rfl, h0⟩ := R.unOwn_some h
      obtain ⟨y1, rfl, h1⟩ := R.un_some h0
      obtain rfl := inj h1
      rfl
    · exact no h
  · exact no h
theorem exact_pack.top_eq (k : Nat) (L : Labels (ByteArray)) (a0 : List Int) : evTop ctx (exact_pack.orc k) L exact_pack.note Tryz.f199 [.data (.slice (.int .u64)) a0] exact_pack.κ = exact_pack.top k (fun n0 x1 x2 l3 l4 => L 0 (mkE 55 0 [(3, .own 1), (17, .sl 0 0 n0), (18, .data (.int .i64) x1), (19, .data (.int .i64) x2)]) (ofList [.arr .ro (.int .u64) l3, .arr .own (.int .u8) l4]) 2) a0 := by
  kernel_rfl
theorem exact_pack.b0_eq (k : Nat) (L : Labels (ByteArray)) (n0 : Nat) (x1 : Int) (x2 : Int) (l3 : List Int) (l4 : List Int) : evLab ctx (exact_pack.orc k) L exact_pack.note Tryz.f199 1 exact_pack.κ 0 (mkE 55 0 [(3, .own 1), (17, .sl 0 0 n0), (18, .data (.int .i64) x1), (19, .data (.int .i64) x2)]) (ofList [.arr .ro (.int .u64) l3, .arr .own (.int .u8) l4]) 2 = exact_pack.b0 k (fun x0 x1 n2 x3 x4 x5 l6 l7 => L 1 (mkE 55 0 [(3, .own 1), (4, .data (.int .i64) x0), (5, .data (.int .u64) x1), (17, .sl 0 0 n2), (18, .data (.int .i64) x3), (19, .data (.int .i64) x4), (24, .data (.int .i64) x5)]) (ofList [.arr .ro (.int .u64) l6, .arr .own (.int .u8) l7]) 2) (fun x0 l1 => L 2 (mkE 55 0 [(3, .own 1), (7, .data (.int .i64) x0)]) (ofList [.dead, .arr .own (.int .u8) l1]) 2) n0 x1 x2 l3 l4 := by
  kernel_rfl
theorem exact_pack.b1_eq (k : Nat) (L : Labels (ByteArray)) (x0 : Int) (x1 : Int) (n2 : Nat) (x3 : Int) (x4 : Int) (x5 : Int) (l6 : List Int) (l7 : List Int) : evLab ctx (exact_pack.orc k) L exact_pack.note Tryz.f199 1 exact_pack.κ 1 (mkE 55 0 [(3, .own 1), (4, .data (.int .i64) x0), (5, .data (.int .u64) x1), (17, .sl 0 0 n2), (18, .data (.int .i64) x3), (19, .data (.int .i64) x4), (24, .data (.int .i64) x5)]) (ofList [.arr .ro (.int .u64) l6, .arr .own (.int .u8) l7]) 2 = exact_pack.b1 k (fun n0 x1 x2 l3 l4 => L 0 (mkE 55 0 [(3, .own 1), (17, .sl 0 0 n0), (18, .data (.int .i64) x1), (19, .data (.int .i64) x2)]) (ofList [.arr .ro (.int .u64) l3, .arr .own (.int .u8) l4]) 2) (fun x0 x1 n2 x3 x4 x5 l6 l7 => L 1 (mkE 55 0 [(3, .own 1), (4, .data (.int .i64) x0), (5, .data (.int .u64) x1), (17, .sl 0 0 n2), (18, .data (.int .i64) x3), (19, .data (.int .i64) x4), (24, .data (.int .i64) x5)]) (ofList [.arr .ro (.int .u64) l6, .arr .own (.int .u8) l7]) 2) x0 x1 n2 x3 x4 x5 l6 l7 := by
  kernel_rfl
theorem exact_pack.b2_eq (k : Nat) (L : Labels (ByteArray)) (x0 : Int) (l1 : List Int) : evLab ctx (exact_pack.orc k) L exact_pack.note Tryz.f199 1 exact_pack.κ 2 (mkE 55 0 [(3, .own 1), (7, .data (.int .i64) x0)]) (ofList [.dead, .arr .own (.int .u8) l1]) 2 = exact_pack.b2 k (fun x0 l1 => L 2 (mkE 55 0 [(3, .own 1), (7, .data (.int .i64) x0)]) (ofList [.dead, .arr .own (.int .u8) l1]) 2) x0 l1 := by
  kernel_rfl
theorem exact_pack.run (k : Nat) : ∀ n : Nat, (∀ (n0 : Nat) (x1 : Int) (x2 : Int) (l3 : List Int) (l4 : List Int), evRun ctx (exact_pack.orc k) exact_pack.note Tryz.f199 1 exact_pack.κ n 0 (mkE 55 0 [(3, .own 1), (17, .sl 0 0 n0), (18, .data (.int .i64) x1), (19, .data (.int .i64) x2)]) (ofList [.arr .ro (.int .u64) l3, .arr .own (.int .u8) l4]) 2 = exact_pack.l0 k n n0 x1 x2 l3 l4) ∧ (∀ (x0 : Int) (x1 : Int) (n2 : Nat) (x3 : Int) (x4 : Int) (x5 : Int) (l6 : List Int) (l7 : List Int), evRun ctx (exact_pack.orc k) exact_pack.note Tryz.f199 1 exact_pack.κ n 1 (mkE 55 0 [(3, .own 1), (4, .data (.int .i64) x0), (5, .data (.int .u64) x1), (17, .sl 0 0 n2), (18, .data (.int .i64) x3), (19, .data (.int .i64) x4), (24, .data (.int .i64) x5)]) (ofList [.arr .ro (.int .u64) l6, .arr .own (.int .u8) l7]) 2 = exact_pack.l1 k n x0 x1 n2 x3 x4 x5 l6 l7) ∧ (∀ (x0 : Int) (l1 : List Int), evRun ctx (exact_pack.orc k) exact_pack.note Tryz.f199 1 exact_pack.κ n 2 (mkE 55 0 [(3, .own 1), (7, .data (.int .i64) x0)]) (ofList [.dead, .arr .own (.int .u8) l1]) 2 = exact_pack.l2 k n x0 l1) := by
  intro n
  induction n with
  | zero => exact ⟨fun _ _ _ _ _ => rfl, fun _ _ _ _ _ _ _ _ => rfl, fun _ _ => rfl⟩
  | succ n ih =>
    have ⟨h0, h1, h2⟩ := ih
    refine ⟨?_, ?_, ?_⟩
    · intro n0 x1 x2 l3 l4; refine (exact_pack.b0_eq k (evRun ctx (exact_pack.orc k) exact_pack.note Tryz.f199 1 exact_pack.κ n) n0 x1 x2 l3 l4).trans ?_
      simp only [h1, h2]
      rfl
    · intro x0 x1 n2 x3 x4 x5 l6 l7; refine (exact_pack.b1_eq k (evRun ctx (exact_pack.orc k) exact_pack.note Tryz.f199 1 exact_pack.κ n) x0 x1 n2 x3 x4 x5 l6 l7).trans ?_
      simp only [h0, h1]
      rfl
    · intro x0 l1; refine (exact_pack.b2_eq k (evRun ctx (exact_pack.orc k) exact_pack.note Tryz.f199 1 exact_pack.κ n) x0 l1).trans ?_
      simp only [h2]
      rfl
theorem exact_pack.fn_eq (k : Nat) (a0 : List Int) : evFunc ctx (exact_pack.orc k) k exact_pack.note Tryz.f199 [.data (.slice (.int .u64)) a0] exact_pack.κ = exact_pack k a0 := by
  refine (exact_pack.top_eq k (evRun ctx (exact_pack.orc k) exact_pack.note Tryz.f199 1 exact_pack.κ k) a0).trans ?_
  have ⟨h0, h1, h2⟩ := exact_pack.run k k
  simp only [h0]
  rfl
theorem exact_pack.sound {β : Type} (k : Nat) : FunOK Tryz.prog ctx 199 (exact_pack.C k : Fun β) := by
  intro xs κ r h
  rcases xs with _ | ⟨a0, _ | ⟨x', l'⟩⟩
  · exact no h
  · obtain ⟨x0, rfl, h1⟩ := A.un_some h
    obtain ⟨res, hr, hf⟩ := bnd h1
    refine ⟨[.data .str res], fun_ok' ctx_ok mixed_ok (f := 199) (fn := Tryz.f199) (n := exact_pack.note) (by kernel_rfl) (by kernel_rfl) (orc_sound (orc_cons (exact_trim.sound k) (orc_nil))) ((exact_pack.fn_eq k x0).trans hr) ?_, hf⟩
    intro rs' h
    rcases rs' with _ | ⟨r0, _ | ⟨x', l'⟩⟩
    · exact no h
    · obtain ⟨y0, rfl, h0⟩ := R.un_some h
      obtain rfl := inj h0
      rfl
    · exact no h
  · exact no h
theorem exact_NatGcd.top_eq (k : Nat) (L : Labels (ByteArray)) (a0 : ByteArray) (a1 : ByteArray) : evTop ctx (exact_NatGcd.orc k) L exact_NatGcd.note Tryz.f156 [.data .str a0, .data .str a1] exact_NatGcd.κ = exact_NatGcd.top k (fun x0 x1 => L 0 (mkE 26 0 [(5, .data (.slice (.int .u64)) x0), (6, .data (.slice (.int .u64)) x1)]) (ofList [.dead, .dead]) 2) a0 a1 := by
  kernel_rfl
theorem exact_NatGcd.b0_eq (k : Nat) (L : Labels (ByteArray)) (x0 : List Int) (x1 : List Int) : evLab ctx (exact_NatGcd.orc k) L exact_NatGcd.note Tryz.f156 2 exact_NatGcd.κ 0 (mkE 26 0 [(5, .data (.slice (.int .u64)) x0), (6, .data (.slice (.int .u64)) x1)]) (ofList [.dead, .dead]) 2 = exact_NatGcd.b0 k (fun x0 x1 => L 0 (mkE 26 0 [(5, .data (.slice (.int .u64)) x0), (6, .data (.slice (.int .u64)) x1)]) (ofList [.dead, .dead]) 2) x0 x1 := by
  kernel_rfl
theorem exact_NatGcd.run (k : Nat) : ∀ n : Nat, (∀ (x0 : List Int) (x1 : List Int), evRun ctx (exact_NatGcd.orc k) exact_NatGcd.note Tryz.f156 2 exact_NatGcd.κ n 0 (mkE 26 0 [(5, .data (.slice (.int .u64)) x0), (6, .data (.slice (.int .u64)) x1)]) (ofList [.dead, .dead]) 2 = exact_NatGcd.l0 k n x0 x1) := by
  intro n
  induction n with
  | zero => exact fun _ _ => rfl
  | succ n ih =>
    have h0 := ih
    refine ?_
    · intro x0 x1; refine (exact_NatGcd.b0_eq k (evRun ctx (exact_NatGcd.orc k) exact_NatGcd.note Tryz.f156 2 exact_NatGcd.κ n) x0 x1).trans ?_
      simp only [h0]
      rfl
theorem exact_NatGcd.fn_eq (k : Nat) (a0 : ByteArray) (a1 : ByteArray) : evFunc ctx (exact_NatGcd.orc k) k exact_NatGcd.note Tryz.f156 [.data .str a0, .data .str a1] exact_NatGcd.κ = exact_NatGcd k a0 a1 := by
  refine (exact_NatGcd.top_eq k (evRun ctx (exact_NatGcd.orc k) exact_NatGcd.note Tryz.f156 2 exact_NatGcd.κ k) a0 a1).trans ?_
  have h0 := exact_NatGcd.run k k
  simp only [h0]
  rfl
theorem exact_NatGcd.sound {β : Type} (k : Nat) : FunOK Tryz.prog ctx 156 (exact_NatGcd.C k : Fun β) := by
  intro xs κ r h
  rcases xs with _ | ⟨a0, _ | ⟨a1, _ | ⟨x', l'⟩⟩⟩
  · exact no h
  · exact no h
  · obtain ⟨x0, rfl, h1⟩ := A.un_some h
    obtain ⟨x1, rfl, h2⟩ := A.un_some h1
    obtain ⟨res, hr, hf⟩ := bnd h2
    refine ⟨[.data .str res], fun_ok' ctx_ok mixed_ok (f := 156) (fn := Tryz.f156) (n := exact_NatGcd.note) (by kernel_rfl) (by kernel_rfl) (orc_sound (orc_cons (exact_words.sound k) (orc_cons (exact_divide.sound k) (orc_cons (exact_pack.sound k) (orc_nil))))) ((exact_NatGcd.fn_eq k x0 x1).trans hr) ?_, hf⟩
    intro rs' h
    rcases rs' with _ | ⟨r0, _ | ⟨x', l'⟩⟩
    · exact no h
    · obtain ⟨y0, rfl, h0⟩ := R.un_some h
      obtain rfl := inj h0
      rfl
    · exact no h
  · exact no h
theorem rational_Check.top_eq (k : Nat) (L : Labels (Int)) (a0 : (Bool × ByteArray) × ByteArray) : evTop ctx (rational_Check.orc k) L rational_Check.note Tryz.f97 [.data (.agg (.pair (.agg (.pair .bool .str)) .str)) a0] rational_Check.κ = rational_Check.top k (fun x0 x1 x2 x3 => L 0 (mkE 44 0 [(1, .ptr 1 (.agg (.pair (.agg (.pair .bool .str)) .str)) []), (3, .data (.int .i64) x0), (4, .data (.int .i64) x1), (11, .data .bool x2)]) (ofList [.dead, .var true (.agg (.pair (.agg (.pair .bool .str)) .str)) (.data (.agg (.pair (.agg (.pair .bool .str)) .str)) x3)]) 2) a0 := by
  kernel_rfl
theorem rational_Check.b0_eq (k : Nat) (L : Labels (Int)) (x0 : Int) (x1 : Int) (x2 : Bool) (x3 : (Bool × ByteArray) × ByteArray) : evLab ctx (rational_Check.orc k) L rational_Check.note Tryz.f97 1 rational_Check.κ 0 (mkE 44 0 [(1, .ptr 1 (.agg (.pair (.agg (.pair .bool .str)) .str)) []), (3, .data (.int .i64) x0), (4, .data (.int .i64) x1), (11, .data .bool x2)]) (ofList [.dead, .var true (.agg (.pair (.agg (.pair .bool .str)) .str)) (.data (.agg (.pair (.agg (.pair .bool .str)) .str)) x3)]) 2 = rational_Check.b0 k x0 x1 x2 x3 := by
  kernel_rfl
theorem rational_Check.run (k : Nat) : ∀ n : Nat, (∀ (x0 : Int) (x1 : Int) (x2 : Bool) (x3 : (Bool × ByteArray) × ByteArray), evRun ctx (rational_Check.orc k) rational_Check.note Tryz.f97 1 rational_Check.κ n 0 (mkE 44 0 [(1, .ptr 1 (.agg (.pair (.agg (.pair .bool .str)) .str)) []), (3, .data (.int .i64) x0), (4, .data (.int .i64) x1), (11, .data .bool x2)]) (ofList [.dead, .var true (.agg (.pair (.agg (.pair .bool .str)) .str)) (.data (.agg (.pair (.agg (.pair .bool .str)) .str)) x3)]) 2 = rational_Check.l0 k n x0 x1 x2 x3) := by
  intro n
  induction n with
  | zero => exact fun _ _ _ _ => rfl
  | succ n ih =>
    have h0 := ih
    refine ?_
    · intro x0 x1 x2 x3; refine (rational_Check.b0_eq k (evRun ctx (rational_Check.orc k) rational_Check.note Tryz.f97 1 rational_Check.κ n) x0 x1 x2 x3).trans ?_
      rfl
theorem rational_Check.fn_eq (k : Nat) (a0 : (Bool × ByteArray) × ByteArray) : evFunc ctx (rational_Check.orc k) k rational_Check.note Tryz.f97 [.data (.agg (.pair (.agg (.pair .bool .str)) .str)) a0] rational_Check.κ = rational_Check k a0 := by
  refine (rational_Check.top_eq k (evRun ctx (rational_Check.orc k) rational_Check.note Tryz.f97 1 rational_Check.κ k) a0).trans ?_
  have h0 := rational_Check.run k k
  simp only [h0]
  rfl
theorem rational_Check.sound {β : Type} (k : Nat) : FunOK Tryz.prog ctx 97 (rational_Check.C k : Fun β) := by
  intro xs κ r h
  rcases xs with _ | ⟨a0, _ | ⟨x', l'⟩⟩
  · exact no h
  · obtain ⟨x0, rfl, h1⟩ := A.un_some h
    obtain ⟨res, hr, hf⟩ := bnd h1
    refine ⟨[.data (.int .i64) res], fun_ok' ctx_ok mixed_ok (f := 97) (fn := Tryz.f97) (n := rational_Check.note) (by kernel_rfl) (by kernel_rfl) (orc_sound (orc_cons (integer_Check.sound k) (orc_cons (natural_Check.sound k) (orc_cons (exact_NatGcd.sound k) (orc_nil))))) ((rational_Check.fn_eq k x0).trans hr) ?_, hf⟩
    intro rs' h
    rcases rs' with _ | ⟨r0, _ | ⟨x', l'⟩⟩
    · exact no h
    · obtain ⟨y0, rfl, h0⟩ := R.un_some h
      obtain rfl := inj h0
      rfl
    · exact no h
  · exact no h
theorem enclosure_grid.eq0 (L : Labels (Int)) (a0 : Int) : evTop ctx (enclosure_grid.orc ) L enclosure_grid.note Tryz.f107 [.data (.int .i64) a0] enclosure_grid.κ = enclosure_grid a0 := by
  kernel_rfl
theorem enclosure_grid.fn_eq (a0 : Int) : evFunc ctx (enclosure_grid.orc ) 0 enclosure_grid.note Tryz.f107 [.data (.int .i64) a0] enclosure_grid.κ = enclosure_grid a0 :=
  enclosure_grid.eq0 _ a0
theorem enclosure_grid.sound {β : Type} : FunOK Tryz.prog ctx 107 (enclosure_grid.C : Fun β) := by
  intro xs κ r h
  rcases xs with _ | ⟨a0, _ | ⟨x', l'⟩⟩
  · exact no h
  · unfold enclosure_grid.C at h
    dsimp only at h
    obtain ⟨x0, rfl, h1⟩ := A.un_some h
    obtain ⟨res, hr, hf⟩ := bnd h1
    refine ⟨[.data (.int .i64) res], fun_ok' ctx_ok mixed_ok (f := 107) (fn := Tryz.f107) (n := enclosure_grid.note) (by kernel_rfl) (by kernel_rfl) (orc_sound (orc_nil)) ((enclosure_grid.fn_eq x0).trans hr) ?_, hf⟩
    intro rs' h
    rcases rs' with _ | ⟨r0, _ | ⟨x', l'⟩⟩
    · exact no h
    · obtain ⟨y0, rfl, h0⟩ := R.un_some h
      obtain rfl := inj h0
      rfl
    · exact no h
  · exact no h
theorem enclosure_first.top_eq (L : Labels (Int)) (a0 : List Int) : evTop ctx (enclosure_first.orc ) L enclosure_first.note Tryz.f96 [.data (.slice (.int .i64)) a0] enclosure_first.κ = enclosure_first.top (fun x0 x1 l2 => L 0 (mkE 15 0 [(5, .own 0), (6, .data (.int .i64) x0), (7, .data (.int .i64) x1)]) (ofList [.arr .ro (.int .i64) l2]) 1) a0 := by
  kernel_rfl
theorem enclosure_first.b0_eq (L : Labels (Int)) (x0 : Int) (x1 : Int) (l2 : List Int) : evLab ctx (enclosure_first.orc ) L enclosure_first.note Tryz.f96 1 enclosure_first.κ 0 (mkE 15 0 [(5, .own 0), (6, .data (.int .i64) x0), (7, .data (.int .i64) x1)]) (ofList [.arr .ro (.int .i64) l2]) 1 = enclosure_first.b0 (fun x0 x1 l2 => L 0 (mkE 15 0 [(5, .own 0), (6, .data (.int .i64) x0), (7, .data (.int .i64) x1)]) (ofList [.arr .ro (.int .i64) l2]) 1) x0 x1 l2 := by
  kernel_rfl
theorem enclosure_first.run : ∀ n : Nat, (∀ (x0 : Int) (x1 : Int) (l2 : List Int), evRun ctx (enclosure_first.orc ) enclosure_first.note Tryz.f96 1 enclosure_first.κ n 0 (mkE 15 0 [(5, .own 0), (6, .data (.int .i64) x0), (7, .data (.int .i64) x1)]) (ofList [.arr .ro (.int .i64) l2]) 1 = enclosure_first.l0 n x0 x1 l2) := by
  intro n
  induction n with
  | zero => exact fun _ _ _ => rfl
  | succ n ih =>
    have h0 := ih
    refine ?_
    · intro x0 x1 l2; refine (enclosure_first.b0_eq (evRun ctx (enclosure_first.orc ) enclosure_first.note Tryz.f96 1 enclosure_first.κ n) x0 x1 l2).trans ?_
      simp only [h0]
      rfl
theorem enclosure_first.fn_eq (k : Nat) (a0 : List Int) : evFunc ctx (enclosure_first.orc ) k enclosure_first.note Tryz.f96 [.data (.slice (.int .i64)) a0] enclosure_first.κ = enclosure_first k a0 := by
  refine (enclosure_first.top_eq (evRun ctx (enclosure_first.orc ) enclosure_first.note Tryz.f96 1 enclosure_first.κ k) a0).trans ?_
  have h0 := enclosure_first.run k
  simp only [h0]
  rfl
theorem enclosure_first.sound {β : Type} (k : Nat) : FunOK Tryz.prog ctx 96 (enclosure_first.C k : Fun β) := by
  intro xs κ r h
  rcases xs with _ | ⟨a0, _ | ⟨x', l'⟩⟩
  · exact no h
  · obtain ⟨x0, rfl, h1⟩ := A.un_some h
    obtain ⟨res, hr, hf⟩ := bnd h1
    refine ⟨[.data (.int .i64) res], fun_ok' ctx_ok mixed_ok (f := 96) (fn := Tryz.f96) (n := enclosure_first.note) (by kernel_rfl) (by kernel_rfl) (orc_sound (orc_nil)) ((enclosure_first.fn_eq k x0).trans hr) ?_, hf⟩
    intro rs' h
    rcases rs' with _ | ⟨r0, _ | ⟨x', l'⟩⟩
    · exact no h
    · obtain ⟨y0, rfl, h0⟩ := R.un_some h
      obtain rfl := inj h0
      rfl
    · exact no h
  · exact no h
theorem exact_NatOf.eq0 (k : Nat) (L : Labels (ByteArray)) (a0 : Int) : evTop ctx (exact_NatOf.orc k) L exact_NatOf.note Tryz.f230 [.data (.int .u64) a0] exact_NatOf.κ = exact_NatOf k a0 := by
  kernel_rfl
theorem exact_NatOf.fn_eq (k : Nat) (a0 : Int) : evFunc ctx (exact_NatOf.orc k) k exact_NatOf.note Tryz.f230 [.data (.int .u64) a0] exact_NatOf.κ = exact_NatOf k a0 :=
  exact_NatOf.eq0 k _ a0
theorem exact_NatOf.sound {β : Type} (k : Nat) : FunOK Tryz.prog ctx 230 (exact_NatOf.C k : Fun β) := by
  intro xs κ r h
  rcases xs with _ | ⟨a0, _ | ⟨x', l'⟩⟩
  · exact no h
  · obtain ⟨x0, rfl, h1⟩ := A.un_some h
    obtain ⟨res, hr, hf⟩ := bnd h1
    refine ⟨[.data .str res], fun_ok' ctx_ok mixed_ok (f := 230) (fn := Tryz.f230) (n := exact_NatOf.note) (by kernel_rfl) (by kernel_rfl) (orc_sound (orc_cons (exact_pack.sound k) (orc_nil))) ((exact_NatOf.fn_eq k x0).trans hr) ?_, hf⟩
    intro rs' h
    rcases rs' with _ | ⟨r0, _ | ⟨x', l'⟩⟩
    · exact no h
    · obtain ⟨y0, rfl, h0⟩ := R.un_some h
      obtain rfl := inj h0
      rfl
    · exact no h
  · exact no h
theorem exact_IntOf.eq0 (k : Nat) (L : Labels ((Bool × ByteArray))) (a0 : Int) : evTop ctx (exact_IntOf.orc k) L exact_IntOf.note Tryz.f215 [.data (.int .i64) a0] exact_IntOf.κ = exact_IntOf k a0 := by
  kernel_rfl
theorem exact_IntOf.fn_eq (k : Nat) (a0 : Int) : evFunc ctx (exact_IntOf.orc k) k exact_IntOf.note Tryz.f215 [.data (.int .i64) a0] exact_IntOf.κ = exact_IntOf k a0 :=
  exact_IntOf.eq0 k _ a0
theorem exact_IntOf.sound {β : Type} (k : Nat) : FunOK Tryz.prog ctx 215 (exact_IntOf.C k : Fun β) := by
  intro xs κ r h
  rcases xs with _ | ⟨a0, _ | ⟨x', l'⟩⟩
  · exact no h
  · obtain ⟨x0, rfl, h1⟩ := A.un_some h
    obtain ⟨res, hr, hf⟩ := bnd h1
    refine ⟨[.data (.agg (.pair .bool .str)) res], fun_ok' ctx_ok mixed_ok (f := 215) (fn := Tryz.f215) (n := exact_IntOf.note) (by kernel_rfl) (by kernel_rfl) (orc_sound (orc_cons (exact_NatOf.sound k) (orc_nil))) ((exact_IntOf.fn_eq k x0).trans hr) ?_, hf⟩
    intro rs' h
    rcases rs' with _ | ⟨r0, _ | ⟨x', l'⟩⟩
    · exact no h
    · obtain ⟨y0, rfl, h0⟩ := R.un_some h
      obtain rfl := inj h0
      rfl
    · exact no h
  · exact no h
theorem exact_NatTwo.eq0 (L : Labels (ByteArray)) (a0 : Int) : evTop ctx (exact_NatTwo.orc ) L exact_NatTwo.note Tryz.f157 [.data (.int .i64) a0] exact_NatTwo.κ = exact_NatTwo a0 := by
  kernel_rfl
theorem exact_NatTwo.fn_eq (a0 : Int) : evFunc ctx (exact_NatTwo.orc ) 0 exact_NatTwo.note Tryz.f157 [.data (.int .i64) a0] exact_NatTwo.κ = exact_NatTwo a0 :=
  exact_NatTwo.eq0 _ a0
theorem exact_NatTwo.sound {β : Type} : FunOK Tryz.prog ctx 157 (exact_NatTwo.C : Fun β) := by
  intro xs κ r h
  rcases xs with _ | ⟨a0, _ | ⟨x', l'⟩⟩
  · exact no h
  · unfold exact_NatTwo.C at h
    dsimp only at h
    obtain ⟨x0, rfl, h1⟩ := A.un_some h
    obtain ⟨res, hr, hf⟩ := bnd h1
    refine ⟨[.data .str res], fun_ok' ctx_ok mixed_ok (f := 157) (fn := Tryz.f157) (n := exact_NatTwo.note) (by kernel_rfl) (by kernel_rfl) (orc_sound (orc_nil)) ((exact_NatTwo.fn_eq x0).trans hr) ?_, hf⟩
    intro rs' h
    rcases rs' with _ | ⟨r0, _ | ⟨x', l'⟩⟩
    · exact no h
    · obtain ⟨y0, rfl, h0⟩ := R.un_some h
      obtain rfl := inj h0
      rfl
    · exact no h
  · exact no h
theorem exact_Two.eq0 (k : Nat) (L : Labels (((Bool × ByteArray) × ByteArray))) (a0 : Int) : evTop ctx (exact_Two.orc k) L exact_Two.note Tryz.f204 [.data (.int .i64) a0] exact_Two.κ = exact_Two k a0 := by
  kernel_rfl
theorem exact_Two.fn_eq (k : Nat) (a0 : Int) : evFunc ctx (exact_Two.orc k) k exact_Two.note Tryz.f204 [.data (.int .i64) a0] exact_Two.κ = exact_Two k a0 :=
  exact_Two.eq0 k _ a0
theorem exact_Two.sound {β : Type} (k : Nat) : FunOK Tryz.prog ctx 204 (exact_Two.C k : Fun β) := by
  intro xs κ r h
  rcases xs with _ | ⟨a0, _ | ⟨x', l'⟩⟩
  · exact no h
  · obtain ⟨x0, rfl, h1⟩ := A.un_some h
    obtain ⟨res, hr, hf⟩ := bnd h1
    refine ⟨[.data (.agg (.pair (.agg (.pair .bool .str)) .str)) res], fun_ok' ctx_ok mixed_ok (f := 204) (fn := Tryz.f204) (n := exact_Two.note) (by kernel_rfl) (by kernel_rfl) (orc_sound (orc_cons (exact_IntOf.sound k) (orc_cons (exact_NatTwo.sound) (orc_nil)))) ((exact_Two.fn_eq k x0).trans hr) ?_, hf⟩
    intro rs' h
    rcases rs' with _ | ⟨r0, _ | ⟨x', l'⟩⟩
    · exact no h
    · obtain ⟨y0, rfl, h0⟩ := R.un_some h
      obtain rfl := inj h0
      rfl
    · exact no h
  · exact no h
theorem exact_mulWords.top_eq (k : Nat) (L : Labels ((List Int))) (a0 : List Int) (a1 : List Int) : evTop ctx (exact_mulWords.orc k) L exact_mulWords.note Tryz.f202 [.data (.slice (.int .u64)) a0, .data (.slice (.int .u64)) a1] exact_mulWords.κ = exact_mulWords.top k (fun x0 x1 l2 l3 l4 => L 0 (mkE 80 0 [(1, .own 1), (5, .own 2), (20, .own 0), (21, .data (.int .i64) x0), (22, .data (.int .i64) x1)]) (ofList [.arr .ro (.int .u64) l2, .arr .ro (.int .u64) l3, .arr .own (.int .u64) l4]) 3) a0 a1 := by
  kernel_rfl
theorem exact_mulWords.b0_eq (k : Nat) (L : Labels ((List Int))) (x0 : Int) (x1 : Int) (l2 : List Int) (l3 : List Int) (l4 : List Int) : evLab ctx (exact_mulWords.orc k) L exact_mulWords.note Tryz.f202 2 exact_mulWords.κ 0 (mkE 80 0 [(1, .own 1), (5, .own 2), (20, .own 0), (21, .data (.int .i64) x0), (22, .data (.int .i64) x1)]) (ofList [.arr .ro (.int .u64) l2, .arr .ro (.int .u64) l3, .arr .own (.int .u64) l4]) 3 = exact_mulWords.b0 k (fun x0 x1 x2 x3 x4 x5 x6 l7 l8 l9 => L 1 (mkE 80 0 [(1, .own 1), (5, .own 2), (6, .data (.int .i64) x0), (7, .data (.int .u64) x1), (8, .data (.int .u64) x2), (20, .own 0), (21, .data (.int .i64) x3), (22, .data (.int .i64) x4), (27, .own 1), (28, .data (.int .i64) x5), (29, .data (.int .i64) x6)]) (ofList [.arr .ro (.int .u64) l7, .arr .ro (.int .u64) l8, .arr .own (.int .u64) l9]) 3) x0 x1 l2 l3 l4 := by
  kernel_rfl
theorem exact_mulWords.b1_eq (k : Nat) (L : Labels ((List Int))) (x0 : Int) (x1 : Int) (x2 : Int) (x3 : Int) (x4 : Int) (x5 : Int) (x6 : Int) (l7 : List Int) (l8 : List Int) (l9 : List Int) : evLab ctx (exact_mulWords.orc k) L exact_mulWords.note Tryz.f202 2 exact_mulWords.κ 1 (mkE 80 0 [(1, .own 1), (5, .own 2), (6, .data (.int .i64) x0), (7, .data (.int .u64) x1), (8, .data (.int .u64) x2), (20, .own 0), (21, .data (.int .i64) x3), (22, .data (.int .i64) x4), (27, .own 1), (28, .data (.int .i64) x5), (29, .data (.int .i64) x6)]) (ofList [.arr .ro (.int .u64) l7, .arr .ro (.int .u64) l8, .arr .own (.int .u64) l9]) 3 = exact_mulWords.b1 k (fun x0 x1 l2 l3 l4 => L 0 (mkE 80 0 [(1, .own 1), (5, .own 2), (20, .own 0), (21, .data (.int .i64) x0), (22, .data (.int .i64) x1)]) (ofList [.arr .ro (.int .u64) l2, .arr .ro (.int .u64) l3, .arr .own (.int .u64) l4]) 3) (fun x0 x1 x2 x3 x4 x5 x6 l7 l8 l9 => L 1 (mkE 80 0 [(1, .own 1), (5, .own 2), (6, .data (.int .i64) x0), (7, .data (.int .u64) x1), (8, .data (.int .u64) x2), (20, .own 0), (21, .data (.int .i64) x3), (22, .data (.int .i64) x4), (27, .own 1), (28, .data (.int .i64) x5), (29, .data (.int .i64) x6)]) (ofList [.arr .ro (.int .u64) l7, .arr .ro (.int .u64) l8, .arr .own (.int .u64) l9]) 3) x0 x1 x2 x3 x4 x5 x6 l7 l8 l9 := by
  kernel_rfl
theorem exact_mulWords.run (k : Nat) : ∀ n : Nat, (∀ (x0 : Int) (x1 : Int) (l2 : List Int) (l3 : List Int) (l4 : List Int), evRun ctx (exact_mulWords.orc k) exact_mulWords.note Tryz.f202 2 exact_mulWords.κ n 0 (mkE 80 0 [(1, .own 1), (5, .own 2), (20, .own 0), (21, .data (.int .i64) x0), (22, .data (.int .i64) x1)]) (ofList [.arr .ro (.int .u64) l2, .arr .ro (.int .u64) l3, .arr .own (.int .u64) l4]) 3 = exact_mulWords.l0 k n x0 x1 l2 l3 l4) ∧ (∀ (x0 : Int) (x1 : Int) (x2 : Int) (x3 : Int) (x4 : Int) (x5 : Int) (x6 : Int) (l7 : List Int) (l8 : List Int) (l9 : List Int), evRun ctx (exact_mulWords.orc k) exact_mulWords.note Tryz.f202 2 exact_mulWords.κ n 1 (mkE 80 0 [(1, .own 1), (5, .own 2), (6, .data (.int .i64) x0), (7, .data (.int .u64) x1), (8, .data (.int .u64) x2), (20, .own 0), (21, .data (.int .i64) x3), (22, .data (.int .i64) x4), (27, .own 1), (28, .data (.int .i64) x5), (29, .data (.int .i64) x6)]) (ofList [.arr .ro (.int .u64) l7, .arr .ro (.int .u64) l8, .arr .own (.int .u64) l9]) 3 = exact_mulWords.l1 k n x0 x1 x2 x3 x4 x5 x6 l7 l8 l9) := by
  intro n
  induction n with
  | zero => exact ⟨fun _ _ _ _ _ => rfl, fun _ _ _ _ _ _ _ _ _ _ => rfl⟩
  | succ n ih =>
    have ⟨h0, h1⟩ := ih
    refine ⟨?_, ?_⟩
    · intro x0 x1 l2 l3 l4; refine (exact_mulWords.b0_eq k (evRun ctx (exact_mulWords.orc k) exact_mulWords.note Tryz.f202 2 exact_mulWords.κ n) x0 x1 l2 l3 l4).trans ?_
      simp only [h1]
      rfl
    · intro x0 x1 x2 x3 x4 x5 x6 l7 l8 l9; refine (exact_mulWords.b1_eq k (evRun ctx (exact_mulWords.orc k) exact_mulWords.note Tryz.f202 2 exact_mulWords.κ n) x0 x1 x2 x3 x4 x5 x6 l7 l8 l9).trans ?_
      simp only [h0, h1]
      rfl
theorem exact_mulWords.fn_eq (k : Nat) (a0 : List Int) (a1 : List Int) : evFunc ctx (exact_mulWords.orc k) k exact_mulWords.note Tryz.f202 [.data (.slice (.int .u64)) a0, .data (.slice (.int .u64)) a1] exact_mulWords.κ = exact_mulWords k a0 a1 := by
  refine (exact_mulWords.top_eq k (evRun ctx (exact_mulWords.orc k) exact_mulWords.note Tryz.f202 2 exact_mulWords.κ k) a0 a1).trans ?_
  have ⟨h0, h1⟩ := exact_mulWords.run k k
  simp only [h0]
  rfl
theorem exact_mulWords.sound {β : Type} (k : Nat) : FunOK Tryz.prog ctx 202 (exact_mulWords.C k : Fun β) := by
  intro xs κ r h
  rcases xs with _ | ⟨a0, _ | ⟨a1, _ | ⟨x', l'⟩⟩⟩
  · exact no h
  · exact no h
  · obtain ⟨x0, rfl, h1⟩ := A.un_some h
    obtain ⟨x1, rfl, h2⟩ := A.un_some h1
    obtain ⟨res, hr, hf⟩ := bnd h2
    refine ⟨[.own (.int .u64) res], fun_ok' ctx_ok mixed_ok (f := 202) (fn := Tryz.f202) (n := exact_mulWords.note) (by kernel_rfl) (by kernel_rfl) (orc_sound (orc_cons (bits_Mul64.sound) (orc_cons (add64.sound) (orc_cons (exact_trim.sound k) (orc_nil))))) ((exact_mulWords.fn_eq k x0 x1).trans hr) ?_, hf⟩
    intro rs' h
    rcases rs' with _ | ⟨r0, _ | ⟨x', l'⟩⟩
    · exact no h
    · obtain ⟨y0, rfl, h0⟩ := R.unOwn_some h
      obtain rfl := inj h0
      rfl
    · exact no h
  · exact no h
theorem exact_NatMul.eq0 (k : Nat) (L : Labels (ByteArray)) (a0 : ByteArray) (a1 : ByteArray) : evTop ctx (exact_NatMul.orc k) L exact_NatMul.note Tryz.f161 [.data .str a0, .data .str a1] exact_NatMul.κ = exact_NatMul k a0 a1 := by
  kernel_rfl
theorem exact_NatMul.fn_eq (k : Nat) (a0 : ByteArray) (a1 : ByteArray) : evFunc ctx (exact_NatMul.orc k) k exact_NatMul.note Tryz.f161 [.data .str a0, .data .str a1] exact_NatMul.κ = exact_NatMul k a0 a1 :=
  exact_NatMul.eq0 k _ a0 a1
theorem exact_NatMul.sound {β : Type} (k : Nat) : FunOK Tryz.prog ctx 161 (exact_NatMul.C k : Fun β) := by
  intro xs κ r h
  rcases xs with _ | ⟨a0, _ | ⟨a1, _ | ⟨x', l'⟩⟩⟩
  · exact no h
  · exact no h
  · obtain ⟨x0, rfl, h1⟩ := A.un_some h
    obtain ⟨x1, rfl, h2⟩ := A.un_some h1
    obtain ⟨res, hr, hf⟩ := bnd h2
    refine ⟨[.data .str res], fun_ok' ctx_ok mixed_ok (f := 161) (fn := Tryz.f161) (n := exact_NatMul.note) (by kernel_rfl) (by kernel_rfl) (orc_sound (orc_cons (exact_words.sound k) (orc_cons (exact_mulWords.sound k) (orc_cons (exact_pack.sound k) (orc_nil))))) ((exact_NatMul.fn_eq k x0 x1).trans hr) ?_, hf⟩
    intro rs' h
    rcases rs' with _ | ⟨r0, _ | ⟨x', l'⟩⟩
    · exact no h
    · obtain ⟨y0, rfl, h0⟩ := R.un_some h
      obtain rfl := inj h0
      rfl
    · exact no h
  · exact no h
theorem exact_IntMake.eq0 (L : Labels ((Bool × ByteArray))) (a0 : Bool) (a1 : ByteArray) : evTop ctx (exact_IntMake.orc ) L exact_IntMake.note Tryz.f160 [.data .bool a0, .data .str a1] exact_IntMake.κ = exact_IntMake a0 a1 := by
  kernel_rfl
theorem exact_IntMake.fn_eq (a0 : Bool) (a1 : ByteArray) : evFunc ctx (exact_IntMake.orc ) 0 exact_IntMake.note Tryz.f160 [.data .bool a0, .data .str a1] exact_IntMake.κ = exact_IntMake a0 a1 :=
  exact_IntMake.eq0 _ a0 a1
theorem exact_IntMake.sound {β : Type} : FunOK Tryz.prog ctx 160 (exact_IntMake.C : Fun β) := by
  intro xs κ r h
  rcases xs with _ | ⟨a0, _ | ⟨a1, _ | ⟨x', l'⟩⟩⟩
  · exact no h
  · exact no h
  · unfold exact_IntMake.C at h
    dsimp only at h
    obtain ⟨x0, rfl, h1⟩ := A.un_some h
    obtain ⟨x1, rfl, h2⟩ := A.un_some h1
    obtain ⟨res, hr, hf⟩ := bnd h2
    refine ⟨[.data (.agg (.pair .bool .str)) res], fun_ok' ctx_ok mixed_ok (f := 160) (fn := Tryz.f160) (n := exact_IntMake.note) (by kernel_rfl) (by kernel_rfl) (orc_sound (orc_nil)) ((exact_IntMake.fn_eq x0 x1).trans hr) ?_, hf⟩
    intro rs' h
    rcases rs' with _ | ⟨r0, _ | ⟨x', l'⟩⟩
    · exact no h
    · obtain ⟨y0, rfl, h0⟩ := R.un_some h
      obtain rfl := inj h0
      rfl
    · exact no h
  · exact no h
theorem exact_IntMul.eq0 (k : Nat) (L : Labels ((Bool × ByteArray))) (a0 : Bool × ByteArray) (a1 : Bool × ByteArray) : evTop ctx (exact_IntMul.orc k) L exact_IntMul.note Tryz.f214 [.data (.agg (.pair .bool .str)) a0, .data (.agg (.pair .bool .str)) a1] exact_IntMul.κ = exact_IntMul k a0 a1 := by
  kernel_rfl
theorem exact_IntMul.fn_eq (k : Nat) (a0 : Bool × ByteArray) (a1 : Bool × ByteArray) : evFunc ctx (exact_IntMul.orc k) k exact_IntMul.note Tryz.f214 [.data (.agg (.pair .bool .str)) a0, .data (.agg (.pair .bool .str)) a1] exact_IntMul.κ = exact_IntMul k a0 a1 :=
  exact_IntMul.eq0 k _ a0 a1
theorem exact_IntMul.sound {β : Type} (k : Nat) : FunOK Tryz.prog ctx 214 (exact_IntMul.C k : Fun β) := by
  intro xs κ r h
  rcases xs with _ | ⟨a0, _ | ⟨a1, _ | ⟨x', l'⟩⟩⟩
  · exact no h
  · exact no h
  · obtain ⟨x0, rfl, h1⟩ := A.un_some h
    obtain ⟨x1, rfl, h2⟩ := A.un_some h1
    obtain ⟨res, hr, hf⟩ := bnd h2
    refine ⟨[.data (.agg (.pair .bool .str)) res], fun_ok' ctx_ok mixed_ok (f := 214) (fn := Tryz.f214) (n := exact_IntMul.note) (by kernel_rfl) (by kernel_rfl) (orc_sound (orc_cons (exact_NatMul.sound k) (orc_cons (exact_IntMake.sound) (orc_nil)))) ((exact_IntMul.fn_eq k x0 x1).trans hr) ?_, hf⟩
    intro rs' h
    rcases rs' with _ | ⟨r0, _ | ⟨x', l'⟩⟩
    · exact no h
    · obtain ⟨y0, rfl, h0⟩ := R.un_some h
      obtain rfl := inj h0
      rfl
    · exact no h
  · exact no h
theorem exact_Whole.eq0 (L : Labels (((Bool × ByteArray) × ByteArray))) (a0 : Bool × ByteArray) : evTop ctx (exact_Whole.orc ) L exact_Whole.note Tryz.f212 [.data (.agg (.pair .bool .str)) a0] exact_Whole.κ = exact_Whole a0 := by
  kernel_rfl
theorem exact_Whole.fn_eq (a0 : Bool × ByteArray) : evFunc ctx (exact_Whole.orc ) 0 exact_Whole.note Tryz.f212 [.data (.agg (.pair .bool .str)) a0] exact_Whole.κ = exact_Whole a0 :=
  exact_Whole.eq0 _ a0
theorem exact_Whole.sound {β : Type} : FunOK Tryz.prog ctx 212 (exact_Whole.C : Fun β) := by
  intro xs κ r h
  rcases xs with _ | ⟨a0, _ | ⟨x', l'⟩⟩
  · exact no h
  · unfold exact_Whole.C at h
    dsimp only at h
    obtain ⟨x0, rfl, h1⟩ := A.un_some h
    obtain ⟨res, hr, hf⟩ := bnd h1
    refine ⟨[.data (.agg (.pair (.agg (.pair .bool .str)) .str)) res], fun_ok' ctx_ok mixed_ok (f := 212) (fn := Tryz.f212) (n := exact_Whole.note) (by kernel_rfl) (by kernel_rfl) (orc_sound (orc_nil)) ((exact_Whole.fn_eq x0).trans hr) ?_, hf⟩
    intro rs' h
    rcases rs' with _ | ⟨r0, _ | ⟨x', l'⟩⟩
    · exact no h
    · obtain ⟨y0, rfl, h0⟩ := R.un_some h
      obtain rfl := inj h0
      rfl
    · exact no h
  · exact no h
theorem exact_NatDivMod.eq0 (k : Nat) (L : Labels (ByteArray × ByteArray)) (a0 : ByteArray) (a1 : ByteArray) : evTop ctx (exact_NatDivMod.orc k) L exact_NatDivMod.note Tryz.f226 [.data .str a0, .data .str a1] exact_NatDivMod.κ = exact_NatDivMod k a0 a1 := by
  kernel_rfl
theorem exact_NatDivMod.fn_eq (k : Nat) (a0 : ByteArray) (a1 : ByteArray) : evFunc ctx (exact_NatDivMod.orc k) k exact_NatDivMod.note Tryz.f226 [.data .str a0, .data .str a1] exact_NatDivMod.κ = exact_NatDivMod k a0 a1 :=
  exact_NatDivMod.eq0 k _ a0 a1
theorem exact_NatDivMod.sound {β : Type} (k : Nat) : FunOK Tryz.prog ctx 226 (exact_NatDivMod.C k : Fun β) := by
  intro xs κ r h
  rcases xs with _ | ⟨a0, _ | ⟨a1, _ | ⟨x', l'⟩⟩⟩
  · exact no h
  · exact no h
  · obtain ⟨x0, rfl, h1⟩ := A.un_some h
    obtain ⟨x1, rfl, h2⟩ := A.un_some h1
    obtain ⟨res, hr, hf⟩ := bnd h2
    refine ⟨[.data .str res.1, .data .str res.2], fun_ok' ctx_ok mixed_ok (f := 226) (fn := Tryz.f226) (n := exact_NatDivMod.note) (by kernel_rfl) (by kernel_rfl) (orc_sound (orc_cons (exact_words.sound k) (orc_cons (exact_divide.sound k) (orc_cons (exact_pack.sound k) (orc_nil))))) ((exact_NatDivMod.fn_eq k x0 x1).trans hr) ?_, hf⟩
    intro rs' h
    rcases rs' with _ | ⟨r0, _ | ⟨r1, _ | ⟨x', l'⟩⟩⟩
    · exact no h
    · exact no h
    · obtain ⟨y0, rfl, h0⟩ := R.un_some h
      obtain ⟨y1, rfl, h1⟩ := R.un_some h0
      obtain rfl := inj h1
      rfl
    · exact no h
  · exact no h
theorem exact_Make.eq0 (k : Nat) (L : Labels (((Bool × ByteArray) × ByteArray))) (a0 : Bool × ByteArray) (a1 : Bool × ByteArray) : evTop ctx (exact_Make.orc k) L exact_Make.note Tryz.f205 [.data (.agg (.pair .bool .str)) a0, .data (.agg (.pair .bool .str)) a1] exact_Make.κ = exact_Make k a0 a1 := by
  kernel_rfl
theorem exact_Make.fn_eq (k : Nat) (a0 : Bool × ByteArray) (a1 : Bool × ByteArray) : evFunc ctx (exact_Make.orc k) k exact_Make.note Tryz.f205 [.data (.agg (.pair .bool .str)) a0, .data (.agg (.pair .bool .str)) a1] exact_Make.κ = exact_Make k a0 a1 :=
  exact_Make.eq0 k _ a0 a1
theorem exact_Make.sound {β : Type} (k : Nat) : FunOK Tryz.prog ctx 205 (exact_Make.C k : Fun β) := by
  intro xs κ r h
  rcases xs with _ | ⟨a0, _ | ⟨a1, _ | ⟨x', l'⟩⟩⟩
  · exact no h
  · exact no h
  · obtain ⟨x0, rfl, h1⟩ := A.un_some h
    obtain ⟨x1, rfl, h2⟩ := A.un_some h1
    obtain ⟨res, hr, hf⟩ := bnd h2
    refine ⟨[.data (.agg (.pair (.agg (.pair .bool .str)) .str)) res], fun_ok' ctx_ok mixed_ok (f := 205) (fn := Tryz.f205) (n := exact_Make.note) (by kernel_rfl) (by kernel_rfl) (orc_sound (orc_cons (exact_NatGcd.sound k) (orc_cons (exact_NatDivMod.sound k) (orc_cons (exact_IntMake.sound) (orc_nil))))) ((exact_Make.fn_eq k x0 x1).trans hr) ?_, hf⟩
    intro rs' h
    rcases rs' with _ | ⟨r0, _ | ⟨x', l'⟩⟩
    · exact no h
    · obtain ⟨y0, rfl, h0⟩ := R.un_some h
      obtain rfl := inj h0
      rfl
    · exact no h
  · exact no h
theorem exact_Mul.top_eq (k : Nat) (L : Labels (((Bool × ByteArray) × ByteArray))) (a0 : (Bool × ByteArray) × ByteArray) (a1 : (Bool × ByteArray) × ByteArray) : evTop ctx (exact_Mul.orc k) L exact_Mul.note Tryz.f176 [.data (.agg (.pair (.agg (.pair .bool .str)) .str)) a0, .data (.agg (.pair (.agg (.pair .bool .str)) .str)) a1] exact_Mul.κ = exact_Mul.top k (fun x0 x1 x2 x3 => L 0 (mkE 31 0 [(2, .ptr 2 (.agg (.pair (.agg (.pair .bool .str)) .str)) []), (3, .ptr 3 (.agg (.pair (.agg (.pair .bool .str)) .str)) []), (4, .ptr 4 (.agg (.pair (.agg (.pair .bool .str)) .str)) []), (12, .data .bool x0)]) (ofList [.dead, .dead, .var true (.agg (.pair (.agg (.pair .bool .str)) .str)) (.data (.agg (.pair (.agg (.pair .bool .str)) .str)) x1), .var true (.agg (.pair (.agg (.pair .bool .str)) .str)) (.data (.agg (.pair (.agg (.pair .bool .str)) .str)) x2), .var true (.agg (.pair (.agg (.pair .bool .str)) .str)) (.data (.agg (.pair (.agg (.pair .bool .str)) .str)) x3)]) 5) a0 a1 := by
  kernel_rfl
theorem exact_Mul.b0_eq (k : Nat) (L : Labels (((Bool × ByteArray) × ByteArray))) (x0 : Bool) (x1 : (Bool × ByteArray) × ByteArray) (x2 : (Bool × ByteArray) × ByteArray) (x3 : (Bool × ByteArray) × ByteArray) : evLab ctx (exact_Mul.orc k) L exact_Mul.note Tryz.f176 2 exact_Mul.κ 0 (mkE 31 0 [(2, .ptr 2 (.agg (.pair (.agg (.pair .bool .str)) .str)) []), (3, .ptr 3 (.agg (.pair (.agg (.pair .bool .str)) .str)) []), (4, .ptr 4 (.agg (.pair (.agg (.pair .bool .str)) .str)) []), (12, .data .bool x0)]) (ofList [.dead, .dead, .var true (.agg (.pair (.agg (.pair .bool .str)) .str)) (.data (.agg (.pair (.agg (.pair .bool .str)) .str)) x1), .var true (.agg (.pair (.agg (.pair .bool .str)) .str)) (.data (.agg (.pair (.agg (.pair .bool .str)) .str)) x2), .var true (.agg (.pair (.agg (.pair .bool .str)) .str)) (.data (.agg (.pair (.agg (.pair .bool .str)) .str)) x3)]) 5 = exact_Mul.b0 k x0 x1 x2 x3 := by
  kernel_rfl
theorem exact_Mul.run (k : Nat) : ∀ n : Nat, (∀ (x0 : Bool) (x1 : (Bool × ByteArray) × ByteArray) (x2 : (Bool × ByteArray) × ByteArray) (x3 : (Bool × ByteArray) × ByteArray), evRun ctx (exact_Mul.orc k) exact_Mul.note Tryz.f176 2 exact_Mul.κ n 0 (mkE 31 0 [(2, .ptr 2 (.agg (.pair (.agg (.pair .bool .str)) .str)) []), (3, .ptr 3 (.agg (.pair (.agg (.pair .bool .str)) .str)) []), (4, .ptr 4 (.agg (.pair (.agg (.pair .bool .str)) .str)) []), (12, .data .bool x0)]) (ofList [.dead, .dead, .var true (.agg (.pair (.agg (.pair .bool .str)) .str)) (.data (.agg (.pair (.agg (.pair .bool .str)) .str)) x1), .var true (.agg (.pair (.agg (.pair .bool .str)) .str)) (.data (.agg (.pair (.agg (.pair .bool .str)) .str)) x2), .var true (.agg (.pair (.agg (.pair .bool .str)) .str)) (.data (.agg (.pair (.agg (.pair .bool .str)) .str)) x3)]) 5 = exact_Mul.l0 k n x0 x1 x2 x3) := by
  intro n
  induction n with
  | zero => exact fun _ _ _ _ => rfl
  | succ n ih =>
    have h0 := ih
    refine ?_
    · intro x0 x1 x2 x3; refine (exact_Mul.b0_eq k (evRun ctx (exact_Mul.orc k) exact_Mul.note Tryz.f176 2 exact_Mul.κ n) x0 x1 x2 x3).trans ?_
      rfl
theorem exact_Mul.fn_eq (k : Nat) (a0 : (Bool × ByteArray) × ByteArray) (a1 : (Bool × ByteArray) × ByteArray) : evFunc ctx (exact_Mul.orc k) k exact_Mul.note Tryz.f176 [.data (.agg (.pair (.agg (.pair .bool .str)) .str)) a0, .data (.agg (.pair (.agg (.pair .bool .str)) .str)) a1] exact_Mul.κ = exact_Mul k a0 a1 := by
  refine (exact_Mul.top_eq k (evRun ctx (exact_Mul.orc k) exact_Mul.note Tryz.f176 2 exact_Mul.κ k) a0 a1).trans ?_
  have h0 := exact_Mul.run k k
  simp only [h0]
  rfl
theorem exact_Mul.sound {β : Type} (k : Nat) : FunOK Tryz.prog ctx 176 (exact_Mul.C k : Fun β) := by
  intro xs κ r h
  rcases xs with _ | ⟨a0, _ | ⟨a1, _ | ⟨x', l'⟩⟩⟩
  · exact no h
  · exact no h
  · obtain ⟨x0, rfl, h1⟩ := A.un_some h
    obtain ⟨x1, rfl, h2⟩ := A.un_some h1
    obtain ⟨res, hr, hf⟩ := bnd h2
    refine ⟨[.data (.agg (.pair (.agg (.pair .bool .str)) .str)) res], fun_ok' ctx_ok mixed_ok (f := 176) (fn := Tryz.f176) (n := exact_Mul.note) (by kernel_rfl) (by kernel_rfl) (orc_sound (orc_cons (exact_IntMul.sound k) (orc_cons (exact_Whole.sound) (orc_cons (exact_NatMul.sound k) (orc_cons (exact_Make.sound k) (orc_nil)))))) ((exact_Mul.fn_eq k x0 x1).trans hr) ?_, hf⟩
    intro rs' h
    rcases rs' with _ | ⟨r0, _ | ⟨x', l'⟩⟩
    · exact no h
    · obtain ⟨y0, rfl, h0⟩ := R.un_some h
      obtain rfl := inj h0
      rfl
    · exact no h
  · exact no h
theorem exact_NatAdd.top_eq (k : Nat) (L : Labels (ByteArray)) (a0 : ByteArray) (a1 : ByteArray) : evTop ctx (exact_NatAdd.orc k) L exact_NatAdd.note Tryz.f228 [.data .str a0, .data .str a1] exact_NatAdd.κ = exact_NatAdd.top k (fun l0 l1 => L 0 (mkE 60 0 [(5, .own 2), (6, .own 3)]) (ofList [.dead, .dead, .arr .own (.int .u64) l0, .arr .own (.int .u64) l1]) 4) a0 a1 := by
  kernel_rfl
theorem exact_NatAdd.b0_eq (k : Nat) (L : Labels (ByteArray)) (l0 : List Int) (l1 : List Int) : evLab ctx (exact_NatAdd.orc k) L exact_NatAdd.note Tryz.f228 2 exact_NatAdd.κ 0 (mkE 60 0 [(5, .own 2), (6, .own 3)]) (ofList [.dead, .dead, .arr .own (.int .u64) l0, .arr .own (.int .u64) l1]) 4 = exact_NatAdd.b0 k (fun x0 x1 x2 l3 l4 l5 => L 1 (mkE 60 0 [(5, .own 2), (6, .own 3), (7, .own 4), (8, .data (.int .u64) x0), (27, .data (.int .i64) x1), (28, .data (.int .i64) x2)]) (ofList [.dead, .dead, .arr .own (.int .u64) l3, .arr .own (.int .u64) l4, .arr .own (.int .u64) l5]) 5) l0 l1 := by
  kernel_rfl
theorem exact_NatAdd.b1_eq (k : Nat) (L : Labels (ByteArray)) (x0 : Int) (x1 : Int) (x2 : Int) (l3 : List Int) (l4 : List Int) (l5 : List Int) : evLab ctx (exact_NatAdd.orc k) L exact_NatAdd.note Tryz.f228 2 exact_NatAdd.κ 1 (mkE 60 0 [(5, .own 2), (6, .own 3), (7, .own 4), (8, .data (.int .u64) x0), (27, .data (.int .i64) x1), (28, .data (.int .i64) x2)]) (ofList [.dead, .dead, .arr .own (.int .u64) l3, .arr .own (.int .u64) l4, .arr .own (.int .u64) l5]) 5 = exact_NatAdd.b1 k (fun x0 x1 x2 l3 l4 l5 => L 1 (mkE 60 0 [(5, .own 2), (6, .own 3), (7, .own 4), (8, .data (.int .u64) x0), (27, .data (.int .i64) x1), (28, .data (.int .i64) x2)]) (ofList [.dead, .dead, .arr .own (.int .u64) l3, .arr .own (.int .u64) l4, .arr .own (.int .u64) l5]) 5) x0 x1 x2 l3 l4 l5 := by
  kernel_rfl
theorem exact_NatAdd.run (k : Nat) : ∀ n : Nat, (∀ (l0 : List Int) (l1 : List Int), evRun ctx (exact_NatAdd.orc k) exact_NatAdd.note Tryz.f228 2 exact_NatAdd.κ n 0 (mkE 60 0 [(5, .own 2), (6, .own 3)]) (ofList [.dead, .dead, .arr .own (.int .u64) l0, .arr .own (.int .u64) l1]) 4 = exact_NatAdd.l0 k n l0 l1) ∧ (∀ (x0 : Int) (x1 : Int) (x2 : Int) (l3 : List Int) (l4 : List Int) (l5 : List Int), evRun ctx (exact_NatAdd.orc k) exact_NatAdd.note Tryz.f228 2 exact_NatAdd.κ n 1 (mkE 60 0 [(5, .own 2), (6, .own 3), (7, .own 4), (8, .data (.int .u64) x0), (27, .data (.int .i64) x1), (28, .data (.int .i64) x2)]) (ofList [.dead, .dead, .arr .own (.int .u64) l3, .arr .own (.int .u64) l4, .arr .own (.int .u64) l5]) 5 = exact_NatAdd.l1 k n x0 x1 x2 l3 l4 l5) := by
  intro n
  induction n with
  | zero => exact ⟨fun _ _ => rfl, fun _ _ _ _ _ _ => rfl⟩
  | succ n ih =>
    have ⟨h0, h1⟩ := ih
    refine ⟨?_, ?_⟩
    · intro l0 l1; refine (exact_NatAdd.b0_eq k (evRun ctx (exact_NatAdd.orc k) exact_NatAdd.note Tryz.f228 2 exact_NatAdd.κ n) l0 l1).trans ?_
      simp only [h1]
      rfl
    · intro x0 x1 x2 l3 l4 l5; refine (exact_NatAdd.b1_eq k (evRun ctx (exact_NatAdd.orc k) exact_NatAdd.note Tryz.f228 2 exact_NatAdd.κ n) x0 x1 x2 l3 l4 l5).trans ?_
      simp only [h1]
      rfl
theorem exact_NatAdd.fn_eq (k : Nat) (a0 : ByteArray) (a1 : ByteArray) : evFunc ctx (exact_NatAdd.orc k) k exact_NatAdd.note Tryz.f228 [.data .str a0, .data .str a1] exact_NatAdd.κ = exact_NatAdd k a0 a1 := by
  refine (exact_NatAdd.top_eq k (evRun ctx (exact_NatAdd.orc k) exact_NatAdd.note Tryz.f228 2 exact_NatAdd.κ k) a0 a1).trans ?_
  have ⟨h0, h1⟩ := exact_NatAdd.run k k
  simp only [h0]
  rfl
theorem exact_NatAdd.sound {β : Type} (k : Nat) : FunOK Tryz.prog ctx 228 (exact_NatAdd.C k : Fun β) := by
  intro xs κ r h
  rcases xs with _ | ⟨a0, _ | ⟨a1, _ | ⟨x', l'⟩⟩⟩
  · exact no h
  · exact no h
  · obtain ⟨x0, rfl, h1⟩ := A.un_some h
    obtain ⟨x1, rfl, h2⟩ := A.un_some h1
    obtain ⟨res, hr, hf⟩ := bnd h2
    refine ⟨[.data .str res], fun_ok' ctx_ok mixed_ok (f := 228) (fn := Tryz.f228) (n := exact_NatAdd.note) (by kernel_rfl) (by kernel_rfl) (orc_sound (orc_cons (exact_words.sound k) (orc_cons (add64.sound) (orc_cons (exact_pack.sound k) (orc_nil))))) ((exact_NatAdd.fn_eq k x0 x1).trans hr) ?_, hf⟩
    intro rs' h
    rcases rs' with _ | ⟨r0, _ | ⟨x', l'⟩⟩
    · exact no h
    · obtain ⟨y0, rfl, h0⟩ := R.un_some h
      obtain rfl := inj h0
      rfl
    · exact no h
  · exact no h
theorem exact_NatSub.top_eq (k : Nat) (L : Labels (ByteArray)) (a0 : ByteArray) (a1 : ByteArray) : evTop ctx (exact_NatSub.orc k) L exact_NatSub.note Tryz.f229 [.data .str a0, .data .str a1] exact_NatSub.κ = exact_NatSub.top k (fun x0 x1 x2 l3 l4 => L 0 (mkE 43 0 [(5, .own 2), (6, .own 3), (7, .data (.int .u64) x0), (15, .data (.int .i64) x1), (16, .data (.int .i64) x2)]) (ofList [.dead, .dead, .arr .own (.int .u64) l3, .arr .own (.int .u64) l4]) 4) a0 a1 := by
  kernel_rfl
theorem exact_NatSub.b0_eq (k : Nat) (L : Labels (ByteArray)) (x0 : Int) (x1 : Int) (x2 : Int) (l3 : List Int) (l4 : List Int) : evLab ctx (exact_NatSub.orc k) L exact_NatSub.note Tryz.f229 2 exact_NatSub.κ 0 (mkE 43 0 [(5, .own 2), (6, .own 3), (7, .data (.int .u64) x0), (15, .data (.int .i64) x1), (16, .data (.int .i64) x2)]) (ofList [.dead, .dead, .arr .own (.int .u64) l3, .arr .own (.int .u64) l4]) 4 = exact_NatSub.b0 k (fun x0 x1 x2 l3 l4 => L 0 (mkE 43 0 [(5, .own 2), (6, .own 3), (7, .data (.int .u64) x0), (15, .data (.int .i64) x1), (16, .data (.int .i64) x2)]) (ofList [.dead, .dead, .arr .own (.int .u64) l3, .arr .own (.int .u64) l4]) 4) x0 x1 x2 l3 l4 := by
  kernel_rfl
theorem exact_NatSub.run (k : Nat) : ∀ n : Nat, (∀ (x0 : Int) (x1 : Int) (x2 : Int) (l3 : List Int) (l4 : List Int), evRun ctx (exact_NatSub.orc k) exact_NatSub.note Tryz.f229 2 exact_NatSub.κ n 0 (mkE 43 0 [(5, .own 2), (6, .own 3), (7, .data (.int .u64) x0), (15, .data (.int .i64) x1), (16, .data (.int .i64) x2)]) (ofList [.dead, .dead, .arr .own (.int .u64) l3, .arr .own (.int .u64) l4]) 4 = exact_NatSub.l0 k n x0 x1 x2 l3 l4) := by
  intro n
  induction n with
  | zero => exact fun _ _ _ _ _ => rfl
  | succ n ih =>
    have h0 := ih
    refine ?_
    · intro x0 x1 x2 l3 l4; refine (exact_NatSub.b0_eq k (evRun ctx (exact_NatSub.orc k) exact_NatSub.note Tryz.f229 2 exact_NatSub.κ n) x0 x1 x2 l3 l4).trans ?_
      simp only [h0]
      rfl
theorem exact_NatSub.fn_eq (k : Nat) (a0 : ByteArray) (a1 : ByteArray) : evFunc ctx (exact_NatSub.orc k) k exact_NatSub.note Tryz.f229 [.data .str a0, .data .str a1] exact_NatSub.κ = exact_NatSub k a0 a1 := by
  refine (exact_NatSub.top_eq k (evRun ctx (exact_NatSub.orc k) exact_NatSub.note Tryz.f229 2 exact_NatSub.κ k) a0 a1).trans ?_
  have h0 := exact_NatSub.run k k
  simp only [h0]
  rfl
theorem exact_NatSub.sound {β : Type} (k : Nat) : FunOK Tryz.prog ctx 229 (exact_NatSub.C k : Fun β) := by
  intro xs κ r h
  rcases xs with _ | ⟨a0, _ | ⟨a1, _ | ⟨x', l'⟩⟩⟩
  · exact no h
  · exact no h
  · obtain ⟨x0, rfl, h1⟩ := A.un_some h
    obtain ⟨x1, rfl, h2⟩ := A.un_some h1
    obtain ⟨res, hr, hf⟩ := bnd h2
    refine ⟨[.data .str res], fun_ok' ctx_ok mixed_ok (f := 229) (fn := Tryz.f229) (n := exact_NatSub.note) (by kernel_rfl) (by kernel_rfl) (orc_sound (orc_cons (exact_words.sound k) (orc_cons (sub64.sound) (orc_cons (exact_pack.sound k) (orc_nil))))) ((exact_NatSub.fn_eq k x0 x1).trans hr) ?_, hf⟩
    intro rs' h
    rcases rs' with _ | ⟨r0, _ | ⟨x', l'⟩⟩
    · exact no h
    · obtain ⟨y0, rfl, h0⟩ := R.un_some h
      obtain rfl := inj h0
      rfl
    · exact no h
  · exact no h
end Go.Proofs.YthghchjbomlpfaaGreat.Ev

namespace Go.Proofs.YthghchjbomlpfaaGreat.Ev
set_option linter.unusedVariables false
set_option maxRecDepth 100000
theorem exact_IntDivMod.top_eq (k : Nat) (L : Labels ((Bool × ByteArray) × (Bool × ByteArray))) (a0 : Bool × ByteArray) (a1 : Bool × ByteArray) : evTop ctx (exact_IntDivMod.orc k) L exact_IntDivMod.note Tryz.f225 [.data (.agg (.pair .bool .str)) a0, .data (.agg (.pair .bool .str)) a1] exact_IntDivMod.κ = exact_IntDivMod.top k (fun x0 x1 x2 x3 x4 x5 x6 => L 0 (mkE 38 0 [(2, .ptr 2 (.agg (.pair .bool .str)) []), (3, .ptr 3 (.agg (.pair .bool .str)) []), (4, .ptr 4 (.agg (.pair .bool .str)) []), (5, .ptr 5 (.agg (.pair .bool .str)) []), (6, .data .str x0), (7, .data .str x1), (21, .data .bool x2)]) (ofList [.dead, .dead, .var true (.agg (.pair .bool .str)) (.data (.agg (.pair .bool .str)) x3), .var true (.agg (.pair .bool .str)) (.data (.agg (.pair .bool .str)) x4), .var true (.agg (.pair .bool .str)) (.data (.agg (.pair .bool .str)) x5), .var true (.agg (.pair .bool .str)) (.data (.agg (.pair .bool .str)) x6)]) 6) a0 a1 := by
  kernel_rfl
theorem exact_IntDivMod.b0_eq (k : Nat) (L : Labels ((Bool × ByteArray) × (Bool × ByteArray))) (x0 : ByteArray) (x1 : ByteArray) (x2 : Bool) (x3 : Bool × ByteArray) (x4 : Bool × ByteArray) (x5 : Bool × ByteArray) (x6 : Bool × ByteArray) : evLab ctx (exact_IntDivMod.orc k) L exact_IntDivMod.note Tryz.f225 2 exact_IntDivMod.κ 0 (mkE 38 0 [(2, .ptr 2 (.agg (.pair .bool .str)) []), (3, .ptr 3 (.agg (.pair .bool .str)) []), (4, .ptr 4 (.agg (.pair .bool .str)) []), (5, .ptr 5 (.agg (.pair .bool .str)) []), (6, .data .str x0), (7, .data .str x1), (21, .data .bool x2)]) (ofList [.dead, .dead, .var true (.agg (.pair .bool .str)) (.data (.agg (.pair .bool .str)) x3), .var true (.agg (.pair .bool .str)) (.data (.agg (.pair .bool .str)) x4), .var true (.agg (.pair .bool .str)) (.data (.agg (.pair .bool .str)) x5), .var true (.agg (.pair .bool .str)) (.data (.agg (.pair .bool .str)) x6)]) 6 = exact_IntDivMod.b0 k x0 x1 x2 x3 x4 x5 x6 := by
  kernel_rfl
theorem exact_IntDivMod.run (k : Nat) : ∀ n : Nat, (∀ (x0 : ByteArray) (x1 : ByteArray) (x2 : Bool) (x3 : Bool × ByteArray) (x4 : Bool × ByteArray) (x5 : Bool × ByteArray) (x6 : Bool × ByteArray), evRun ctx (exact_IntDivMod.orc k) exact_IntDivMod.note Tryz.f225 2 exact_IntDivMod.κ n 0 (mkE 38 0 [(2, .ptr 2 (.agg (.pair .bool .str)) []), (3, .ptr 3 (.agg (.pair .bool .str)) []), (4, .ptr 4 (.agg (.pair .bool .str)) []), (5, .ptr 5 (.agg (.pair .bool .str)) []), (6, .data .str x0), (7, .data .str x1), (21, .data .bool x2)]) (ofList [.dead, .dead, .var true (.agg (.pair .bool .str)) (.data (.agg (.pair .bool .str)) x3), .var true (.agg (.pair .bool .str)) (.data (.agg (.pair .bool .str)) x4), .var true (.agg (.pair .bool .str)) (.data (.agg (.pair .bool .str)) x5), .var true (.agg (.pair .bool .str)) (.data (.agg (.pair .bool .str)) x6)]) 6 = exact_IntDivMod.l0 k n x0 x1 x2 x3 x4 x5 x6) := by
  intro n
  induction n with
  | zero => exact fun _ _ _ _ _ _ _ => rfl
  | succ n ih =>
    have h0 := ih
    refine ?_
    · intro x0 x1 x2 x3 x4 x5 x6; refine (exact_IntDivMod.b0_eq k (evRun ctx (exact_IntDivMod.orc k) exact_IntDivMod.note Tryz.f225 2 exact_IntDivMod.κ n) x0 x1 x2 x3 x4 x5 x6).trans ?_
      rfl
theorem exact_IntDivMod.fn_eq (k : Nat) (a0 : Bool × ByteArray) (a1 : Bool × ByteArray) : evFunc ctx (exact_IntDivMod.orc k) k exact_IntDivMod.note Tryz.f225 [.data (.agg (.pair .bool .str)) a0, .data (.agg (.pair .bool .str)) a1] exact_IntDivMod.κ = exact_IntDivMod k a0 a1 := by
  refine (exact_IntDivMod.top_eq k (evRun ctx (exact_IntDivMod.orc k) exact_IntDivMod.note Tryz.f225 2 exact_IntDivMod.κ k) a0 a1).trans ?_
  have h0 := exact_IntDivMod.run k k
  simp only [h0]
  rfl
theorem exact_IntDivMod.sound {β : Type} (k : Nat) : FunOK Tryz.prog ctx 225 (exact_IntDivMod.C k : Fun β) := by
  intro xs κ r h
  rcases xs with _ | ⟨a0, _ | ⟨a1, _ | ⟨x', l'⟩⟩⟩
  · exact no h
  · exact no h
  · obtain ⟨x0, rfl, h1⟩ := A.un_some h
    obtain ⟨x1, rfl, h2⟩ := A.un_some h1
    obtain ⟨res, hr, hf⟩ := bnd h2
    refine ⟨[.data (.agg (.pair .bool .str)) res.1, .data (.agg (.pair .bool .str)) res.2], fun_ok' ctx_ok mixed_ok (f := 225) (fn := Tryz.f225) (n := exact_IntDivMod.note) (by kernel_rfl) (by kernel_rfl) (orc_sound (orc_cons (exact_NatDivMod.sound k) (orc_cons (exact_NatOf.sound k) (orc_cons (exact_NatAdd.sound k) (orc_cons (exact_NatSub.sound k) (orc_cons (exact_IntMake.sound) (orc_nil))))))) ((exact_IntDivMod.fn_eq k x0 x1).trans hr) ?_, hf⟩
    intro rs' h
    rcases rs' with _ | ⟨r0, _ | ⟨r1, _ | ⟨x', l'⟩⟩⟩
    · exact no h
    · exact no h
    · obtain ⟨y0, rfl, h0⟩ := R.un_some h
      obtain ⟨y1, rfl, h1⟩ := R.un_some h0
      obtain rfl := inj h1
      rfl
    · exact no h
  · exact no h
theorem exact_Floor.eq0 (k : Nat) (L : Labels ((Bool × ByteArray))) (a0 : (Bool × ByteArray) × ByteArray) : evTop ctx (exact_Floor.orc k) L exact_Floor.note Tryz.f203 [.data (.agg (.pair (.agg (.pair .bool .str)) .str)) a0] exact_Floor.κ = exact_Floor k a0 := by
  kernel_rfl
theorem exact_Floor.fn_eq (k : Nat) (a0 : (Bool × ByteArray) × ByteArray) : evFunc ctx (exact_Floor.orc k) k exact_Floor.note Tryz.f203 [.data (.agg (.pair (.agg (.pair .bool .str)) .str)) a0] exact_Floor.κ = exact_Floor k a0 :=
  exact_Floor.eq0 k _ a0
theorem exact_Floor.sound {β : Type} (k : Nat) : FunOK Tryz.prog ctx 203 (exact_Floor.C k : Fun β) := by
  intro xs κ r h
  rcases xs with _ | ⟨a0, _ | ⟨x', l'⟩⟩
  · exact no h
  · obtain ⟨x0, rfl, h1⟩ := A.un_some h
    obtain ⟨res, hr, hf⟩ := bnd h1
    refine ⟨[.data (.agg (.pair .bool .str)) res], fun_ok' ctx_ok mixed_ok (f := 203) (fn := Tryz.f203) (n := exact_Floor.note) (by kernel_rfl) (by kernel_rfl) (orc_sound (orc_cons (exact_IntDivMod.sound k) (orc_nil))) ((exact_Floor.fn_eq k x0).trans hr) ?_, hf⟩
    intro rs' h
    rcases rs' with _ | ⟨r0, _ | ⟨x', l'⟩⟩
    · exact no h
    · obtain ⟨y0, rfl, h0⟩ := R.un_some h
      obtain rfl := inj h0
      rfl
    · exact no h
  · exact no h
theorem ival_down.eq0 (k : Nat) (L : Labels (((Bool × ByteArray) × ByteArray))) (a0 : (Bool × ByteArray) × ByteArray) (a1 : Int) : evTop ctx (ival_down.orc k) L ival_down.note Tryz.f167 [.data (.agg (.pair (.agg (.pair .bool .str)) .str)) a0, .data (.int .i64) a1] ival_down.κ = ival_down k a0 a1 := by
  kernel_rfl
theorem ival_down.fn_eq (k : Nat) (a0 : (Bool × ByteArray) × ByteArray) (a1 : Int) : evFunc ctx (ival_down.orc k) k ival_down.note Tryz.f167 [.data (.agg (.pair (.agg (.pair .bool .str)) .str)) a0, .data (.int .i64) a1] ival_down.κ = ival_down k a0 a1 :=
  ival_down.eq0 k _ a0 a1
theorem ival_down.sound {β : Type} (k : Nat) : FunOK Tryz.prog ctx 167 (ival_down.C k : Fun β) := by
  intro xs κ r h
  rcases xs with _ | ⟨a0, _ | ⟨a1, _ | ⟨x', l'⟩⟩⟩
  · exact no h
  · exact no h
  · obtain ⟨x0, rfl, h1⟩ := A.un_some h
    obtain ⟨x1, rfl, h2⟩ := A.un_some h1
    obtain ⟨res, hr, hf⟩ := bnd h2
    refine ⟨[.data (.agg (.pair (.agg (.pair .bool .str)) .str)) res], fun_ok' ctx_ok mixed_ok (f := 167) (fn := Tryz.f167) (n := ival_down.note) (by kernel_rfl) (by kernel_rfl) (orc_sound (orc_cons (exact_Two.sound k) (orc_cons (exact_Mul.sound k) (orc_cons (exact_Floor.sound k) (orc_cons (exact_NatTwo.sound) (orc_cons (exact_Make.sound k) (orc_nil))))))) ((ival_down.fn_eq k x0 x1).trans hr) ?_, hf⟩
    intro rs' h
    rcases rs' with _ | ⟨r0, _ | ⟨x', l'⟩⟩
    · exact no h
    · obtain ⟨y0, rfl, h0⟩ := R.un_some h
      obtain rfl := inj h0
      rfl
    · exact no h
  · exact no h
theorem exact_IntNeg.eq0 (L : Labels ((Bool × ByteArray))) (a0 : Bool × ByteArray) : evTop ctx (exact_IntNeg.orc ) L exact_IntNeg.note Tryz.f206 [.data (.agg (.pair .bool .str)) a0] exact_IntNeg.κ = exact_IntNeg a0 := by
  kernel_rfl
theorem exact_IntNeg.fn_eq (a0 : Bool × ByteArray) : evFunc ctx (exact_IntNeg.orc ) 0 exact_IntNeg.note Tryz.f206 [.data (.agg (.pair .bool .str)) a0] exact_IntNeg.κ = exact_IntNeg a0 :=
  exact_IntNeg.eq0 _ a0
theorem exact_IntNeg.sound {β : Type} : FunOK Tryz.prog ctx 206 (exact_IntNeg.C : Fun β) := by
  intro xs κ r h
  rcases xs with _ | ⟨a0, _ | ⟨x', l'⟩⟩
  · exact no h
  · unfold exact_IntNeg.C at h
    dsimp only at h
    obtain ⟨x0, rfl, h1⟩ := A.un_some h
    obtain ⟨res, hr, hf⟩ := bnd h1
    refine ⟨[.data (.agg (.pair .bool .str)) res], fun_ok' ctx_ok mixed_ok (f := 206) (fn := Tryz.f206) (n := exact_IntNeg.note) (by kernel_rfl) (by kernel_rfl) (orc_sound (orc_cons (exact_IntMake.sound) (orc_nil))) ((exact_IntNeg.fn_eq x0).trans hr) ?_, hf⟩
    intro rs' h
    rcases rs' with _ | ⟨r0, _ | ⟨x', l'⟩⟩
    · exact no h
    · obtain ⟨y0, rfl, h0⟩ := R.un_some h
      obtain rfl := inj h0
      rfl
    · exact no h
  · exact no h
theorem exact_Neg.eq0 (L : Labels (((Bool × ByteArray) × ByteArray))) (a0 : (Bool × ByteArray) × ByteArray) : evTop ctx (exact_Neg.orc ) L exact_Neg.note Tryz.f168 [.data (.agg (.pair (.agg (.pair .bool .str)) .str)) a0] exact_Neg.κ = exact_Neg a0 := by
  kernel_rfl
theorem exact_Neg.fn_eq (a0 : (Bool × ByteArray) × ByteArray) : evFunc ctx (exact_Neg.orc ) 0 exact_Neg.note Tryz.f168 [.data (.agg (.pair (.agg (.pair .bool .str)) .str)) a0] exact_Neg.κ = exact_Neg a0 :=
  exact_Neg.eq0 _ a0
theorem exact_Neg.sound {β : Type} : FunOK Tryz.prog ctx 168 (exact_Neg.C : Fun β) := by
  intro xs κ r h
  rcases xs with _ | ⟨a0, _ | ⟨x', l'⟩⟩
  · exact no h
  · unfold exact_Neg.C at h
    dsimp only at h
    obtain ⟨x0, rfl, h1⟩ := A.un_some h
    obtain ⟨res, hr, hf⟩ := bnd h1
    refine ⟨[.data (.agg (.pair (.agg (.pair .bool .str)) .str)) res], fun_ok' ctx_ok mixed_ok (f := 168) (fn := Tryz.f168) (n := exact_Neg.note) (by kernel_rfl) (by kernel_rfl) (orc_sound (orc_cons (exact_IntNeg.sound) (orc_nil))) ((exact_Neg.fn_eq x0).trans hr) ?_, hf⟩
    intro rs' h
    rcases rs' with _ | ⟨r0, _ | ⟨x', l'⟩⟩
    · exact no h
    · obtain ⟨y0, rfl, h0⟩ := R.un_some h
      obtain rfl := inj h0
      rfl
    · exact no h
  · exact no h
theorem ival_Around.eq0 (k : Nat) (L : Labels ((((Bool × ByteArray) × ByteArray) × (Bool × ByteArray) × ByteArray))) (a0 : (Bool × ByteArray) × ByteArray) (a1 : Int) : evTop ctx (ival_Around.orc k) L ival_Around.note Tryz.f112 [.data (.agg (.pair (.agg (.pair .bool .str)) .str)) a0, .data (.int .i64) a1] ival_Around.κ = ival_Around k a0 a1 := by
  kernel_rfl
theorem ival_Around.fn_eq (k : Nat) (a0 : (Bool × ByteArray) × ByteArray) (a1 : Int) : evFunc ctx (ival_Around.orc k) k ival_Around.note Tryz.f112 [.data (.agg (.pair (.agg (.pair .bool .str)) .str)) a0, .data (.int .i64) a1] ival_Around.κ = ival_Around k a0 a1 :=
  ival_Around.eq0 k _ a0 a1
theorem ival_Around.sound {β : Type} (k : Nat) : FunOK Tryz.prog ctx 112 (ival_Around.C k : Fun β) := by
  intro xs κ r h
  rcases xs with _ | ⟨a0, _ | ⟨a1, _ | ⟨x', l'⟩⟩⟩
  · exact no h
  · exact no h
  · obtain ⟨x0, rfl, h1⟩ := A.un_some h
    obtain ⟨x1, rfl, h2⟩ := A.un_some h1
    obtain ⟨res, hr, hf⟩ := bnd h2
    refine ⟨[.data (.agg (.pair (.agg (.pair (.agg (.pair .bool .str)) .str)) (.agg (.pair (.agg (.pair .bool .str)) .str)))) res], fun_ok' ctx_ok mixed_ok (f := 112) (fn := Tryz.f112) (n := ival_Around.note) (by kernel_rfl) (by kernel_rfl) (orc_sound (orc_cons (ival_down.sound k) (orc_cons (exact_Neg.sound) (orc_nil)))) ((ival_Around.fn_eq k x0 x1).trans hr) ?_, hf⟩
    intro rs' h
    rcases rs' with _ | ⟨r0, _ | ⟨x', l'⟩⟩
    · exact no h
    · obtain ⟨y0, rfl, h0⟩ := R.un_some h
      obtain rfl := inj h0
      rfl
    · exact no h
  · exact no h
theorem exact_Large.eq0 (L : Labels (Bool)) (a0 : (Bool × ByteArray) × ByteArray) : evTop ctx (exact_Large.orc ) L exact_Large.note Tryz.f188 [.data (.agg (.pair (.agg (.pair .bool .str)) .str)) a0] exact_Large.κ = exact_Large a0 := by
  kernel_rfl
theorem exact_Large.fn_eq (a0 : (Bool × ByteArray) × ByteArray) : evFunc ctx (exact_Large.orc ) 0 exact_Large.note Tryz.f188 [.data (.agg (.pair (.agg (.pair .bool .str)) .str)) a0] exact_Large.κ = exact_Large a0 :=
  exact_Large.eq0 _ a0
theorem exact_Large.sound {β : Type} : FunOK Tryz.prog ctx 188 (exact_Large.C : Fun β) := by
  intro xs κ r h
  rcases xs with _ | ⟨a0, _ | ⟨x', l'⟩⟩
  · exact no h
  · unfold exact_Large.C at h
    dsimp only at h
    obtain ⟨x0, rfl, h1⟩ := A.un_some h
    obtain ⟨res, hr, hf⟩ := bnd h1
    refine ⟨[.data .bool res], fun_ok' ctx_ok mixed_ok (f := 188) (fn := Tryz.f188) (n := exact_Large.note) (by kernel_rfl) (by kernel_rfl) (orc_sound (orc_nil)) ((exact_Large.fn_eq x0).trans hr) ?_, hf⟩
    intro rs' h
    rcases rs' with _ | ⟨r0, _ | ⟨x', l'⟩⟩
    · exact no h
    · obtain ⟨y0, rfl, h0⟩ := R.un_some h
      obtain rfl := inj h0
      rfl
    · exact no h
  · exact no h
theorem ival_Large.eq0 (L : Labels (Bool)) (a0 : ((Bool × ByteArray) × ByteArray) × (Bool × ByteArray) × ByteArray) : evTop ctx (ival_Large.orc ) L ival_Large.note Tryz.f164 [.data (.agg (.pair (.agg (.pair (.agg (.pair .bool .str)) .str)) (.agg (.pair (.agg (.pair .bool .str)) .str)))) a0] ival_Large.κ = ival_Large a0 := by
  kernel_rfl
theorem ival_Large.fn_eq (a0 : ((Bool × ByteArray) × ByteArray) × (Bool × ByteArray) × ByteArray) : evFunc ctx (ival_Large.orc ) 0 ival_Large.note Tryz.f164 [.data (.agg (.pair (.agg (.pair (.agg (.pair .bool .str)) .str)) (.agg (.pair (.agg (.pair .bool .str)) .str)))) a0] ival_Large.κ = ival_Large a0 :=
  ival_Large.eq0 _ a0
theorem ival_Large.sound {β : Type} : FunOK Tryz.prog ctx 164 (ival_Large.C : Fun β) := by
  intro xs κ r h
  rcases xs with _ | ⟨a0, _ | ⟨x', l'⟩⟩
  · exact no h
  · unfold ival_Large.C at h
    dsimp only at h
    obtain ⟨x0, rfl, h1⟩ := A.un_some h
    obtain ⟨res, hr, hf⟩ := bnd h1
    refine ⟨[.data .bool res], fun_ok' ctx_ok mixed_ok (f := 164) (fn := Tryz.f164) (n := ival_Large.note) (by kernel_rfl) (by kernel_rfl) (orc_sound (orc_cons (exact_Large.sound) (orc_nil))) ((ival_Large.fn_eq x0).trans hr) ?_, hf⟩
    intro rs' h
    rcases rs' with _ | ⟨r0, _ | ⟨x', l'⟩⟩
    · exact no h
    · obtain ⟨y0, rfl, h0⟩ := R.un_some h
      obtain rfl := inj h0
      rfl
    · exact no h
  · exact no h
theorem enclosure_interval.eq0 (L : Labels ((((Bool × ByteArray) × ByteArray) × (Bool × ByteArray) × ByteArray) × Int)) (a0 : ((Bool × ByteArray) × ByteArray) × (Bool × ByteArray) × ByteArray) : evTop ctx (enclosure_interval.orc ) L enclosure_interval.note Tryz.f108 [.data (.agg (.pair (.agg (.pair (.agg (.pair .bool .str)) .str)) (.agg (.pair (.agg (.pair .bool .str)) .str)))) a0] enclosure_interval.κ = enclosure_interval a0 := by
  kernel_rfl
theorem enclosure_interval.fn_eq (a0 : ((Bool × ByteArray) × ByteArray) × (Bool × ByteArray) × ByteArray) : evFunc ctx (enclosure_interval.orc ) 0 enclosure_interval.note Tryz.f108 [.data (.agg (.pair (.agg (.pair (.agg (.pair .bool .str)) .str)) (.agg (.pair (.agg (.pair .bool .str)) .str)))) a0] enclosure_interval.κ = enclosure_interval a0 :=
  enclosure_interval.eq0 _ a0
theorem enclosure_interval.sound {β : Type} : FunOK Tryz.prog ctx 108 (enclosure_interval.C : Fun β) := by
  intro xs κ r h
  rcases xs with _ | ⟨a0, _ | ⟨x', l'⟩⟩
  · exact no h
  · unfold enclosure_interval.C at h
    dsimp only at h
    obtain ⟨x0, rfl, h1⟩ := A.un_some h
    obtain ⟨res, hr, hf⟩ := bnd h1
    refine ⟨[.data (.agg (.pair (.agg (.pair (.agg (.pair .bool .str)) .str)) (.agg (.pair (.agg (.pair .bool .str)) .str)))) res.1, .data (.int .i64) res.2], fun_ok' ctx_ok mixed_ok (f := 108) (fn := Tryz.f108) (n := enclosure_interval.note) (by kernel_rfl) (by kernel_rfl) (orc_sound (orc_cons (ival_Large.sound) (orc_nil))) ((enclosure_interval.fn_eq x0).trans hr) ?_, hf⟩
    intro rs' h
    rcases rs' with _ | ⟨r0, _ | ⟨r1, _ | ⟨x', l'⟩⟩⟩
    · exact no h
    · exact no h
    · obtain ⟨y0, rfl, h0⟩ := R.un_some h
      obtain ⟨y1, rfl, h1⟩ := R.un_some h0
      obtain rfl := inj h1
      rfl
    · exact no h
  · exact no h
theorem enclosure_Around.eq0 (k : Nat) (L : Labels ((((Bool × ByteArray) × ByteArray) × (Bool × ByteArray) × ByteArray) × Int)) (a0 : (Bool × ByteArray) × ByteArray) (a1 : Int) : evTop ctx (enclosure_Around.orc k) L enclosure_Around.note Tryz.f27 [.data (.agg (.pair (.agg (.pair .bool .str)) .str)) a0, .data (.int .i64) a1] enclosure_Around.κ = enclosure_Around k a0 a1 := by
  kernel_rfl
theorem enclosure_Around.fn_eq (k : Nat) (a0 : (Bool × ByteArray) × ByteArray) (a1 : Int) : evFunc ctx (enclosure_Around.orc k) k enclosure_Around.note Tryz.f27 [.data (.agg (.pair (.agg (.pair .bool .str)) .str)) a0, .data (.int .i64) a1] enclosure_Around.κ = enclosure_Around k a0 a1 :=
  enclosure_Around.eq0 k _ a0 a1
theorem enclosure_Around.sound {β : Type} (k : Nat) : FunOK Tryz.prog ctx 27 (enclosure_Around.C k : Fun β) := by
  intro xs κ r h
  rcases xs with _ | ⟨a0, _ | ⟨a1, _ | ⟨x', l'⟩⟩⟩
  · exact no h
  · exact no h
  · obtain ⟨x0, rfl, h1⟩ := A.un_some h
    obtain ⟨x1, rfl, h2⟩ := A.un_some h1
    obtain ⟨res, hr, hf⟩ := bnd h2
    refine ⟨[.data (.agg (.pair (.agg (.pair (.agg (.pair .bool .str)) .str)) (.agg (.pair (.agg (.pair .bool .str)) .str)))) res.1, .data (.int .i64) res.2], fun_ok' ctx_ok mixed_ok (f := 27) (fn := Tryz.f27) (n := enclosure_Around.note) (by kernel_rfl) (by kernel_rfl) (orc_sound (orc_cons (rational_Check.sound k) (orc_cons (enclosure_grid.sound) (orc_cons (enclosure_first.sound k) (orc_cons (ival_Around.sound k) (orc_cons (enclosure_interval.sound) (orc_nil))))))) ((enclosure_Around.fn_eq k x0 x1).trans hr) ?_, hf⟩
    intro rs' h
    rcases rs' with _ | ⟨r0, _ | ⟨r1, _ | ⟨x', l'⟩⟩⟩
    · exact no h
    · exact no h
    · obtain ⟨y0, rfl, h0⟩ := R.un_some h
      obtain ⟨y1, rfl, h1⟩ := R.un_some h0
      obtain rfl := inj h1
      rfl
    · exact no h
  · exact no h
theorem galoisref19_Make.eq0 (L : Labels ((((Bool × ByteArray) × ByteArray) × (Bool × ByteArray) × ByteArray))) (a0 : (Bool × ByteArray) × ByteArray) (a1 : (Bool × ByteArray) × ByteArray) : evTop ctx (galoisref19_Make.orc ) L galoisref19_Make.note Tryz.f118 [.data (.agg (.pair (.agg (.pair .bool .str)) .str)) a0, .data (.agg (.pair (.agg (.pair .bool .str)) .str)) a1] galoisref19_Make.κ = galoisref19_Make a0 a1 := by
  kernel_rfl
theorem galoisref19_Make.fn_eq (a0 : (Bool × ByteArray) × ByteArray) (a1 : (Bool × ByteArray) × ByteArray) : evFunc ctx (galoisref19_Make.orc ) 0 galoisref19_Make.note Tryz.f118 [.data (.agg (.pair (.agg (.pair .bool .str)) .str)) a0, .data (.agg (.pair (.agg (.pair .bool .str)) .str)) a1] galoisref19_Make.κ = galoisref19_Make a0 a1 :=
  galoisref19_Make.eq0 _ a0 a1
theorem galoisref19_Make.sound {β : Type} : FunOK Tryz.prog ctx 118 (galoisref19_Make.C : Fun β) := by
  intro xs κ r h
  rcases xs with _ | ⟨a0, _ | ⟨a1, _ | ⟨x', l'⟩⟩⟩
  · exact no h
  · exact no h
  · unfold galoisref19_Make.C at h
    dsimp only at h
    obtain ⟨x0, rfl, h1⟩ := A.un_some h
    obtain ⟨x1, rfl, h2⟩ := A.un_some h1
    obtain ⟨res, hr, hf⟩ := bnd h2
    refine ⟨[.data (.agg (.pair (.agg (.pair (.agg (.pair .bool .str)) .str)) (.agg (.pair (.agg (.pair .bool .str)) .str)))) res], fun_ok' ctx_ok mixed_ok (f := 118) (fn := Tryz.f118) (n := galoisref19_Make.note) (by kernel_rfl) (by kernel_rfl) (orc_sound (orc_nil)) ((galoisref19_Make.fn_eq x0 x1).trans hr) ?_, hf⟩
    intro rs' h
    rcases rs' with _ | ⟨r0, _ | ⟨x', l'⟩⟩
    · exact no h
    · obtain ⟨y0, rfl, h0⟩ := R.un_some h
      obtain rfl := inj h0
      rfl
    · exact no h
  · exact no h
theorem galoislaw19_make2.eq0 (k : Nat) (L : Labels ((((Bool × ByteArray) × ByteArray) × (Bool × ByteArray) × ByteArray))) (a0 : Int) (a1 : Int) (a2 : Int) (a3 : Int) : evTop ctx (galoislaw19_make2.orc k) L galoislaw19_make2.note Tryz.f102 [.data (.int .i64) a0, .data (.int .i64) a1, .data (.int .i64) a2, .data (.int .i64) a3] galoislaw19_make2.κ = galoislaw19_make2 k a0 a1 a2 a3 := by
  kernel_rfl
theorem galoislaw19_make2.fn_eq (k : Nat) (a0 : Int) (a1 : Int) (a2 : Int) (a3 : Int) : evFunc ctx (galoislaw19_make2.orc k) k galoislaw19_make2.note Tryz.f102 [.data (.int .i64) a0, .data (.int .i64) a1, .data (.int .i64) a2, .data (.int .i64) a3] galoislaw19_make2.κ = galoislaw19_make2 k a0 a1 a2 a3 :=
  galoislaw19_make2.eq0 k _ a0 a1 a2 a3
theorem galoislaw19_make2.sound {β : Type} (k : Nat) : FunOK Tryz.prog ctx 102 (galoislaw19_make2.C k : Fun β) := by
  intro xs κ r h
  rcases xs with _ | ⟨a0, _ | ⟨a1, _ | ⟨a2, _ | ⟨a3, _ | ⟨x', l'⟩⟩⟩⟩⟩
  · exact no h
  · exact no h
  · exact no h
  · exact no h
  · obtain ⟨x0, rfl, h1⟩ := A.un_some h
    obtain ⟨x1, rfl, h2⟩ := A.un_some h1
    obtain ⟨x2, rfl, h3⟩ := A.un_some h2
    obtain ⟨x3, rfl, h4⟩ := A.un_some h3
    obtain ⟨res, hr, hf⟩ := bnd h4
    refine ⟨[.data (.agg (.pair (.agg (.pair (.agg (.pair .bool .str)) .str)) (.agg (.pair (.agg (.pair .bool .str)) .str)))) res], fun_ok' ctx_ok mixed_ok (f := 102) (fn := Tryz.f102) (n := galoislaw19_make2.note) (by kernel_rfl) (by kernel_rfl) (orc_sound (orc_cons (galoisref03_Of.sound k) (orc_cons (galoisref19_Make.sound) (orc_nil)))) ((galoislaw19_make2.fn_eq k x0 x1 x2 x3).trans hr) ?_, hf⟩
    intro rs' h
    rcases rs' with _ | ⟨r0, _ | ⟨x', l'⟩⟩
    · exact no h
    · obtain ⟨y0, rfl, h0⟩ := R.un_some h
      obtain rfl := inj h0
      rfl
    · exact no h
  · exact no h
theorem bits_Len8.eq0 (L : Labels (Int)) (a0 : Int) : evTop ctx (bits_Len8.orc ) L bits_Len8.note Tryz.f200 [.data (.int .u8) a0] bits_Len8.κ = bits_Len8 a0 := by
  kernel_rfl
theorem bits_Len8.fn_eq (a0 : Int) : evFunc ctx (bits_Len8.orc ) 0 bits_Len8.note Tryz.f200 [.data (.int .u8) a0] bits_Len8.κ = bits_Len8 a0 :=
  bits_Len8.eq0 _ a0
theorem bits_Len8.sound {β : Type} : FunOK Tryz.prog ctx 200 (bits_Len8.C : Fun β) := by
  intro xs κ r h
  rcases xs with _ | ⟨a0, _ | ⟨x', l'⟩⟩
  · exact no h
  · unfold bits_Len8.C at h
    dsimp only at h
    obtain ⟨x0, rfl, h1⟩ := A.un_some h
    obtain ⟨res, hr, hf⟩ := bnd h1
    refine ⟨[.data (.int .i64) res], fun_ok' ctx_ok mixed_ok (f := 200) (fn := Tryz.f200) (n := bits_Len8.note) (by kernel_rfl) (by kernel_rfl) (orc_sound (orc_nil)) ((bits_Len8.fn_eq x0).trans hr) ?_, hf⟩
    intro rs' h
    rcases rs' with _ | ⟨r0, _ | ⟨x', l'⟩⟩
    · exact no h
    · obtain ⟨y0, rfl, h0⟩ := R.un_some h
      obtain rfl := inj h0
      rfl
    · exact no h
  · exact no h
theorem exact_NatBits.eq0 (L : Labels (Int)) (a0 : ByteArray) : evTop ctx (exact_NatBits.orc ) L exact_NatBits.note Tryz.f158 [.data .str a0] exact_NatBits.κ = exact_NatBits a0 := by
  kernel_rfl
theorem exact_NatBits.fn_eq (a0 : ByteArray) : evFunc ctx (exact_NatBits.orc ) 0 exact_NatBits.note Tryz.f158 [.data .str a0] exact_NatBits.κ = exact_NatBits a0 :=
  exact_NatBits.eq0 _ a0
theorem exact_NatBits.sound {β : Type} : FunOK Tryz.prog ctx 158 (exact_NatBits.C : Fun β) := by
  intro xs κ r h
  rcases xs with _ | ⟨a0, _ | ⟨x', l'⟩⟩
  · exact no h
  · unfold exact_NatBits.C at h
    dsimp only at h
    obtain ⟨x0, rfl, h1⟩ := A.un_some h
    obtain ⟨res, hr, hf⟩ := bnd h1
    refine ⟨[.data (.int .i64) res], fun_ok' ctx_ok mixed_ok (f := 158) (fn := Tryz.f158) (n := exact_NatBits.note) (by kernel_rfl) (by kernel_rfl) (orc_sound (orc_cons (bits_Len8.sound) (orc_nil))) ((exact_NatBits.fn_eq x0).trans hr) ?_, hf⟩
    intro rs' h
    rcases rs' with _ | ⟨r0, _ | ⟨x', l'⟩⟩
    · exact no h
    · obtain ⟨y0, rfl, h0⟩ := R.un_some h
      obtain rfl := inj h0
      rfl
    · exact no h
  · exact no h
theorem enclosure_dyadic.eq0 (L : Labels (Bool)) (a0 : (Bool × ByteArray) × ByteArray) : evTop ctx (enclosure_dyadic.orc ) L enclosure_dyadic.note Tryz.f98 [.data (.agg (.pair (.agg (.pair .bool .str)) .str)) a0] enclosure_dyadic.κ = enclosure_dyadic a0 := by
  kernel_rfl
theorem enclosure_dyadic.fn_eq (a0 : (Bool × ByteArray) × ByteArray) : evFunc ctx (enclosure_dyadic.orc ) 0 enclosure_dyadic.note Tryz.f98 [.data (.agg (.pair (.agg (.pair .bool .str)) .str)) a0] enclosure_dyadic.κ = enclosure_dyadic a0 :=
  enclosure_dyadic.eq0 _ a0
theorem enclosure_dyadic.sound {β : Type} : FunOK Tryz.prog ctx 98 (enclosure_dyadic.C : Fun β) := by
  intro xs κ r h
  rcases xs with _ | ⟨a0, _ | ⟨x', l'⟩⟩
  · exact no h
  · unfold enclosure_dyadic.C at h
    dsimp only at h
    obtain ⟨x0, rfl, h1⟩ := A.un_some h
    obtain ⟨res, hr, hf⟩ := bnd h1
    refine ⟨[.data .bool res], fun_ok' ctx_ok mixed_ok (f := 98) (fn := Tryz.f98) (n := enclosure_dyadic.note) (by kernel_rfl) (by kernel_rfl) (orc_sound (orc_cons (exact_NatBits.sound) (orc_cons (exact_NatTwo.sound) (orc_nil)))) ((enclosure_dyadic.fn_eq x0).trans hr) ?_, hf⟩
    intro rs' h
    rcases rs' with _ | ⟨r0, _ | ⟨x', l'⟩⟩
    · exact no h
    · obtain ⟨y0, rfl, h0⟩ := R.un_some h
      obtain rfl := inj h0
      rfl
    · exact no h
  · exact no h
theorem exact_NatCmp.top_eq (L : Labels (Int)) (a0 : ByteArray) (a1 : ByteArray) : evTop ctx (exact_NatCmp.orc ) L exact_NatCmp.note Tryz.f201 [.data .str a0, .data .str a1] exact_NatCmp.κ = exact_NatCmp.top (fun x0 x1 x2 => L 0 (mkE 27 0 [(0, .data .str x0), (1, .data .str x1), (5, .data .bool x2)]) (ofList [.dead, .dead]) 2) a0 a1 := by
  kernel_rfl
theorem exact_NatCmp.b0_eq (L : Labels (Int)) (x0 : ByteArray) (x1 : ByteArray) (x2 : Bool) : evLab ctx (exact_NatCmp.orc ) L exact_NatCmp.note Tryz.f201 2 exact_NatCmp.κ 0 (mkE 27 0 [(0, .data .str x0), (1, .data .str x1), (5, .data .bool x2)]) (ofList [.dead, .dead]) 2 = exact_NatCmp.b0 x0 x1 x2 := by
  kernel_rfl
theorem exact_NatCmp.run : ∀ n : Nat, (∀ (x0 : ByteArray) (x1 : ByteArray) (x2 : Bool), evRun ctx (exact_NatCmp.orc ) exact_NatCmp.note Tryz.f201 2 exact_NatCmp.κ n 0 (mkE 27 0 [(0, .data .str x0), (1, .data .str x1), (5, .data .bool x2)]) (ofList [.dead, .dead]) 2 = exact_NatCmp.l0 n x0 x1 x2) := by
  intro n
  induction n with
  | zero => exact fun _ _ _ => rfl
  | succ n ih =>
    have h0 := ih
    refine ?_
    · intro x0 x1 x2; refine (exact_NatCmp.b0_eq (evRun ctx (exact_NatCmp.orc ) exact_NatCmp.note Tryz.f201 2 exact_NatCmp.κ n) x0 x1 x2).trans ?_
      rfl
theorem exact_NatCmp.fn_eq (k : Nat) (a0 : ByteArray) (a1 : ByteArray) : evFunc ctx (exact_NatCmp.orc ) k exact_NatCmp.note Tryz.f201 [.data .str a0, .data .str a1] exact_NatCmp.κ = exact_NatCmp k a0 a1 := by
  refine (exact_NatCmp.top_eq (evRun ctx (exact_NatCmp.orc ) exact_NatCmp.note Tryz.f201 2 exact_NatCmp.κ k) a0 a1).trans ?_
  have h0 := exact_NatCmp.run k
  simp only [h0]
  rfl
theorem exact_NatCmp.sound {β : Type} (k : Nat) : FunOK Tryz.prog ctx 201 (exact_NatCmp.C k : Fun β) := by
  intro xs κ r h
  rcases xs with _ | ⟨a0, _ | ⟨a1, _ | ⟨x', l'⟩⟩⟩
  · exact no h
  · exact no h
  · obtain ⟨x0, rfl, h1⟩ := A.un_some h
    obtain ⟨x1, rfl, h2⟩ := A.un_some h1
    obtain ⟨res, hr, hf⟩ := bnd h2
    refine ⟨[.data (.int .i64) res], fun_ok' ctx_ok mixed_ok (f := 201) (fn := Tryz.f201) (n := exact_NatCmp.note) (by kernel_rfl) (by kernel_rfl) (orc_sound (orc_nil)) ((exact_NatCmp.fn_eq k x0 x1).trans hr) ?_, hf⟩
    intro rs' h
    rcases rs' with _ | ⟨r0, _ | ⟨x', l'⟩⟩
    · exact no h
    · obtain ⟨y0, rfl, h0⟩ := R.un_some h
      obtain rfl := inj h0
      rfl
    · exact no h
  · exact no h
theorem exact_IntCmp.eq0 (k : Nat) (L : Labels (Int)) (a0 : Bool × ByteArray) (a1 : Bool × ByteArray) : evTop ctx (exact_IntCmp.orc k) L exact_IntCmp.note Tryz.f159 [.data (.agg (.pair .bool .str)) a0, .data (.agg (.pair .bool .str)) a1] exact_IntCmp.κ = exact_IntCmp k a0 a1 := by
  kernel_rfl
theorem exact_IntCmp.fn_eq (k : Nat) (a0 : Bool × ByteArray) (a1 : Bool × ByteArray) : evFunc ctx (exact_IntCmp.orc k) k exact_IntCmp.note Tryz.f159 [.data (.agg (.pair .bool .str)) a0, .data (.agg (.pair .bool .str)) a1] exact_IntCmp.κ = exact_IntCmp k a0 a1 :=
  exact_IntCmp.eq0 k _ a0 a1
theorem exact_IntCmp.sound {β : Type} (k : Nat) : FunOK Tryz.prog ctx 159 (exact_IntCmp.C k : Fun β) := by
  intro xs κ r h
  rcases xs with _ | ⟨a0, _ | ⟨a1, _ | ⟨x', l'⟩⟩⟩
  · exact no h
  · exact no h
  · obtain ⟨x0, rfl, h1⟩ := A.un_some h
    obtain ⟨x1, rfl, h2⟩ := A.un_some h1
    obtain ⟨res, hr, hf⟩ := bnd h2
    refine ⟨[.data (.int .i64) res], fun_ok' ctx_ok mixed_ok (f := 159) (fn := Tryz.f159) (n := exact_IntCmp.note) (by kernel_rfl) (by kernel_rfl) (orc_sound (orc_cons (exact_NatCmp.sound k) (orc_nil))) ((exact_IntCmp.fn_eq k x0 x1).trans hr) ?_, hf⟩
    intro rs' h
    rcases rs' with _ | ⟨r0, _ | ⟨x', l'⟩⟩
    · exact no h
    · obtain ⟨y0, rfl, h0⟩ := R.un_some h
      obtain rfl := inj h0
      rfl
    · exact no h
  · exact no h
theorem exact_Cmp.eq0 (k : Nat) (L : Labels (Int)) (a0 : (Bool × ByteArray) × ByteArray) (a1 : (Bool × ByteArray) × ByteArray) : evTop ctx (exact_Cmp.orc k) L exact_Cmp.note Tryz.f99 [.data (.agg (.pair (.agg (.pair .bool .str)) .str)) a0, .data (.agg (.pair (.agg (.pair .bool .str)) .str)) a1] exact_Cmp.κ = exact_Cmp k a0 a1 := by
  kernel_rfl
theorem exact_Cmp.fn_eq (k : Nat) (a0 : (Bool × ByteArray) × ByteArray) (a1 : (Bool × ByteArray) × ByteArray) : evFunc ctx (exact_Cmp.orc k) k exact_Cmp.note Tryz.f99 [.data (.agg (.pair (.agg (.pair .bool .str)) .str)) a0, .data (.agg (.pair (.agg (.pair .bool .str)) .str)) a1] exact_Cmp.κ = exact_Cmp k a0 a1 :=
  exact_Cmp.eq0 k _ a0 a1
theorem exact_Cmp.sound {β : Type} (k : Nat) : FunOK Tryz.prog ctx 99 (exact_Cmp.C k : Fun β) := by
  intro xs κ r h
  rcases xs with _ | ⟨a0, _ | ⟨a1, _ | ⟨x', l'⟩⟩⟩
  · exact no h
  · exact no h
  · obtain ⟨x0, rfl, h1⟩ := A.un_some h
    obtain ⟨x1, rfl, h2⟩ := A.un_some h1
    obtain ⟨res, hr, hf⟩ := bnd h2
    refine ⟨[.data (.int .i64) res], fun_ok' ctx_ok mixed_ok (f := 99) (fn := Tryz.f99) (n := exact_Cmp.note) (by kernel_rfl) (by kernel_rfl) (orc_sound (orc_cons (exact_IntCmp.sound k) (orc_cons (exact_NatMul.sound k) (orc_cons (exact_IntMake.sound) (orc_nil))))) ((exact_Cmp.fn_eq k x0 x1).trans hr) ?_, hf⟩
    intro rs' h
    rcases rs' with _ | ⟨r0, _ | ⟨x', l'⟩⟩
    · exact no h
    · obtain ⟨y0, rfl, h0⟩ := R.un_some h
      obtain rfl := inj h0
      rfl
    · exact no h
  · exact no h
theorem enclosure_Check.top_eq (k : Nat) (L : Labels (Int)) (a0 : ((Bool × ByteArray) × ByteArray) × (Bool × ByteArray) × ByteArray) : evTop ctx (enclosure_Check.orc k) L enclosure_Check.note Tryz.f13 [.data (.agg (.pair (.agg (.pair (.agg (.pair .bool .str)) .str)) (.agg (.pair (.agg (.pair .bool .str)) .str)))) a0] enclosure_Check.κ = enclosure_Check.top k (fun x0 x1 => L 0 (mkE 31 0 [(1, .ptr 1 (.agg (.pair (.agg (.pair (.agg (.pair .bool .str)) .str)) (.agg (.pair (.agg (.pair .bool .str)) .str)))) []), (24, .data .bool x0)]) (ofList [.dead, .var true (.agg (.pair (.agg (.pair (.agg (.pair .bool .str)) .str)) (.agg (.pair (.agg (.pair .bool .str)) .str)))) (.data (.agg (.pair (.agg (.pair (.agg (.pair .bool .str)) .str)) (.agg (.pair (.agg (.pair .bool .str)) .str)))) x1)]) 2) a0 := by
  kernel_rfl
theorem enclosure_Check.b0_eq (k : Nat) (L : Labels (Int)) (x0 : Bool) (x1 : ((Bool × ByteArray) × ByteArray) × (Bool × ByteArray) × ByteArray) : evLab ctx (enclosure_Check.orc k) L enclosure_Check.note Tryz.f13 1 enclosure_Check.κ 0 (mkE 31 0 [(1, .ptr 1 (.agg (.pair (.agg (.pair (.agg (.pair .bool .str)) .str)) (.agg (.pair (.agg (.pair .bool .str)) .str)))) []), (24, .data .bool x0)]) (ofList [.dead, .var true (.agg (.pair (.agg (.pair (.agg (.pair .bool .str)) .str)) (.agg (.pair (.agg (.pair .bool .str)) .str)))) (.data (.agg (.pair (.agg (.pair (.agg (.pair .bool .str)) .str)) (.agg (.pair (.agg (.pair .bool .str)) .str)))) x1)]) 2 = enclosure_Check.b0 k x0 x1 := by
  kernel_rfl
theorem enclosure_Check.run (k : Nat) : ∀ n : Nat, (∀ (x0 : Bool) (x1 : ((Bool × ByteArray) × ByteArray) × (Bool × ByteArray) × ByteArray), evRun ctx (enclosure_Check.orc k) enclosure_Check.note Tryz.f13 1 enclosure_Check.κ n 0 (mkE 31 0 [(1, .ptr 1 (.agg (.pair (.agg (.pair (.agg (.pair .bool .str)) .str)) (.agg (.pair (.agg (.pair .bool .str)) .str)))) []), (24, .data .bool x0)]) (ofList [.dead, .var true (.agg (.pair (.agg (.pair (.agg (.pair .bool .str)) .str)) (.agg (.pair (.agg (.pair .bool .str)) .str)))) (.data (.agg (.pair (.agg (.pair (.agg (.pair .bool .str)) .str)) (.agg (.pair (.agg (.pair .bool .str)) .str)))) x1)]) 2 = enclosure_Check.l0 k n x0 x1) := by
  intro n
  induction n with
  | zero => exact fun _ _ => rfl
  | succ n ih =>
    have h0 := ih
    refine ?_
    · intro x0 x1; refine (enclosure_Check.b0_eq k (evRun ctx (enclosure_Check.orc k) enclosure_Check.note Tryz.f13 1 enclosure_Check.κ n) x0 x1).trans ?_
      rfl
theorem enclosure_Check.fn_eq (k : Nat) (a0 : ((Bool × ByteArray) × ByteArray) × (Bool × ByteArray) × ByteArray) : evFunc ctx (enclosure_Check.orc k) k enclosure_Check.note Tryz.f13 [.data (.agg (.pair (.agg (.pair (.agg (.pair .bool .str)) .str)) (.agg (.pair (.agg (.pair .bool .str)) .str)))) a0] enclosure_Check.κ = enclosure_Check k a0 := by
  refine (enclosure_Check.top_eq k (evRun ctx (enclosure_Check.orc k) enclosure_Check.note Tryz.f13 1 enclosure_Check.κ k) a0).trans ?_
  have h0 := enclosure_Check.run k k
  simp only [h0]
  rfl
theorem enclosure_Check.sound {β : Type} (k : Nat) : FunOK Tryz.prog ctx 13 (enclosure_Check.C k : Fun β) := by
  intro xs κ r h
  rcases xs with _ | ⟨a0, _ | ⟨x', l'⟩⟩
  · exact no h
  · obtain ⟨x0, rfl, h1⟩ := A.un_some h
    obtain ⟨res, hr, hf⟩ := bnd h1
    refine ⟨[.data (.int .i64) res], fun_ok' ctx_ok mixed_ok (f := 13) (fn := Tryz.f13) (n := enclosure_Check.note) (by kernel_rfl) (by kernel_rfl) (orc_sound (orc_cons (rational_Check.sound k) (orc_cons (enclosure_first.sound k) (orc_cons (enclosure_dyadic.sound) (orc_cons (exact_Cmp.sound k) (orc_nil)))))) ((enclosure_Check.fn_eq k x0).trans hr) ?_, hf⟩
    intro rs' h
    rcases rs' with _ | ⟨r0, _ | ⟨x', l'⟩⟩
    · exact no h
    · obtain ⟨y0, rfl, h0⟩ := R.un_some h
      obtain rfl := inj h0
      rfl
    · exact no h
  · exact no h
theorem ival_Point.eq0 (L : Labels ((((Bool × ByteArray) × ByteArray) × (Bool × ByteArray) × ByteArray))) (a0 : (Bool × ByteArray) × ByteArray) : evTop ctx (ival_Point.orc ) L ival_Point.note Tryz.f177 [.data (.agg (.pair (.agg (.pair .bool .str)) .str)) a0] ival_Point.κ = ival_Point a0 := by
  kernel_rfl
theorem ival_Point.fn_eq (a0 : (Bool × ByteArray) × ByteArray) : evFunc ctx (ival_Point.orc ) 0 ival_Point.note Tryz.f177 [.data (.agg (.pair (.agg (.pair .bool .str)) .str)) a0] ival_Point.κ = ival_Point a0 :=
  ival_Point.eq0 _ a0
theorem ival_Point.sound {β : Type} : FunOK Tryz.prog ctx 177 (ival_Point.C : Fun β) := by
  intro xs κ r h
  rcases xs with _ | ⟨a0, _ | ⟨x', l'⟩⟩
  · exact no h
  · unfold ival_Point.C at h
    dsimp only at h
    obtain ⟨x0, rfl, h1⟩ := A.un_some h
    obtain ⟨res, hr, hf⟩ := bnd h1
    refine ⟨[.data (.agg (.pair (.agg (.pair (.agg (.pair .bool .str)) .str)) (.agg (.pair (.agg (.pair .bool .str)) .str)))) res], fun_ok' ctx_ok mixed_ok (f := 177) (fn := Tryz.f177) (n := ival_Point.note) (by kernel_rfl) (by kernel_rfl) (orc_sound (orc_nil)) ((ival_Point.fn_eq x0).trans hr) ?_, hf⟩
    intro rs' h
    rcases rs' with _ | ⟨r0, _ | ⟨x', l'⟩⟩
    · exact no h
    · obtain ⟨y0, rfl, h0⟩ := R.un_some h
      obtain rfl := inj h0
      rfl
    · exact no h
  · exact no h
theorem ival_less.eq0 (k : Nat) (L : Labels (Bool)) (a0 : (Bool × ByteArray) × ByteArray) (a1 : (Bool × ByteArray) × ByteArray) : evTop ctx (ival_less.orc k) L ival_less.note Tryz.f193 [.data (.agg (.pair (.agg (.pair .bool .str)) .str)) a0, .data (.agg (.pair (.agg (.pair .bool .str)) .str)) a1] ival_less.κ = ival_less k a0 a1 := by
  kernel_rfl
theorem ival_less.fn_eq (k : Nat) (a0 : (Bool × ByteArray) × ByteArray) (a1 : (Bool × ByteArray) × ByteArray) : evFunc ctx (ival_less.orc k) k ival_less.note Tryz.f193 [.data (.agg (.pair (.agg (.pair .bool .str)) .str)) a0, .data (.agg (.pair (.agg (.pair .bool .str)) .str)) a1] ival_less.κ = ival_less k a0 a1 :=
  ival_less.eq0 k _ a0 a1
theorem ival_less.sound {β : Type} (k : Nat) : FunOK Tryz.prog ctx 193 (ival_less.C k : Fun β) := by
  intro xs κ r h
  rcases xs with _ | ⟨a0, _ | ⟨a1, _ | ⟨x', l'⟩⟩⟩
  · exact no h
  · exact no h
  · obtain ⟨x0, rfl, h1⟩ := A.un_some h
    obtain ⟨x1, rfl, h2⟩ := A.un_some h1
    obtain ⟨res, hr, hf⟩ := bnd h2
    refine ⟨[.data .bool res], fun_ok' ctx_ok mixed_ok (f := 193) (fn := Tryz.f193) (n := ival_less.note) (by kernel_rfl) (by kernel_rfl) (orc_sound (orc_cons (exact_Cmp.sound k) (orc_nil))) ((ival_less.fn_eq k x0 x1).trans hr) ?_, hf⟩
    intro rs' h
    rcases rs' with _ | ⟨r0, _ | ⟨x', l'⟩⟩
    · exact no h
    · obtain ⟨y0, rfl, h0⟩ := R.un_some h
      obtain rfl := inj h0
      rfl
    · exact no h
  · exact no h
theorem ival_Hull.top_eq (k : Nat) (L : Labels ((((Bool × ByteArray) × ByteArray) × (Bool × ByteArray) × ByteArray))) (a0 : ((Bool × ByteArray) × ByteArray) × (Bool × ByteArray) × ByteArray) (a1 : ((Bool × ByteArray) × ByteArray) × (Bool × ByteArray) × ByteArray) : evTop ctx (ival_Hull.orc k) L ival_Hull.note Tryz.f147 [.data (.agg (.pair (.agg (.pair (.agg (.pair .bool .str)) .str)) (.agg (.pair (.agg (.pair .bool .str)) .str)))) a0, .data (.agg (.pair (.agg (.pair (.agg (.pair .bool .str)) .str)) (.agg (.pair (.agg (.pair .bool .str)) .str)))) a1] ival_Hull.κ = ival_Hull.top k (fun x0 x1 x2 => L 0 (mkE 22 0 [(2, .ptr 2 (.agg (.pair (.agg (.pair (.agg (.pair .bool .str)) .str)) (.agg (.pair (.agg (.pair .bool .str)) .str)))) []), (3, .ptr 3 (.agg (.pair (.agg (.pair (.agg (.pair .bool .str)) .str)) (.agg (.pair (.agg (.pair .bool .str)) .str)))) []), (4, .ptr 4 (.agg (.pair (.agg (.pair (.agg (.pair .bool .str)) .str)) (.agg (.pair (.agg (.pair .bool .str)) .str)))) [])]) (ofList [.dead, .dead, .var true (.agg (.pair (.agg (.pair (.agg (.pair .bool .str)) .str)) (.agg (.pair (.agg (.pair .bool .str)) .str)))) (.data (.agg (.pair (.agg (.pair (.agg (.pair .bool .str)) .str)) (.agg (.pair (.agg (.pair .bool .str)) .str)))) x0), .var true (.agg (.pair (.agg (.pair (.agg (.pair .bool .str)) .str)) (.agg (.pair (.agg (.pair .bool .str)) .str)))) (.data (.agg (.pair (.agg (.pair (.agg (.pair .bool .str)) .str)) (.agg (.pair (.agg (.pair .bool .str)) .str)))) x1), .var true (.agg (.pair (.agg (.pair (.agg (.pair .bool .str)) .str)) (.agg (.pair (.agg (.pair .bool .str)) .str)))) (.data (.agg (.pair (.agg (.pair (.agg (.pair .bool .str)) .str)) (.agg (.pair (.agg (.pair .bool .str)) .str)))) x2)]) 5) a0 a1 := by
  kernel_rfl
theorem ival_Hull.b0_eq (k : Nat) (L : Labels ((((Bool × ByteArray) × ByteArray) × (Bool × ByteArray) × ByteArray))) (x0 : ((Bool × ByteArray) × ByteArray) × (Bool × ByteArray) × ByteArray) (x1 : ((Bool × ByteArray) × ByteArray) × (Bool × ByteArray) × ByteArray) (x2 : ((Bool × ByteArray) × ByteArray) × (Bool × ByteArray) × ByteArray) : evLab ctx (ival_Hull.orc k) L ival_Hull.note Tryz.f147 2 ival_Hull.κ 0 (mkE 22 0 [(2, .ptr 2 (.agg (.pair (.agg (.pair (.agg (.pair .bool .str)) .str)) (.agg (.pair (.agg (.pair .bool .str)) .str)))) []), (3, .ptr 3 (.agg (.pair (.agg (.pair (.agg (.pair .bool .str)) .str)) (.agg (.pair (.agg (.pair .bool .str)) .str)))) []), (4, .ptr 4 (.agg (.pair (.agg (.pair (.agg (.pair .bool .str)) .str)) (.agg (.pair (.agg (.pair .bool .str)) .str)))) [])]) (ofList [.dead, .dead, .var true (.agg (.pair (.agg (.pair (.agg (.pair .bool .str)) .str)) (.agg (.pair (.agg (.pair .bool .str)) .str)))) (.data (.agg (.pair (.agg (.pair (.agg (.pair .bool .str)) .str)) (.agg (.pair (.agg (.pair .bool .str)) .str)))) x0), .var true (.agg (.pair (.agg (.pair (.agg (.pair .bool .str)) .str)) (.agg (.pair (.agg (.pair .bool .str)) .str)))) (.data (.agg (.pair (.agg (.pair (.agg (.pair .bool .str)) .str)) (.agg (.pair (.agg (.pair .bool .str)) .str)))) x1), .var true (.agg (.pair (.agg (.pair (.agg (.pair .bool .str)) .str)) (.agg (.pair (.agg (.pair .bool .str)) .str)))) (.data (.agg (.pair (.agg (.pair (.agg (.pair .bool .str)) .str)) (.agg (.pair (.agg (.pair .bool .str)) .str)))) x2)]) 5 = ival_Hull.b0 k x0 x1 x2 := by
  kernel_rfl
theorem ival_Hull.run (k : Nat) : ∀ n : Nat, (∀ (x0 : ((Bool × ByteArray) × ByteArray) × (Bool × ByteArray) × ByteArray) (x1 : ((Bool × ByteArray) × ByteArray) × (Bool × ByteArray) × ByteArray) (x2 : ((Bool × ByteArray) × ByteArray) × (Bool × ByteArray) × ByteArray), evRun ctx (ival_Hull.orc k) ival_Hull.note Tryz.f147 2 ival_Hull.κ n 0 (mkE 22 0 [(2, .ptr 2 (.agg (.pair (.agg (.pair (.agg (.pair .bool .str)) .str)) (.agg (.pair (.agg (.pair .bool .str)) .str)))) []), (3, .ptr 3 (.agg (.pair (.agg (.pair (.agg (.pair .bool .str)) .str)) (.agg (.pair (.agg (.pair .bool .str)) .str)))) []), (4, .ptr 4 (.agg (.pair (.agg (.pair (.agg (.pair .bool .str)) .str)) (.agg (.pair (.agg (.pair .bool .str)) .str)))) [])]) (ofList [.dead, .dead, .var true (.agg (.pair (.agg (.pair (.agg (.pair .bool .str)) .str)) (.agg (.pair (.agg (.pair .bool .str)) .str)))) (.data (.agg (.pair (.agg (.pair (.agg (.pair .bool .str)) .str)) (.agg (.pair (.agg (.pair .bool .str)) .str)))) x0), .var true (.agg (.pair (.agg (.pair (.agg (.pair .bool .str)) .str)) (.agg (.pair (.agg (.pair .bool .str)) .str)))) (.data (.agg (.pair (.agg (.pair (.agg (.pair .bool .str)) .str)) (.agg (.pair (.agg (.pair .bool .str)) .str)))) x1), .var true (.agg (.pair (.agg (.pair (.agg (.pair .bool .str)) .str)) (.agg (.pair (.agg (.pair .bool .str)) .str)))) (.data (.agg (.pair (.agg (.pair (.agg (.pair .bool .str)) .str)) (.agg (.pair (.agg (.pair .bool .str)) .str)))) x2)]) 5 = ival_Hull.l0 k n x0 x1 x2) := by
  intro n
  induction n with
  | zero => exact fun _ _ _ => rfl
  | succ n ih =>
    have h0 := ih
    refine ?_
    · intro x0 x1 x2; refine (ival_Hull.b0_eq k (evRun ctx (ival_Hull.orc k) ival_Hull.note Tryz.f147 2 ival_Hull.κ n) x0 x1 x2).trans ?_
      rfl
theorem ival_Hull.fn_eq (k : Nat) (a0 : ((Bool × ByteArray) × ByteArray) × (Bool × ByteArray) × ByteArray) (a1 : ((Bool × ByteArray) × ByteArray) × (Bool × ByteArray) × ByteArray) : evFunc ctx (ival_Hull.orc k) k ival_Hull.note Tryz.f147 [.data (.agg (.pair (.agg (.pair (.agg (.pair .bool .str)) .str)) (.agg (.pair (.agg (.pair .bool .str)) .str)))) a0, .data (.agg (.pair (.agg (.pair (.agg (.pair .bool .str)) .str)) (.agg (.pair (.agg (.pair .bool .str)) .str)))) a1] ival_Hull.κ = ival_Hull k a0 a1 := by
  refine (ival_Hull.top_eq k (evRun ctx (ival_Hull.orc k) ival_Hull.note Tryz.f147 2 ival_Hull.κ k) a0 a1).trans ?_
  have h0 := ival_Hull.run k k
  simp only [h0]
  rfl
theorem ival_Hull.sound {β : Type} (k : Nat) : FunOK Tryz.prog ctx 147 (ival_Hull.C k : Fun β) := by
  intro xs κ r h
  rcases xs with _ | ⟨a0, _ | ⟨a1, _ | ⟨x', l'⟩⟩⟩
  · exact no h
  · exact no h
  · obtain ⟨x0, rfl, h1⟩ := A.un_some h
    obtain ⟨x1, rfl, h2⟩ := A.un_some h1
    obtain ⟨res, hr, hf⟩ := bnd h2
    refine ⟨[.data (.agg (.pair (.agg (.pair (.agg (.pair .bool .str)) .str)) (.agg (.pair (.agg (.pair .bool .str)) .str)))) res], fun_ok' ctx_ok mixed_ok (f := 147) (fn := Tryz.f147) (n := ival_Hull.note) (by kernel_rfl) (by kernel_rfl) (orc_sound (orc_cons (ival_less.sound k) (orc_nil))) ((ival_Hull.fn_eq k x0 x1).trans hr) ?_, hf⟩
    intro rs' h
    rcases rs' with _ | ⟨r0, _ | ⟨x', l'⟩⟩
    · exact no h
    · obtain ⟨y0, rfl, h0⟩ := R.un_some h
      obtain rfl := inj h0
      rfl
    · exact no h
  · exact no h
theorem ival_Mul.top_eq (k : Nat) (L : Labels ((((Bool × ByteArray) × ByteArray) × (Bool × ByteArray) × ByteArray))) (a0 : ((Bool × ByteArray) × ByteArray) × (Bool × ByteArray) × ByteArray) (a1 : ((Bool × ByteArray) × ByteArray) × (Bool × ByteArray) × ByteArray) : evTop ctx (ival_Mul.orc k) L ival_Mul.note Tryz.f123 [.data (.agg (.pair (.agg (.pair (.agg (.pair .bool .str)) .str)) (.agg (.pair (.agg (.pair .bool .str)) .str)))) a0, .data (.agg (.pair (.agg (.pair (.agg (.pair .bool .str)) .str)) (.agg (.pair (.agg (.pair .bool .str)) .str)))) a1] ival_Mul.κ = ival_Mul.top k (fun x0 x1 x2 x3 => L 0 (mkE 43 0 [(4, .ptr 2 (.agg (.pair (.agg (.pair (.agg (.pair .bool .str)) .str)) (.agg (.pair (.agg (.pair .bool .str)) .str)))) []), (5, .ptr 3 (.arr 4 (.agg (.pair (.agg (.pair .bool .str)) .str))) []), (6, .ptr 4 (.agg (.pair (.agg (.pair (.agg (.pair .bool .str)) .str)) (.agg (.pair (.agg (.pair .bool .str)) .str)))) []), (32, .data (.int .i64) x0)]) (ofList [.dead, .dead, .var true (.agg (.pair (.agg (.pair (.agg (.pair .bool .str)) .str)) (.agg (.pair (.agg (.pair .bool .str)) .str)))) (.data (.agg (.pair (.agg (.pair (.agg (.pair .bool .str)) .str)) (.agg (.pair (.agg (.pair .bool .str)) .str)))) x1), .var true (.arr 4 (.agg (.pair (.agg (.pair .bool .str)) .str))) (.data (.arr 4 (.agg (.pair (.agg (.pair .bool .str)) .str))) x2), .var true (.agg (.pair (.agg (.pair (.agg (.pair .bool .str)) .str)) (.agg (.pair (.agg (.pair .bool .str)) .str)))) (.data (.agg (.pair (.agg (.pair (.agg (.pair .bool .str)) .str)) (.agg (.pair (.agg (.pair .bool .str)) .str)))) x3)]) 5) a0 a1 := by
  kernel_rfl
theorem ival_Mul.b0_eq (k : Nat) (L : Labels ((((Bool × ByteArray) × ByteArray) × (Bool × ByteArray) × ByteArray))) (x0 : Int) (x1 : ((Bool × ByteArray) × ByteArray) × (Bool × ByteArray) × ByteArray) (x2 : List ((Bool × ByteArray) × ByteArray)) (x3 : ((Bool × ByteArray) × ByteArray) × (Bool × ByteArray) × ByteArray) : evLab ctx (ival_Mul.orc k) L ival_Mul.note Tryz.f123 2 ival_Mul.κ 0 (mkE 43 0 [(4, .ptr 2 (.agg (.pair (.agg (.pair (.agg (.pair .bool .str)) .str)) (.agg (.pair (.agg (.pair .bool .str)) .str)))) []), (5, .ptr 3 (.arr 4 (.agg (.pair (.agg (.pair .bool .str)) .str))) []), (6, .ptr 4 (.agg (.pair (.agg (.pair (.agg (.pair .bool .str)) .str)) (.agg (.pair (.agg (.pair .bool .str)) .str)))) []), (32, .data (.int .i64) x0)]) (ofList [.dead, .dead, .var true (.agg (.pair (.agg (.pair (.agg (.pair .bool .str)) .str)) (.agg (.pair (.agg (.pair .bool .str)) .str)))) (.data (.agg (.pair (.agg (.pair (.agg (.pair .bool .str)) .str)) (.agg (.pair (.agg (.pair .bool .str)) .str)))) x1), .var true (.arr 4 (.agg (.pair (.agg (.pair .bool .str)) .str))) (.data (.arr 4 (.agg (.pair (.agg (.pair .bool .str)) .str))) x2), .var true (.agg (.pair (.agg (.pair (.agg (.pair .bool .str)) .str)) (.agg (.pair (.agg (.pair .bool .str)) .str)))) (.data (.agg (.pair (.agg (.pair (.agg (.pair .bool .str)) .str)) (.agg (.pair (.agg (.pair .bool .str)) .str)))) x3)]) 5 = ival_Mul.b0 k (fun x0 x1 x2 x3 => L 0 (mkE 43 0 [(4, .ptr 2 (.agg (.pair (.agg (.pair (.agg (.pair .bool .str)) .str)) (.agg (.pair (.agg (.pair .bool .str)) .str)))) []), (5, .ptr 3 (.arr 4 (.agg (.pair (.agg (.pair .bool .str)) .str))) []), (6, .ptr 4 (.agg (.pair (.agg (.pair (.agg (.pair .bool .str)) .str)) (.agg (.pair (.agg (.pair .bool .str)) .str)))) []), (32, .data (.int .i64) x0)]) (ofList [.dead, .dead, .var true (.agg (.pair (.agg (.pair (.agg (.pair .bool .str)) .str)) (.agg (.pair (.agg (.pair .bool .str)) .str)))) (.data (.agg (.pair (.agg (.pair (.agg (.pair .bool .str)) .str)) (.agg (.pair (.agg (.pair .bool .str)) .str)))) x1), .var true (.arr 4 (.agg (.pair (.agg (.pair .bool .str)) .str))) (.data (.arr 4 (.agg (.pair (.agg (.pair .bool .str)) .str))) x2), .var true (.agg (.pair (.agg (.pair (.agg (.pair .bool .str)) .str)) (.agg (.pair (.agg (.pair .bool .str)) .str)))) (.data (.agg (.pair (.agg (.pair (.agg (.pair .bool .str)) .str)) (.agg (.pair (.agg (.pair .bool .str)) .str)))) x3)]) 5) x0 x1 x2 x3 := by
  kernel_rfl
theorem ival_Mul.run (k : Nat) : ∀ n : Nat, (∀ (x0 : Int) (x1 : ((Bool × ByteArray) × ByteArray) × (Bool × ByteArray) × ByteArray) (x2 : List ((Bool × ByteArray) × ByteArray)) (x3 : ((Bool × ByteArray) × ByteArray) × (Bool × ByteArray) × ByteArray), evRun ctx (ival_Mul.orc k) ival_Mul.note Tryz.f123 2 ival_Mul.κ n 0 (mkE 43 0 [(4, .ptr 2 (.agg (.pair (.agg (.pair (.agg (.pair .bool .str)) .str)) (.agg (.pair (.agg (.pair .bool .str)) .str)))) []), (5, .ptr 3 (.arr 4 (.agg (.pair (.agg (.pair .bool .str)) .str))) []), (6, .ptr 4 (.agg (.pair (.agg (.pair (.agg (.pair .bool .str)) .str)) (.agg (.pair (.agg (.pair .bool .str)) .str)))) []), (32, .data (.int .i64) x0)]) (ofList [.dead, .dead, .var true (.agg (.pair (.agg (.pair (.agg (.pair .bool .str)) .str)) (.agg (.pair (.agg (.pair .bool .str)) .str)))) (.data (.agg (.pair (.agg (.pair (.agg (.pair .bool .str)) .str)) (.agg (.pair (.agg (.pair .bool .str)) .str)))) x1), .var true (.arr 4 (.agg (.pair (.agg (.pair .bool .str)) .str))) (.data (.arr 4 (.agg (.pair (.agg (.pair .bool .str)) .str))) x2), .var true (.agg (.pair (.agg (.pair (.agg (.pair .bool .str)) .str)) (.agg (.pair (.agg (.pair .bool .str)) .str)))) (.data (.agg (.pair (.agg (.pair (.agg (.pair .bool .str)) .str)) (.agg (.pair (.agg (.pair .bool .str)) .str)))) x3)]) 5 = ival_Mul.l0 k n x0 x1 x2 x3) := by
  intro n
  induction n with
  | zero => exact fun _ _ _ _ => rfl
  | succ n ih =>
    have h0 := ih
    refine ?_
    · intro x0 x1 x2 x3; refine (ival_Mul.b0_eq k (evRun ctx (ival_Mul.orc k) ival_Mul.note Tryz.f123 2 ival_Mul.κ n) x0 x1 x2 x3).trans ?_
      simp only [h0]
      rfl
theorem ival_Mul.fn_eq (k : Nat) (a0 : ((Bool × ByteArray) × ByteArray) × (Bool × ByteArray) × ByteArray) (a1 : ((Bool × ByteArray) × ByteArray) × (Bool × ByteArray) × ByteArray) : evFunc ctx (ival_Mul.orc k) k ival_Mul.note Tryz.f123 [.data (.agg (.pair (.agg (.pair (.agg (.pair .bool .str)) .str)) (.agg (.pair (.agg (.pair .bool .str)) .str)))) a0, .data (.agg (.pair (.agg (.pair (.agg (.pair .bool .str)) .str)) (.agg (.pair (.agg (.pair .bool .str)) .str)))) a1] ival_Mul.κ = ival_Mul k a0 a1 := by
  refine (ival_Mul.top_eq k (evRun ctx (ival_Mul.orc k) ival_Mul.note Tryz.f123 2 ival_Mul.κ k) a0 a1).trans ?_
  have h0 := ival_Mul.run k k
  simp only [h0]
  rfl
theorem ival_Mul.sound {β : Type} (k : Nat) : FunOK Tryz.prog ctx 123 (ival_Mul.C k : Fun β) := by
  intro xs κ r h
  rcases xs with _ | ⟨a0, _ | ⟨a1, _ | ⟨x', l'⟩⟩⟩
  · exact no h
  · exact no h
  · obtain ⟨x0, rfl, h1⟩ := A.un_some h
    obtain ⟨x1, rfl, h2⟩ := A.un_some h1
    obtain ⟨res, hr, hf⟩ := bnd h2
    refine ⟨[.data (.agg (.pair (.agg (.pair (.agg (.pair .bool .str)) .str)) (.agg (.pair (.agg (.pair .bool .str)) .str)))) res], fun_ok' ctx_ok mixed_ok (f := 123) (fn := Tryz.f123) (n := ival_Mul.note) (by kernel_rfl) (by kernel_rfl) (orc_sound (orc_cons (exact_Mul.sound k) (orc_cons (ival_Point.sound) (orc_cons (ival_Hull.sound k) (orc_nil))))) ((ival_Mul.fn_eq k x0 x1).trans hr) ?_, hf⟩
    intro rs' h
    rcases rs' with _ | ⟨r0, _ | ⟨x', l'⟩⟩
    · exact no h
    · obtain ⟨y0, rfl, h0⟩ := R.un_some h
      obtain rfl := inj h0
      rfl
    · exact no h
  · exact no h
theorem enclosure_Mul.eq0 (k : Nat) (L : Labels ((((Bool × ByteArray) × ByteArray) × (Bool × ByteArray) × ByteArray) × Int)) (a0 : ((Bool × ByteArray) × ByteArray) × (Bool × ByteArray) × ByteArray) (a1 : ((Bool × ByteArray) × ByteArray) × (Bool × ByteArray) × ByteArray) : evTop ctx (enclosure_Mul.orc k) L enclosure_Mul.note Tryz.f36 [.data (.agg (.pair (.agg (.pair (.agg (.pair .bool .str)) .str)) (.agg (.pair (.agg (.pair .bool .str)) .str)))) a0, .data (.agg (.pair (.agg (.pair (.agg (.pair .bool .str)) .str)) (.agg (.pair (.agg (.pair .bool .str)) .str)))) a1] enclosure_Mul.κ = enclosure_Mul k a0 a1 := by
  kernel_rfl
theorem enclosure_Mul.fn_eq (k : Nat) (a0 : ((Bool × ByteArray) × ByteArray) × (Bool × ByteArray) × ByteArray) (a1 : ((Bool × ByteArray) × ByteArray) × (Bool × ByteArray) × ByteArray) : evFunc ctx (enclosure_Mul.orc k) k enclosure_Mul.note Tryz.f36 [.data (.agg (.pair (.agg (.pair (.agg (.pair .bool .str)) .str)) (.agg (.pair (.agg (.pair .bool .str)) .str)))) a0, .data (.agg (.pair (.agg (.pair (.agg (.pair .bool .str)) .str)) (.agg (.pair (.agg (.pair .bool .str)) .str)))) a1] enclosure_Mul.κ = enclosure_Mul k a0 a1 :=
  enclosure_Mul.eq0 k _ a0 a1
theorem enclosure_Mul.sound {β : Type} (k : Nat) : FunOK Tryz.prog ctx 36 (enclosure_Mul.C k : Fun β) := by
  intro xs κ r h
  rcases xs with _ | ⟨a0, _ | ⟨a1, _ | ⟨x', l'⟩⟩⟩
  · exact no h
  · exact no h
  · obtain ⟨x0, rfl, h1⟩ := A.un_some h
    obtain ⟨x1, rfl, h2⟩ := A.un_some h1
    obtain ⟨res, hr, hf⟩ := bnd h2
    refine ⟨[.data (.agg (.pair (.agg (.pair (.agg (.pair .bool .str)) .str)) (.agg (.pair (.agg (.pair .bool .str)) .str)))) res.1, .data (.int .i64) res.2], fun_ok' ctx_ok mixed_ok (f := 36) (fn := Tryz.f36) (n := enclosure_Mul.note) (by kernel_rfl) (by kernel_rfl) (orc_sound (orc_cons (enclosure_Check.sound k) (orc_cons (enclosure_first.sound k) (orc_cons (ival_Mul.sound k) (orc_cons (enclosure_interval.sound) (orc_nil)))))) ((enclosure_Mul.fn_eq k x0 x1).trans hr) ?_, hf⟩
    intro rs' h
    rcases rs' with _ | ⟨r0, _ | ⟨r1, _ | ⟨x', l'⟩⟩⟩
    · exact no h
    · exact no h
    · obtain ⟨y0, rfl, h0⟩ := R.un_some h
      obtain ⟨y1, rfl, h1⟩ := R.un_some h0
      obtain rfl := inj h1
      rfl
    · exact no h
  · exact no h
theorem exact_Int.eq0 (k : Nat) (L : Labels (((Bool × ByteArray) × ByteArray))) (a0 : Int) : evTop ctx (exact_Int.orc k) L exact_Int.note Tryz.f178 [.data (.int .i64) a0] exact_Int.κ = exact_Int k a0 := by
  kernel_rfl
theorem exact_Int.fn_eq (k : Nat) (a0 : Int) : evFunc ctx (exact_Int.orc k) k exact_Int.note Tryz.f178 [.data (.int .i64) a0] exact_Int.κ = exact_Int k a0 :=
  exact_Int.eq0 k _ a0
theorem exact_Int.sound {β : Type} (k : Nat) : FunOK Tryz.prog ctx 178 (exact_Int.C k : Fun β) := by
  intro xs κ r h
  rcases xs with _ | ⟨a0, _ | ⟨x', l'⟩⟩
  · exact no h
  · obtain ⟨x0, rfl, h1⟩ := A.un_some h
    obtain ⟨res, hr, hf⟩ := bnd h1
    refine ⟨[.data (.agg (.pair (.agg (.pair .bool .str)) .str)) res], fun_ok' ctx_ok mixed_ok (f := 178) (fn := Tryz.f178) (n := exact_Int.note) (by kernel_rfl) (by kernel_rfl) (orc_sound (orc_cons (exact_IntOf.sound k) (orc_cons (exact_Whole.sound) (orc_nil)))) ((exact_Int.fn_eq k x0).trans hr) ?_, hf⟩
    intro rs' h
    rcases rs' with _ | ⟨r0, _ | ⟨x', l'⟩⟩
    · exact no h
    · obtain ⟨y0, rfl, h0⟩ := R.un_some h
      obtain rfl := inj h0
      rfl
    · exact no h
  · exact no h
theorem ival_Contains.eq0 (k : Nat) (L : Labels (Bool)) (a0 : ((Bool × ByteArray) × ByteArray) × (Bool × ByteArray) × ByteArray) (a1 : (Bool × ByteArray) × ByteArray) : evTop ctx (ival_Contains.orc k) L ival_Contains.note Tryz.f151 [.data (.agg (.pair (.agg (.pair (.agg (.pair .bool .str)) .str)) (.agg (.pair (.agg (.pair .bool .str)) .str)))) a0, .data (.agg (.pair (.agg (.pair .bool .str)) .str)) a1] ival_Contains.κ = ival_Contains k a0 a1 := by
  kernel_rfl
theorem ival_Contains.fn_eq (k : Nat) (a0 : ((Bool × ByteArray) × ByteArray) × (Bool × ByteArray) × ByteArray) (a1 : (Bool × ByteArray) × ByteArray) : evFunc ctx (ival_Contains.orc k) k ival_Contains.note Tryz.f151 [.data (.agg (.pair (.agg (.pair (.agg (.pair .bool .str)) .str)) (.agg (.pair (.agg (.pair .bool .str)) .str)))) a0, .data (.agg (.pair (.agg (.pair .bool .str)) .str)) a1] ival_Contains.κ = ival_Contains k a0 a1 :=
  ival_Contains.eq0 k _ a0 a1
theorem ival_Contains.sound {β : Type} (k : Nat) : FunOK Tryz.prog ctx 151 (ival_Contains.C k : Fun β) := by
  intro xs κ r h
  rcases xs with _ | ⟨a0, _ | ⟨a1, _ | ⟨x', l'⟩⟩⟩
  · exact no h
  · exact no h
  · obtain ⟨x0, rfl, h1⟩ := A.un_some h
    obtain ⟨x1, rfl, h2⟩ := A.un_some h1
    obtain ⟨res, hr, hf⟩ := bnd h2
    refine ⟨[.data .bool res], fun_ok' ctx_ok mixed_ok (f := 151) (fn := Tryz.f151) (n := ival_Contains.note) (by kernel_rfl) (by kernel_rfl) (orc_sound (orc_cons (ival_less.sound k) (orc_nil))) ((ival_Contains.fn_eq k x0 x1).trans hr) ?_, hf⟩
    intro rs' h
    rcases rs' with _ | ⟨r0, _ | ⟨x', l'⟩⟩
    · exact no h
    · obtain ⟨y0, rfl, h0⟩ := R.un_some h
      obtain rfl := inj h0
      rfl
    · exact no h
  · exact no h
theorem ival_Square.eq0 (k : Nat) (L : Labels ((((Bool × ByteArray) × ByteArray) × (Bool × ByteArray) × ByteArray))) (a0 : ((Bool × ByteArray) × ByteArray) × (Bool × ByteArray) × ByteArray) : evTop ctx (ival_Square.orc k) L ival_Square.note Tryz.f124 [.data (.agg (.pair (.agg (.pair (.agg (.pair .bool .str)) .str)) (.agg (.pair (.agg (.pair .bool .str)) .str)))) a0] ival_Square.κ = ival_Square k a0 := by
  kernel_rfl
theorem ival_Square.fn_eq (k : Nat) (a0 : ((Bool × ByteArray) × ByteArray) × (Bool × ByteArray) × ByteArray) : evFunc ctx (ival_Square.orc k) k ival_Square.note Tryz.f124 [.data (.agg (.pair (.agg (.pair (.agg (.pair .bool .str)) .str)) (.agg (.pair (.agg (.pair .bool .str)) .str)))) a0] ival_Square.κ = ival_Square k a0 :=
  ival_Square.eq0 k _ a0
theorem ival_Square.sound {β : Type} (k : Nat) : FunOK Tryz.prog ctx 124 (ival_Square.C k : Fun β) := by
  intro xs κ r h
  rcases xs with _ | ⟨a0, _ | ⟨x', l'⟩⟩
  · exact no h
  · obtain ⟨x0, rfl, h1⟩ := A.un_some h
    obtain ⟨res, hr, hf⟩ := bnd h1
    refine ⟨[.data (.agg (.pair (.agg (.pair (.agg (.pair .bool .str)) .str)) (.agg (.pair (.agg (.pair .bool .str)) .str)))) res], fun_ok' ctx_ok mixed_ok (f := 124) (fn := Tryz.f124) (n := ival_Square.note) (by kernel_rfl) (by kernel_rfl) (orc_sound (orc_cons (exact_Mul.sound k) (orc_cons (ival_Point.sound) (orc_cons (ival_Hull.sound k) (orc_cons (exact_Int.sound k) (orc_cons (ival_Contains.sound k) (orc_nil))))))) ((ival_Square.fn_eq k x0).trans hr) ?_, hf⟩
    intro rs' h
    rcases rs' with _ | ⟨r0, _ | ⟨x', l'⟩⟩
    · exact no h
    · obtain ⟨y0, rfl, h0⟩ := R.un_some h
      obtain rfl := inj h0
      rfl
    · exact no h
  · exact no h
theorem enclosure_Square.eq0 (k : Nat) (L : Labels ((((Bool × ByteArray) × ByteArray) × (Bool × ByteArray) × ByteArray) × Int)) (a0 : ((Bool × ByteArray) × ByteArray) × (Bool × ByteArray) × ByteArray) : evTop ctx (enclosure_Square.orc k) L enclosure_Square.note Tryz.f37 [.data (.agg (.pair (.agg (.pair (.agg (.pair .bool .str)) .str)) (.agg (.pair (.agg (.pair .bool .str)) .str)))) a0] enclosure_Square.κ = enclosure_Square k a0 := by
  kernel_rfl
theorem enclosure_Square.fn_eq (k : Nat) (a0 : ((Bool × ByteArray) × ByteArray) × (Bool × ByteArray) × ByteArray) : evFunc ctx (enclosure_Square.orc k) k enclosure_Square.note Tryz.f37 [.data (.agg (.pair (.agg (.pair (.agg (.pair .bool .str)) .str)) (.agg (.pair (.agg (.pair .bool .str)) .str)))) a0] enclosure_Square.κ = enclosure_Square k a0 :=
  enclosure_Square.eq0 k _ a0
theorem enclosure_Square.sound {β : Type} (k : Nat) : FunOK Tryz.prog ctx 37 (enclosure_Square.C k : Fun β) := by
  intro xs κ r h
  rcases xs with _ | ⟨a0, _ | ⟨x', l'⟩⟩
  · exact no h
  · obtain ⟨x0, rfl, h1⟩ := A.un_some h
    obtain ⟨res, hr, hf⟩ := bnd h1
    refine ⟨[.data (.agg (.pair (.agg (.pair (.agg (.pair .bool .str)) .str)) (.agg (.pair (.agg (.pair .bool .str)) .str)))) res.1, .data (.int .i64) res.2], fun_ok' ctx_ok mixed_ok (f := 37) (fn := Tryz.f37) (n := enclosure_Square.note) (by kernel_rfl) (by kernel_rfl) (orc_sound (orc_cons (enclosure_Check.sound k) (orc_cons (enclosure_first.sound k) (orc_cons (ival_Square.sound k) (orc_cons (enclosure_interval.sound) (orc_nil)))))) ((enclosure_Square.fn_eq k x0).trans hr) ?_, hf⟩
    intro rs' h
    rcases rs' with _ | ⟨r0, _ | ⟨r1, _ | ⟨x', l'⟩⟩⟩
    · exact no h
    · exact no h
    · obtain ⟨y0, rfl, h0⟩ := R.un_some h
      obtain ⟨y1, rfl, h1⟩ := R.un_some h0
      obtain rfl := inj h1
      rfl
    · exact no h
  · exact no h
theorem galoisref03_FromInt.eq0 (k : Nat) (L : Labels (((Bool × ByteArray) × ByteArray))) (a0 : Int) : evTop ctx (galoisref03_FromInt.orc k) L galoisref03_FromInt.note Tryz.f61 [.data (.int .i64) a0] galoisref03_FromInt.κ = galoisref03_FromInt k a0 := by
  kernel_rfl
theorem galoisref03_FromInt.fn_eq (k : Nat) (a0 : Int) : evFunc ctx (galoisref03_FromInt.orc k) k galoisref03_FromInt.note Tryz.f61 [.data (.int .i64) a0] galoisref03_FromInt.κ = galoisref03_FromInt k a0 :=
  galoisref03_FromInt.eq0 k _ a0
theorem galoisref03_FromInt.sound {β : Type} (k : Nat) : FunOK Tryz.prog ctx 61 (galoisref03_FromInt.C k : Fun β) := by
  intro xs κ r h
  rcases xs with _ | ⟨a0, _ | ⟨x', l'⟩⟩
  · exact no h
  · obtain ⟨x0, rfl, h1⟩ := A.un_some h
    obtain ⟨res, hr, hf⟩ := bnd h1
    refine ⟨[.data (.agg (.pair (.agg (.pair .bool .str)) .str)) res], fun_ok' ctx_ok mixed_ok (f := 61) (fn := Tryz.f61) (n := galoisref03_FromInt.note) (by kernel_rfl) (by kernel_rfl) (orc_sound (orc_cons (galoisref02_FromInt.sound k) (orc_nil))) ((galoisref03_FromInt.fn_eq k x0).trans hr) ?_, hf⟩
    intro rs' h
    rcases rs' with _ | ⟨r0, _ | ⟨x', l'⟩⟩
    · exact no h
    · obtain ⟨y0, rfl, h0⟩ := R.un_some h
      obtain rfl := inj h0
      rfl
    · exact no h
  · exact no h
theorem galoisref02_Sign.eq0 (L : Labels (Int)) (a0 : Bool × ByteArray) : evTop ctx (galoisref02_Sign.orc ) L galoisref02_Sign.note Tryz.f179 [.data (.agg (.pair .bool .str)) a0] galoisref02_Sign.κ = galoisref02_Sign a0 := by
  kernel_rfl
theorem galoisref02_Sign.fn_eq (a0 : Bool × ByteArray) : evFunc ctx (galoisref02_Sign.orc ) 0 galoisref02_Sign.note Tryz.f179 [.data (.agg (.pair .bool .str)) a0] galoisref02_Sign.κ = galoisref02_Sign a0 :=
  galoisref02_Sign.eq0 _ a0
theorem galoisref02_Sign.sound {β : Type} : FunOK Tryz.prog ctx 179 (galoisref02_Sign.C : Fun β) := by
  intro xs κ r h
  rcases xs with _ | ⟨a0, _ | ⟨x', l'⟩⟩
  · exact no h
  · unfold galoisref02_Sign.C at h
    dsimp only at h
    obtain ⟨x0, rfl, h1⟩ := A.un_some h
    obtain ⟨res, hr, hf⟩ := bnd h1
    refine ⟨[.data (.int .i64) res], fun_ok' ctx_ok mixed_ok (f := 179) (fn := Tryz.f179) (n := galoisref02_Sign.note) (by kernel_rfl) (by kernel_rfl) (orc_sound (orc_nil)) ((galoisref02_Sign.fn_eq x0).trans hr) ?_, hf⟩
    intro rs' h
    rcases rs' with _ | ⟨r0, _ | ⟨x', l'⟩⟩
    · exact no h
    · obtain ⟨y0, rfl, h0⟩ := R.un_some h
      obtain rfl := inj h0
      rfl
    · exact no h
  · exact no h
end Go.Proofs.YthghchjbomlpfaaGreat.Ev

namespace Go.Proofs.YthghchjbomlpfaaGreat.Ev
set_option linter.unusedVariables false
set_option maxRecDepth 100000
theorem galoisref03_Sign.eq0 (L : Labels (Int)) (a0 : (Bool × ByteArray) × ByteArray) : evTop ctx (galoisref03_Sign.orc ) L galoisref03_Sign.note Tryz.f126 [.data (.agg (.pair (.agg (.pair .bool .str)) .str)) a0] galoisref03_Sign.κ = galoisref03_Sign a0 := by
  kernel_rfl
theorem galoisref03_Sign.fn_eq (a0 : (Bool × ByteArray) × ByteArray) : evFunc ctx (galoisref03_Sign.orc ) 0 galoisref03_Sign.note Tryz.f126 [.data (.agg (.pair (.agg (.pair .bool .str)) .str)) a0] galoisref03_Sign.κ = galoisref03_Sign a0 :=
  galoisref03_Sign.eq0 _ a0
theorem galoisref03_Sign.sound {β : Type} : FunOK Tryz.prog ctx 126 (galoisref03_Sign.C : Fun β) := by
  intro xs κ r h
  rcases xs with _ | ⟨a0, _ | ⟨x', l'⟩⟩
  · exact no h
  · unfold galoisref03_Sign.C at h
    dsimp only at h
    obtain ⟨x0, rfl, h1⟩ := A.un_some h
    obtain ⟨res, hr, hf⟩ := bnd h1
    refine ⟨[.data (.int .i64) res], fun_ok' ctx_ok mixed_ok (f := 126) (fn := Tryz.f126) (n := galoisref03_Sign.note) (by kernel_rfl) (by kernel_rfl) (orc_sound (orc_cons (galoisref02_Sign.sound) (orc_nil))) ((galoisref03_Sign.fn_eq x0).trans hr) ?_, hf⟩
    intro rs' h
    rcases rs' with _ | ⟨r0, _ | ⟨x', l'⟩⟩
    · exact no h
    · obtain ⟨y0, rfl, h0⟩ := R.un_some h
      obtain rfl := inj h0
      rfl
    · exact no h
  · exact no h
theorem galoisref06_Trim.top_eq (L : Labels ((List ((Bool × ByteArray) × ByteArray)))) (a0 : List ((Bool × ByteArray) × ByteArray)) : evTop ctx (galoisref06_Trim.orc ) L galoisref06_Trim.note Tryz.f162 [.data (.slice (.agg (.pair (.agg (.pair .bool .str)) .str))) a0] galoisref06_Trim.κ = galoisref06_Trim.top (fun x0 l1 => L 0 (mkE 24 0 [(0, .own 0), (3, .data (.int .i64) x0)]) (ofList [.arr .ro (.agg (.pair (.agg (.pair .bool .str)) .str)) l1]) 1) a0 := by
  kernel_rfl
theorem galoisref06_Trim.b0_eq (L : Labels ((List ((Bool × ByteArray) × ByteArray)))) (x0 : Int) (l1 : List ((Bool × ByteArray) × ByteArray)) : evLab ctx (galoisref06_Trim.orc ) L galoisref06_Trim.note Tryz.f162 1 galoisref06_Trim.κ 0 (mkE 24 0 [(0, .own 0), (3, .data (.int .i64) x0)]) (ofList [.arr .ro (.agg (.pair (.agg (.pair .bool .str)) .str)) l1]) 1 = galoisref06_Trim.b0 (fun x0 l1 => L 0 (mkE 24 0 [(0, .own 0), (3, .data (.int .i64) x0)]) (ofList [.arr .ro (.agg (.pair (.agg (.pair .bool .str)) .str)) l1]) 1) x0 l1 := by
  kernel_rfl
theorem galoisref06_Trim.run : ∀ n : Nat, (∀ (x0 : Int) (l1 : List ((Bool × ByteArray) × ByteArray)), evRun ctx (galoisref06_Trim.orc ) galoisref06_Trim.note Tryz.f162 1 galoisref06_Trim.κ n 0 (mkE 24 0 [(0, .own 0), (3, .data (.int .i64) x0)]) (ofList [.arr .ro (.agg (.pair (.agg (.pair .bool .str)) .str)) l1]) 1 = galoisref06_Trim.l0 n x0 l1) := by
  intro n
  induction n with
  | zero => exact fun _ _ => rfl
  | succ n ih =>
    have h0 := ih
    refine ?_
    · intro x0 l1; refine (galoisref06_Trim.b0_eq (evRun ctx (galoisref06_Trim.orc ) galoisref06_Trim.note Tryz.f162 1 galoisref06_Trim.κ n) x0 l1).trans ?_
      simp only [h0]
      rfl
theorem galoisref06_Trim.fn_eq (k : Nat) (a0 : List ((Bool × ByteArray) × ByteArray)) : evFunc ctx (galoisref06_Trim.orc ) k galoisref06_Trim.note Tryz.f162 [.data (.slice (.agg (.pair (.agg (.pair .bool .str)) .str))) a0] galoisref06_Trim.κ = galoisref06_Trim k a0 := by
  refine (galoisref06_Trim.top_eq (evRun ctx (galoisref06_Trim.orc ) galoisref06_Trim.note Tryz.f162 1 galoisref06_Trim.κ k) a0).trans ?_
  have h0 := galoisref06_Trim.run k
  simp only [h0]
  rfl
theorem galoisref06_Trim.sound {β : Type} (k : Nat) : FunOK Tryz.prog ctx 162 (galoisref06_Trim.C k : Fun β) := by
  intro xs κ r h
  rcases xs with _ | ⟨a0, _ | ⟨x', l'⟩⟩
  · exact no h
  · obtain ⟨x0, rfl, h1⟩ := A.un_some h
    obtain ⟨res, hr, hf⟩ := bnd h1
    refine ⟨[.own (.agg (.pair (.agg (.pair .bool .str)) .str)) res], fun_ok' ctx_ok mixed_ok (f := 162) (fn := Tryz.f162) (n := galoisref06_Trim.note) (by kernel_rfl) (by kernel_rfl) (orc_sound (orc_cons (galoisref03_Sign.sound) (orc_nil))) ((galoisref06_Trim.fn_eq k x0).trans hr) ?_, hf⟩
    intro rs' h
    rcases rs' with _ | ⟨r0, _ | ⟨x', l'⟩⟩
    · exact no h
    · obtain ⟨y0, rfl, h0⟩ := R.unOwn_some h
      obtain rfl := inj h0
      rfl
    · exact no h
  · exact no h
theorem galoisref06_Of.top_eq (k : Nat) (L : Labels ((List ((Bool × ByteArray) × ByteArray)))) (a0 : List Int) : evTop ctx (galoisref06_Of.orc k) L galoisref06_Of.note Tryz.f103 [.data (.slice (.int .i64)) a0] galoisref06_Of.κ = galoisref06_Of.top k (fun x0 x1 l2 l3 => L 0 (mkE 20 0 [(3, .own 1), (6, .own 0), (7, .data (.int .i64) x0), (8, .data (.int .i64) x1)]) (ofList [.arr .ro (.int .i64) l2, .arr .own (.agg (.pair (.agg (.pair .bool .str)) .str)) l3]) 2) a0 := by
  kernel_rfl
theorem galoisref06_Of.b0_eq (k : Nat) (L : Labels ((List ((Bool × ByteArray) × ByteArray)))) (x0 : Int) (x1 : Int) (l2 : List Int) (l3 : List ((Bool × ByteArray) × ByteArray)) : evLab ctx (galoisref06_Of.orc k) L galoisref06_Of.note Tryz.f103 1 galoisref06_Of.κ 0 (mkE 20 0 [(3, .own 1), (6, .own 0), (7, .data (.int .i64) x0), (8, .data (.int .i64) x1)]) (ofList [.arr .ro (.int .i64) l2, .arr .own (.agg (.pair (.agg (.pair .bool .str)) .str)) l3]) 2 = galoisref06_Of.b0 k (fun x0 x1 l2 l3 => L 0 (mkE 20 0 [(3, .own 1), (6, .own 0), (7, .data (.int .i64) x0), (8, .data (.int .i64) x1)]) (ofList [.arr .ro (.int .i64) l2, .arr .own (.agg (.pair (.agg (.pair .bool .str)) .str)) l3]) 2) x0 x1 l2 l3 := by
  kernel_rfl
theorem galoisref06_Of.run (k : Nat) : ∀ n : Nat, (∀ (x0 : Int) (x1 : Int) (l2 : List Int) (l3 : List ((Bool × ByteArray) × ByteArray)), evRun ctx (galoisref06_Of.orc k) galoisref06_Of.note Tryz.f103 1 galoisref06_Of.κ n 0 (mkE 20 0 [(3, .own 1), (6, .own 0), (7, .data (.int .i64) x0), (8, .data (.int .i64) x1)]) (ofList [.arr .ro (.int .i64) l2, .arr .own (.agg (.pair (.agg (.pair .bool .str)) .str)) l3]) 2 = galoisref06_Of.l0 k n x0 x1 l2 l3) := by
  intro n
  induction n with
  | zero => exact fun _ _ _ _ => rfl
  | succ n ih =>
    have h0 := ih
    refine ?_
    · intro x0 x1 l2 l3; refine (galoisref06_Of.b0_eq k (evRun ctx (galoisref06_Of.orc k) galoisref06_Of.note Tryz.f103 1 galoisref06_Of.κ n) x0 x1 l2 l3).trans ?_
      simp only [h0]
      rfl
theorem galoisref06_Of.fn_eq (k : Nat) (a0 : List Int) : evFunc ctx (galoisref06_Of.orc k) k galoisref06_Of.note Tryz.f103 [.data (.slice (.int .i64)) a0] galoisref06_Of.κ = galoisref06_Of k a0 := by
  refine (galoisref06_Of.top_eq k (evRun ctx (galoisref06_Of.orc k) galoisref06_Of.note Tryz.f103 1 galoisref06_Of.κ k) a0).trans ?_
  have h0 := galoisref06_Of.run k k
  simp only [h0]
  rfl
theorem galoisref06_Of.sound {β : Type} (k : Nat) : FunOK Tryz.prog ctx 103 (galoisref06_Of.C k : Fun β) := by
  intro xs κ r h
  rcases xs with _ | ⟨a0, _ | ⟨x', l'⟩⟩
  · exact no h
  · obtain ⟨x0, rfl, h1⟩ := A.un_some h
    obtain ⟨res, hr, hf⟩ := bnd h1
    refine ⟨[.own (.agg (.pair (.agg (.pair .bool .str)) .str)) res], fun_ok' ctx_ok mixed_ok (f := 103) (fn := Tryz.f103) (n := galoisref06_Of.note) (by kernel_rfl) (by kernel_rfl) (orc_sound (orc_cons (galoisref03_FromInt.sound k) (orc_cons (galoisref06_Trim.sound k) (orc_nil)))) ((galoisref06_Of.fn_eq k x0).trans hr) ?_, hf⟩
    intro rs' h
    rcases rs' with _ | ⟨r0, _ | ⟨x', l'⟩⟩
    · exact no h
    · obtain ⟨y0, rfl, h0⟩ := R.unOwn_some h
      obtain rfl := inj h0
      rfl
    · exact no h
  · exact no h
theorem exact_IsZero.eq0 (L : Labels (Bool)) (a0 : (Bool × ByteArray) × ByteArray) : evTop ctx (exact_IsZero.orc ) L exact_IsZero.note Tryz.f163 [.data (.agg (.pair (.agg (.pair .bool .str)) .str)) a0] exact_IsZero.κ = exact_IsZero a0 := by
  kernel_rfl
theorem exact_IsZero.fn_eq (a0 : (Bool × ByteArray) × ByteArray) : evFunc ctx (exact_IsZero.orc ) 0 exact_IsZero.note Tryz.f163 [.data (.agg (.pair (.agg (.pair .bool .str)) .str)) a0] exact_IsZero.κ = exact_IsZero a0 :=
  exact_IsZero.eq0 _ a0
theorem exact_IsZero.sound {β : Type} : FunOK Tryz.prog ctx 163 (exact_IsZero.C : Fun β) := by
  intro xs κ r h
  rcases xs with _ | ⟨a0, _ | ⟨x', l'⟩⟩
  · exact no h
  · unfold exact_IsZero.C at h
    dsimp only at h
    obtain ⟨x0, rfl, h1⟩ := A.un_some h
    obtain ⟨res, hr, hf⟩ := bnd h1
    refine ⟨[.data .bool res], fun_ok' ctx_ok mixed_ok (f := 163) (fn := Tryz.f163) (n := exact_IsZero.note) (by kernel_rfl) (by kernel_rfl) (orc_sound (orc_nil)) ((exact_IsZero.fn_eq x0).trans hr) ?_, hf⟩
    intro rs' h
    rcases rs' with _ | ⟨r0, _ | ⟨x', l'⟩⟩
    · exact no h
    · obtain ⟨y0, rfl, h0⟩ := R.un_some h
      obtain rfl := inj h0
      rfl
    · exact no h
  · exact no h
theorem qpoly_Check.top_eq (k : Nat) (L : Labels (Int)) (a0 : List ((Bool × ByteArray) × ByteArray)) : evTop ctx (qpoly_Check.orc k) L qpoly_Check.note Tryz.f106 [.data (.slice (.agg (.pair (.agg (.pair .bool .str)) .str))) a0] qpoly_Check.κ = qpoly_Check.top k (fun x0 x1 l2 => L 0 (mkE 33 0 [(0, .own 0), (9, .own 0), (10, .data (.int .i64) x0), (11, .data (.int .i64) x1)]) (ofList [.arr .ro (.agg (.pair (.agg (.pair .bool .str)) .str)) l2]) 1) a0 := by
  kernel_rfl
theorem qpoly_Check.b0_eq (k : Nat) (L : Labels (Int)) (x0 : Int) (x1 : Int) (l2 : List ((Bool × ByteArray) × ByteArray)) : evLab ctx (qpoly_Check.orc k) L qpoly_Check.note Tryz.f106 1 qpoly_Check.κ 0 (mkE 33 0 [(0, .own 0), (9, .own 0), (10, .data (.int .i64) x0), (11, .data (.int .i64) x1)]) (ofList [.arr .ro (.agg (.pair (.agg (.pair .bool .str)) .str)) l2]) 1 = qpoly_Check.b0 k (fun x0 x1 l2 => L 0 (mkE 33 0 [(0, .own 0), (9, .own 0), (10, .data (.int .i64) x0), (11, .data (.int .i64) x1)]) (ofList [.arr .ro (.agg (.pair (.agg (.pair .bool .str)) .str)) l2]) 1) x0 x1 l2 := by
  kernel_rfl
theorem qpoly_Check.run (k : Nat) : ∀ n : Nat, (∀ (x0 : Int) (x1 : Int) (l2 : List ((Bool × ByteArray) × ByteArray)), evRun ctx (qpoly_Check.orc k) qpoly_Check.note Tryz.f106 1 qpoly_Check.κ n 0 (mkE 33 0 [(0, .own 0), (9, .own 0), (10, .data (.int .i64) x0), (11, .data (.int .i64) x1)]) (ofList [.arr .ro (.agg (.pair (.agg (.pair .bool .str)) .str)) l2]) 1 = qpoly_Check.l0 k n x0 x1 l2) := by
  intro n
  induction n with
  | zero => exact fun _ _ _ => rfl
  | succ n ih =>
    have h0 := ih
    refine ?_
    · intro x0 x1 l2; refine (qpoly_Check.b0_eq k (evRun ctx (qpoly_Check.orc k) qpoly_Check.note Tryz.f106 1 qpoly_Check.κ n) x0 x1 l2).trans ?_
      simp only [h0]
      rfl
theorem qpoly_Check.fn_eq (k : Nat) (a0 : List ((Bool × ByteArray) × ByteArray)) : evFunc ctx (qpoly_Check.orc k) k qpoly_Check.note Tryz.f106 [.data (.slice (.agg (.pair (.agg (.pair .bool .str)) .str))) a0] qpoly_Check.κ = qpoly_Check k a0 := by
  refine (qpoly_Check.top_eq k (evRun ctx (qpoly_Check.orc k) qpoly_Check.note Tryz.f106 1 qpoly_Check.κ k) a0).trans ?_
  have h0 := qpoly_Check.run k k
  simp only [h0]
  rfl
theorem qpoly_Check.sound {β : Type} (k : Nat) : FunOK Tryz.prog ctx 106 (qpoly_Check.C k : Fun β) := by
  intro xs κ r h
  rcases xs with _ | ⟨a0, _ | ⟨x', l'⟩⟩
  · exact no h
  · obtain ⟨x0, rfl, h1⟩ := A.un_some h
    obtain ⟨res, hr, hf⟩ := bnd h1
    refine ⟨[.data (.int .i64) res], fun_ok' ctx_ok mixed_ok (f := 106) (fn := Tryz.f106) (n := qpoly_Check.note) (by kernel_rfl) (by kernel_rfl) (orc_sound (orc_cons (rational_Check.sound k) (orc_cons (exact_IsZero.sound) (orc_nil)))) ((qpoly_Check.fn_eq k x0).trans hr) ?_, hf⟩
    intro rs' h
    rcases rs' with _ | ⟨r0, _ | ⟨x', l'⟩⟩
    · exact no h
    · obtain ⟨y0, rfl, h0⟩ := R.un_some h
      obtain rfl := inj h0
      rfl
    · exact no h
  · exact no h
theorem ival_Zero.eq0 (k : Nat) (L : Labels ((((Bool × ByteArray) × ByteArray) × (Bool × ByteArray) × ByteArray)))  : evTop ctx (ival_Zero.orc k) L ival_Zero.note Tryz.f165 [] ival_Zero.κ = ival_Zero k  := by
  kernel_rfl
theorem ival_Zero.fn_eq (k : Nat)  : evFunc ctx (ival_Zero.orc k) k ival_Zero.note Tryz.f165 [] ival_Zero.κ = ival_Zero k  :=
  ival_Zero.eq0 k _ 
theorem ival_Zero.sound {β : Type} (k : Nat) : FunOK Tryz.prog ctx 165 (ival_Zero.C k : Fun β) := by
  intro xs κ r h
  rcases xs with _ | ⟨x', l'⟩
  · 
    obtain ⟨res, hr, hf⟩ := bnd h
    refine ⟨[.data (.agg (.pair (.agg (.pair (.agg (.pair .bool .str)) .str)) (.agg (.pair (.agg (.pair .bool .str)) .str)))) res], fun_ok' ctx_ok mixed_ok (f := 165) (fn := Tryz.f165) (n := ival_Zero.note) (by kernel_rfl) (by kernel_rfl) (orc_sound (orc_cons (exact_Int.sound k) (orc_cons (ival_Point.sound) (orc_nil)))) ((ival_Zero.fn_eq k ).trans hr) ?_, hf⟩
    intro rs' h
    rcases rs' with _ | ⟨r0, _ | ⟨x', l'⟩⟩
    · exact no h
    · obtain ⟨y0, rfl, h0⟩ := R.un_some h
      obtain rfl := inj h0
      rfl
    · exact no h
  · exact no h
theorem exact_IntAdd.eq0 (k : Nat) (L : Labels ((Bool × ByteArray))) (a0 : Bool × ByteArray) (a1 : Bool × ByteArray) : evTop ctx (exact_IntAdd.orc k) L exact_IntAdd.note Tryz.f213 [.data (.agg (.pair .bool .str)) a0, .data (.agg (.pair .bool .str)) a1] exact_IntAdd.κ = exact_IntAdd k a0 a1 := by
  kernel_rfl
theorem exact_IntAdd.fn_eq (k : Nat) (a0 : Bool × ByteArray) (a1 : Bool × ByteArray) : evFunc ctx (exact_IntAdd.orc k) k exact_IntAdd.note Tryz.f213 [.data (.agg (.pair .bool .str)) a0, .data (.agg (.pair .bool .str)) a1] exact_IntAdd.κ = exact_IntAdd k a0 a1 :=
  exact_IntAdd.eq0 k _ a0 a1
theorem exact_IntAdd.sound {β : Type} (k : Nat) : FunOK Tryz.prog ctx 213 (exact_IntAdd.C k : Fun β) := by
  intro xs κ r h
  rcases xs with _ | ⟨a0, _ | ⟨a1, _ | ⟨x', l'⟩⟩⟩
  · exact no h
  · exact no h
  · obtain ⟨x0, rfl, h1⟩ := A.un_some h
    obtain ⟨x1, rfl, h2⟩ := A.un_some h1
    obtain ⟨res, hr, hf⟩ := bnd h2
    refine ⟨[.data (.agg (.pair .bool .str)) res], fun_ok' ctx_ok mixed_ok (f := 213) (fn := Tryz.f213) (n := exact_IntAdd.note) (by kernel_rfl) (by kernel_rfl) (orc_sound (orc_cons (exact_NatAdd.sound k) (orc_cons (exact_IntMake.sound) (orc_cons (exact_NatCmp.sound k) (orc_cons (exact_NatSub.sound k) (orc_nil)))))) ((exact_IntAdd.fn_eq k x0 x1).trans hr) ?_, hf⟩
    intro rs' h
    rcases rs' with _ | ⟨r0, _ | ⟨x', l'⟩⟩
    · exact no h
    · obtain ⟨y0, rfl, h0⟩ := R.un_some h
      obtain rfl := inj h0
      rfl
    · exact no h
  · exact no h
theorem exact_Add.eq0 (k : Nat) (L : Labels (((Bool × ByteArray) × ByteArray))) (a0 : (Bool × ByteArray) × ByteArray) (a1 : (Bool × ByteArray) × ByteArray) : evTop ctx (exact_Add.orc k) L exact_Add.note Tryz.f174 [.data (.agg (.pair (.agg (.pair .bool .str)) .str)) a0, .data (.agg (.pair (.agg (.pair .bool .str)) .str)) a1] exact_Add.κ = exact_Add k a0 a1 := by
  kernel_rfl
theorem exact_Add.fn_eq (k : Nat) (a0 : (Bool × ByteArray) × ByteArray) (a1 : (Bool × ByteArray) × ByteArray) : evFunc ctx (exact_Add.orc k) k exact_Add.note Tryz.f174 [.data (.agg (.pair (.agg (.pair .bool .str)) .str)) a0, .data (.agg (.pair (.agg (.pair .bool .str)) .str)) a1] exact_Add.κ = exact_Add k a0 a1 :=
  exact_Add.eq0 k _ a0 a1
theorem exact_Add.sound {β : Type} (k : Nat) : FunOK Tryz.prog ctx 174 (exact_Add.C k : Fun β) := by
  intro xs κ r h
  rcases xs with _ | ⟨a0, _ | ⟨a1, _ | ⟨x', l'⟩⟩⟩
  · exact no h
  · exact no h
  · obtain ⟨x0, rfl, h1⟩ := A.un_some h
    obtain ⟨x1, rfl, h2⟩ := A.un_some h1
    obtain ⟨res, hr, hf⟩ := bnd h2
    refine ⟨[.data (.agg (.pair (.agg (.pair .bool .str)) .str)) res], fun_ok' ctx_ok mixed_ok (f := 174) (fn := Tryz.f174) (n := exact_Add.note) (by kernel_rfl) (by kernel_rfl) (orc_sound (orc_cons (exact_IntAdd.sound k) (orc_cons (exact_Whole.sound) (orc_cons (exact_Make.sound k) (orc_cons (exact_NatMul.sound k) (orc_cons (exact_IntMake.sound) (orc_nil))))))) ((exact_Add.fn_eq k x0 x1).trans hr) ?_, hf⟩
    intro rs' h
    rcases rs' with _ | ⟨r0, _ | ⟨x', l'⟩⟩
    · exact no h
    · obtain ⟨y0, rfl, h0⟩ := R.un_some h
      obtain rfl := inj h0
      rfl
    · exact no h
  · exact no h
theorem ival_Add.eq0 (k : Nat) (L : Labels ((((Bool × ByteArray) × ByteArray) × (Bool × ByteArray) × ByteArray))) (a0 : ((Bool × ByteArray) × ByteArray) × (Bool × ByteArray) × ByteArray) (a1 : ((Bool × ByteArray) × ByteArray) × (Bool × ByteArray) × ByteArray) : evTop ctx (ival_Add.orc k) L ival_Add.note Tryz.f121 [.data (.agg (.pair (.agg (.pair (.agg (.pair .bool .str)) .str)) (.agg (.pair (.agg (.pair .bool .str)) .str)))) a0, .data (.agg (.pair (.agg (.pair (.agg (.pair .bool .str)) .str)) (.agg (.pair (.agg (.pair .bool .str)) .str)))) a1] ival_Add.κ = ival_Add k a0 a1 := by
  kernel_rfl
theorem ival_Add.fn_eq (k : Nat) (a0 : ((Bool × ByteArray) × ByteArray) × (Bool × ByteArray) × ByteArray) (a1 : ((Bool × ByteArray) × ByteArray) × (Bool × ByteArray) × ByteArray) : evFunc ctx (ival_Add.orc k) k ival_Add.note Tryz.f121 [.data (.agg (.pair (.agg (.pair (.agg (.pair .bool .str)) .str)) (.agg (.pair (.agg (.pair .bool .str)) .str)))) a0, .data (.agg (.pair (.agg (.pair (.agg (.pair .bool .str)) .str)) (.agg (.pair (.agg (.pair .bool .str)) .str)))) a1] ival_Add.κ = ival_Add k a0 a1 :=
  ival_Add.eq0 k _ a0 a1
theorem ival_Add.sound {β : Type} (k : Nat) : FunOK Tryz.prog ctx 121 (ival_Add.C k : Fun β) := by
  intro xs κ r h
  rcases xs with _ | ⟨a0, _ | ⟨a1, _ | ⟨x', l'⟩⟩⟩
  · exact no h
  · exact no h
  · obtain ⟨x0, rfl, h1⟩ := A.un_some h
    obtain ⟨x1, rfl, h2⟩ := A.un_some h1
    obtain ⟨res, hr, hf⟩ := bnd h2
    refine ⟨[.data (.agg (.pair (.agg (.pair (.agg (.pair .bool .str)) .str)) (.agg (.pair (.agg (.pair .bool .str)) .str)))) res], fun_ok' ctx_ok mixed_ok (f := 121) (fn := Tryz.f121) (n := ival_Add.note) (by kernel_rfl) (by kernel_rfl) (orc_sound (orc_cons (exact_Add.sound k) (orc_nil))) ((ival_Add.fn_eq k x0 x1).trans hr) ?_, hf⟩
    intro rs' h
    rcases rs' with _ | ⟨r0, _ | ⟨x', l'⟩⟩
    · exact no h
    · obtain ⟨y0, rfl, h0⟩ := R.un_some h
      obtain rfl := inj h0
      rfl
    · exact no h
  · exact no h
theorem ival_Round.eq0 (k : Nat) (L : Labels ((((Bool × ByteArray) × ByteArray) × (Bool × ByteArray) × ByteArray))) (a0 : ((Bool × ByteArray) × ByteArray) × (Bool × ByteArray) × ByteArray) (a1 : Int) : evTop ctx (ival_Round.orc k) L ival_Round.note Tryz.f113 [.data (.agg (.pair (.agg (.pair (.agg (.pair .bool .str)) .str)) (.agg (.pair (.agg (.pair .bool .str)) .str)))) a0, .data (.int .i64) a1] ival_Round.κ = ival_Round k a0 a1 := by
  kernel_rfl
theorem ival_Round.fn_eq (k : Nat) (a0 : ((Bool × ByteArray) × ByteArray) × (Bool × ByteArray) × ByteArray) (a1 : Int) : evFunc ctx (ival_Round.orc k) k ival_Round.note Tryz.f113 [.data (.agg (.pair (.agg (.pair (.agg (.pair .bool .str)) .str)) (.agg (.pair (.agg (.pair .bool .str)) .str)))) a0, .data (.int .i64) a1] ival_Round.κ = ival_Round k a0 a1 :=
  ival_Round.eq0 k _ a0 a1
theorem ival_Round.sound {β : Type} (k : Nat) : FunOK Tryz.prog ctx 113 (ival_Round.C k : Fun β) := by
  intro xs κ r h
  rcases xs with _ | ⟨a0, _ | ⟨a1, _ | ⟨x', l'⟩⟩⟩
  · exact no h
  · exact no h
  · obtain ⟨x0, rfl, h1⟩ := A.un_some h
    obtain ⟨x1, rfl, h2⟩ := A.un_some h1
    obtain ⟨res, hr, hf⟩ := bnd h2
    refine ⟨[.data (.agg (.pair (.agg (.pair (.agg (.pair .bool .str)) .str)) (.agg (.pair (.agg (.pair .bool .str)) .str)))) res], fun_ok' ctx_ok mixed_ok (f := 113) (fn := Tryz.f113) (n := ival_Round.note) (by kernel_rfl) (by kernel_rfl) (orc_sound (orc_cons (ival_down.sound k) (orc_cons (exact_Neg.sound) (orc_nil)))) ((ival_Round.fn_eq k x0 x1).trans hr) ?_, hf⟩
    intro rs' h
    rcases rs' with _ | ⟨r0, _ | ⟨x', l'⟩⟩
    · exact no h
    · obtain ⟨y0, rfl, h0⟩ := R.un_some h
      obtain rfl := inj h0
      rfl
    · exact no h
  · exact no h
theorem ival_EvalPoly.top_eq (k : Nat) (L : Labels ((((Bool × ByteArray) × ByteArray) × (Bool × ByteArray) × ByteArray))) (a0 : List ((Bool × ByteArray) × ByteArray)) (a1 : ((Bool × ByteArray) × ByteArray) × (Bool × ByteArray) × ByteArray) (a2 : Int) : evTop ctx (ival_EvalPoly.orc k) L ival_EvalPoly.note Tryz.f109 [.data (.slice (.agg (.pair (.agg (.pair .bool .str)) .str))) a0, .data (.agg (.pair (.agg (.pair (.agg (.pair .bool .str)) .str)) (.agg (.pair (.agg (.pair .bool .str)) .str)))) a1, .data (.int .i64) a2] ival_EvalPoly.κ = ival_EvalPoly.top k (fun x0 x1 l2 x3 x4 x5 => L 0 (mkE 30 0 [(0, .own 0), (2, .data (.int .i64) x0), (4, .ptr 3 (.agg (.pair (.agg (.pair (.agg (.pair .bool .str)) .str)) (.agg (.pair (.agg (.pair .bool .str)) .str)))) []), (6, .ptr 4 (.agg (.pair (.agg (.pair (.agg (.pair .bool .str)) .str)) (.agg (.pair (.agg (.pair .bool .str)) .str)))) []), (7, .ptr 5 (.agg (.pair (.agg (.pair (.agg (.pair .bool .str)) .str)) (.agg (.pair (.agg (.pair .bool .str)) .str)))) []), (8, .data (.int .i64) x1)]) (ofList [.arr .ro (.agg (.pair (.agg (.pair .bool .str)) .str)) l2, .dead, .dead, .var true (.agg (.pair (.agg (.pair (.agg (.pair .bool .str)) .str)) (.agg (.pair (.agg (.pair .bool .str)) .str)))) (.data (.agg (.pair (.agg (.pair (.agg (.pair .bool .str)) .str)) (.agg (.pair (.agg (.pair .bool .str)) .str)))) x3), .var true (.agg (.pair (.agg (.pair (.agg (.pair .bool .str)) .str)) (.agg (.pair (.agg (.pair .bool .str)) .str)))) (.data (.agg (.pair (.agg (.pair (.agg (.pair .bool .str)) .str)) (.agg (.pair (.agg (.pair .bool .str)) .str)))) x4), .var true (.agg (.pair (.agg (.pair (.agg (.pair .bool .str)) .str)) (.agg (.pair (.agg (.pair .bool .str)) .str)))) (.data (.agg (.pair (.agg (.pair (.agg (.pair .bool .str)) .str)) (.agg (.pair (.agg (.pair .bool .str)) .str)))) x5)]) 6) a0 a1 a2 := by
  kernel_rfl
theorem ival_EvalPoly.b0_eq (k : Nat) (L : Labels ((((Bool × ByteArray) × ByteArray) × (Bool × ByteArray) × ByteArray))) (x0 : Int) (x1 : Int) (l2 : List ((Bool × ByteArray) × ByteArray)) (x3 : ((Bool × ByteArray) × ByteArray) × (Bool × ByteArray) × ByteArray) (x4 : ((Bool × ByteArray) × ByteArray) × (Bool × ByteArray) × ByteArray) (x5 : ((Bool × ByteArray) × ByteArray) × (Bool × ByteArray) × ByteArray) : evLab ctx (ival_EvalPoly.orc k) L ival_EvalPoly.note Tryz.f109 3 ival_EvalPoly.κ 0 (mkE 30 0 [(0, .own 0), (2, .data (.int .i64) x0), (4, .ptr 3 (.agg (.pair (.agg (.pair (.agg (.pair .bool .str)) .str)) (.agg (.pair (.agg (.pair .bool .str)) .str)))) []), (6, .ptr 4 (.agg (.pair (.agg (.pair (.agg (.pair .bool .str)) .str)) (.agg (.pair (.agg (.pair .bool .str)) .str)))) []), (7, .ptr 5 (.agg (.pair (.agg (.pair (.agg (.pair .bool .str)) .str)) (.agg (.pair (.agg (.pair .bool .str)) .str)))) []), (8, .data (.int .i64) x1)]) (ofList [.arr .ro (.agg (.pair (.agg (.pair .bool .str)) .str)) l2, .dead, .dead, .var true (.agg (.pair (.agg (.pair (.agg (.pair .bool .str)) .str)) (.agg (.pair (.agg (.pair .bool .str)) .str)))) (.data (.agg (.pair (.agg (.pair (.agg (.pair .bool .str)) .str)) (.agg (.pair (.agg (.pair .bool .str)) .str)))) x3), .var true (.agg (.pair (.agg (.pair (.agg (.pair .bool .str)) .str)) (.agg (.pair (.agg (.pair .bool .str)) .str)))) (.data (.agg (.pair (.agg (.pair (.agg (.pair .bool .str)) .str)) (.agg (.pair (.agg (.pair .bool .str)) .str)))) x4), .var true (.agg (.pair (.agg (.pair (.agg (.pair .bool .str)) .str)) (.agg (.pair (.agg (.pair .bool .str)) .str)))) (.data (.agg (.pair (.agg (.pair (.agg (.pair .bool .str)) .str)) (.agg (.pair (.agg (.pair .bool .str)) .str)))) x5)]) 6 = ival_EvalPoly.b0 k (fun x0 x1 l2 x3 x4 x5 => L 0 (mkE 30 0 [(0, .own 0), (2, .data (.int .i64) x0), (4, .ptr 3 (.agg (.pair (.agg (.pair (.agg (.pair .bool .str)) .str)) (.agg (.pair (.agg (.pair .bool .str)) .str)))) []), (6, .ptr 4 (.agg (.pair (.agg (.pair (.agg (.pair .bool .str)) .str)) (.agg (.pair (.agg (.pair .bool .str)) .str)))) []), (7, .ptr 5 (.agg (.pair (.agg (.pair (.agg (.pair .bool .str)) .str)) (.agg (.pair (.agg (.pair .bool .str)) .str)))) []), (8, .data (.int .i64) x1)]) (ofList [.arr .ro (.agg (.pair (.agg (.pair .bool .str)) .str)) l2, .dead, .dead, .var true (.agg (.pair (.agg (.pair (.agg (.pair .bool .str)) .str)) (.agg (.pair (.agg (.pair .bool .str)) .str)))) (.data (.agg (.pair (.agg (.pair (.agg (.pair .bool .str)) .str)) (.agg (.pair (.agg (.pair .bool .str)) .str)))) x3), .var true (.agg (.pair (.agg (.pair (.agg (.pair .bool .str)) .str)) (.agg (.pair (.agg (.pair .bool .str)) .str)))) (.data (.agg (.pair (.agg (.pair (.agg (.pair .bool .str)) .str)) (.agg (.pair (.agg (.pair .bool .str)) .str)))) x4), .var true (.agg (.pair (.agg (.pair (.agg (.pair .bool .str)) .str)) (.agg (.pair (.agg (.pair .bool .str)) .str)))) (.data (.agg (.pair (.agg (.pair (.agg (.pair .bool .str)) .str)) (.agg (.pair (.agg (.pair .bool .str)) .str)))) x5)]) 6) x0 x1 l2 x3 x4 x5 := by
  kernel_rfl
theorem ival_EvalPoly.run (k : Nat) : ∀ n : Nat, (∀ (x0 : Int) (x1 : Int) (l2 : List ((Bool × ByteArray) × ByteArray)) (x3 : ((Bool × ByteArray) × ByteArray) × (Bool × ByteArray) × ByteArray) (x4 : ((Bool × ByteArray) × ByteArray) × (Bool × ByteArray) × ByteArray) (x5 : ((Bool × ByteArray) × ByteArray) × (Bool × ByteArray) × ByteArray), evRun ctx (ival_EvalPoly.orc k) ival_EvalPoly.note Tryz.f109 3 ival_EvalPoly.κ n 0 (mkE 30 0 [(0, .own 0), (2, .data (.int .i64) x0), (4, .ptr 3 (.agg (.pair (.agg (.pair (.agg (.pair .bool .str)) .str)) (.agg (.pair (.agg (.pair .bool .str)) .str)))) []), (6, .ptr 4 (.agg (.pair (.agg (.pair (.agg (.pair .bool .str)) .str)) (.agg (.pair (.agg (.pair .bool .str)) .str)))) []), (7, .ptr 5 (.agg (.pair (.agg (.pair (.agg (.pair .bool .str)) .str)) (.agg (.pair (.agg (.pair .bool .str)) .str)))) []), (8, .data (.int .i64) x1)]) (ofList [.arr .ro (.agg (.pair (.agg (.pair .bool .str)) .str)) l2, .dead, .dead, .var true (.agg (.pair (.agg (.pair (.agg (.pair .bool .str)) .str)) (.agg (.pair (.agg (.pair .bool .str)) .str)))) (.data (.agg (.pair (.agg (.pair (.agg (.pair .bool .str)) .str)) (.agg (.pair (.agg (.pair .bool .str)) .str)))) x3), .var true (.agg (.pair (.agg (.pair (.agg (.pair .bool .str)) .str)) (.agg (.pair (.agg (.pair .bool .str)) .str)))) (.data (.agg (.pair (.agg (.pair (.agg (.pair .bool .str)) .str)) (.agg (.pair (.agg (.pair .bool .str)) .str)))) x4), .var true (.agg (.pair (.agg (.pair (.agg (.pair .bool .str)) .str)) (.agg (.pair (.agg (.pair .bool .str)) .str)))) (.data (.agg (.pair (.agg (.pair (.agg (.pair .bool .str)) .str)) (.agg (.pair (.agg (.pair .bool .str)) .str)))) x5)]) 6 = ival_EvalPoly.l0 k n x0 x1 l2 x3 x4 x5) := by
  intro n
  induction n with
  | zero => exact fun _ _ _ _ _ _ => rfl
  | succ n ih =>
    have h0 := ih
    refine ?_
    · intro x0 x1 l2 x3 x4 x5; refine (ival_EvalPoly.b0_eq k (evRun ctx (ival_EvalPoly.orc k) ival_EvalPoly.note Tryz.f109 3 ival_EvalPoly.κ n) x0 x1 l2 x3 x4 x5).trans ?_
      simp only [h0]
      rfl
theorem ival_EvalPoly.fn_eq (k : Nat) (a0 : List ((Bool × ByteArray) × ByteArray)) (a1 : ((Bool × ByteArray) × ByteArray) × (Bool × ByteArray) × ByteArray) (a2 : Int) : evFunc ctx (ival_EvalPoly.orc k) k ival_EvalPoly.note Tryz.f109 [.data (.slice (.agg (.pair (.agg (.pair .bool .str)) .str))) a0, .data (.agg (.pair (.agg (.pair (.agg (.pair .bool .str)) .str)) (.agg (.pair (.agg (.pair .bool .str)) .str)))) a1, .data (.int .i64) a2] ival_EvalPoly.κ = ival_EvalPoly k a0 a1 a2 := by
  refine (ival_EvalPoly.top_eq k (evRun ctx (ival_EvalPoly.orc k) ival_EvalPoly.note Tryz.f109 3 ival_EvalPoly.κ k) a0 a1 a2).trans ?_
  have h0 := ival_EvalPoly.run k k
  simp only [h0]
  rfl
theorem ival_EvalPoly.sound {β : Type} (k : Nat) : FunOK Tryz.prog ctx 109 (ival_EvalPoly.C k : Fun β) := by
  intro xs κ r h
  rcases xs with _ | ⟨a0, _ | ⟨a1, _ | ⟨a2, _ | ⟨x', l'⟩⟩⟩⟩
  · exact no h
  · exact no h
  · exact no h
  · obtain ⟨x0, rfl, h1⟩ := A.un_some h
    obtain ⟨x1, rfl, h2⟩ := A.un_some h1
    obtain ⟨x2, rfl, h3⟩ := A.un_some h2
    obtain ⟨res, hr, hf⟩ := bnd h3
    refine ⟨[.data (.agg (.pair (.agg (.pair (.agg (.pair .bool .str)) .str)) (.agg (.pair (.agg (.pair .bool .str)) .str)))) res], fun_ok' ctx_ok mixed_ok (f := 109) (fn := Tryz.f109) (n := ival_EvalPoly.note) (by kernel_rfl) (by kernel_rfl) (orc_sound (orc_cons (ival_Zero.sound k) (orc_cons (ival_Mul.sound k) (orc_cons (ival_Around.sound k) (orc_cons (ival_Add.sound k) (orc_cons (ival_Round.sound k) (orc_nil))))))) ((ival_EvalPoly.fn_eq k x0 x1 x2).trans hr) ?_, hf⟩
    intro rs' h
    rcases rs' with _ | ⟨r0, _ | ⟨x', l'⟩⟩
    · exact no h
    · obtain ⟨y0, rfl, h0⟩ := R.un_some h
      obtain rfl := inj h0
      rfl
    · exact no h
  · exact no h
theorem enclosure_EvalPoly.eq0 (k : Nat) (L : Labels ((((Bool × ByteArray) × ByteArray) × (Bool × ByteArray) × ByteArray) × Int)) (a0 : List ((Bool × ByteArray) × ByteArray)) (a1 : ((Bool × ByteArray) × ByteArray) × (Bool × ByteArray) × ByteArray) (a2 : Int) : evTop ctx (enclosure_EvalPoly.orc k) L enclosure_EvalPoly.note Tryz.f20 [.data (.slice (.agg (.pair (.agg (.pair .bool .str)) .str))) a0, .data (.agg (.pair (.agg (.pair (.agg (.pair .bool .str)) .str)) (.agg (.pair (.agg (.pair .bool .str)) .str)))) a1, .data (.int .i64) a2] enclosure_EvalPoly.κ = enclosure_EvalPoly k a0 a1 a2 := by
  kernel_rfl
theorem enclosure_EvalPoly.fn_eq (k : Nat) (a0 : List ((Bool × ByteArray) × ByteArray)) (a1 : ((Bool × ByteArray) × ByteArray) × (Bool × ByteArray) × ByteArray) (a2 : Int) : evFunc ctx (enclosure_EvalPoly.orc k) k enclosure_EvalPoly.note Tryz.f20 [.data (.slice (.agg (.pair (.agg (.pair .bool .str)) .str))) a0, .data (.agg (.pair (.agg (.pair (.agg (.pair .bool .str)) .str)) (.agg (.pair (.agg (.pair .bool .str)) .str)))) a1, .data (.int .i64) a2] enclosure_EvalPoly.κ = enclosure_EvalPoly k a0 a1 a2 :=
  enclosure_EvalPoly.eq0 k _ a0 a1 a2
theorem enclosure_EvalPoly.sound {β : Type} (k : Nat) : FunOK Tryz.prog ctx 20 (enclosure_EvalPoly.C k : Fun β) := by
  intro xs κ r h
  rcases xs with _ | ⟨a0, _ | ⟨a1, _ | ⟨a2, _ | ⟨x', l'⟩⟩⟩⟩
  · exact no h
  · exact no h
  · exact no h
  · obtain ⟨x0, rfl, h1⟩ := A.un_some h
    obtain ⟨x1, rfl, h2⟩ := A.un_some h1
    obtain ⟨x2, rfl, h3⟩ := A.un_some h2
    obtain ⟨res, hr, hf⟩ := bnd h3
    refine ⟨[.data (.agg (.pair (.agg (.pair (.agg (.pair .bool .str)) .str)) (.agg (.pair (.agg (.pair .bool .str)) .str)))) res.1, .data (.int .i64) res.2], fun_ok' ctx_ok mixed_ok (f := 20) (fn := Tryz.f20) (n := enclosure_EvalPoly.note) (by kernel_rfl) (by kernel_rfl) (orc_sound (orc_cons (qpoly_Check.sound k) (orc_cons (enclosure_Check.sound k) (orc_cons (enclosure_grid.sound) (orc_cons (enclosure_first.sound k) (orc_cons (ival_EvalPoly.sound k) (orc_cons (enclosure_interval.sound) (orc_nil)))))))) ((enclosure_EvalPoly.fn_eq k x0 x1 x2).trans hr) ?_, hf⟩
    intro rs' h
    rcases rs' with _ | ⟨r0, _ | ⟨r1, _ | ⟨x', l'⟩⟩⟩
    · exact no h
    · exact no h
    · obtain ⟨y0, rfl, h0⟩ := R.un_some h
      obtain ⟨y1, rfl, h1⟩ := R.un_some h0
      obtain rfl := inj h1
      rfl
    · exact no h
  · exact no h
theorem galoisref19_Zero.eq0 (k : Nat) (L : Labels ((((Bool × ByteArray) × ByteArray) × (Bool × ByteArray) × ByteArray)))  : evTop ctx (galoisref19_Zero.orc k) L galoisref19_Zero.note Tryz.f104 [] galoisref19_Zero.κ = galoisref19_Zero k  := by
  kernel_rfl
theorem galoisref19_Zero.fn_eq (k : Nat)  : evFunc ctx (galoisref19_Zero.orc k) k galoisref19_Zero.note Tryz.f104 [] galoisref19_Zero.κ = galoisref19_Zero k  :=
  galoisref19_Zero.eq0 k _ 
theorem galoisref19_Zero.sound {β : Type} (k : Nat) : FunOK Tryz.prog ctx 104 (galoisref19_Zero.C k : Fun β) := by
  intro xs κ r h
  rcases xs with _ | ⟨x', l'⟩
  · 
    obtain ⟨res, hr, hf⟩ := bnd h
    refine ⟨[.data (.agg (.pair (.agg (.pair (.agg (.pair .bool .str)) .str)) (.agg (.pair (.agg (.pair .bool .str)) .str)))) res], fun_ok' ctx_ok mixed_ok (f := 104) (fn := Tryz.f104) (n := galoisref19_Zero.note) (by kernel_rfl) (by kernel_rfl) (orc_sound (orc_cons (galoisref03_Of.sound k) (orc_cons (galoisref19_Make.sound) (orc_nil)))) ((galoisref19_Zero.fn_eq k ).trans hr) ?_, hf⟩
    intro rs' h
    rcases rs' with _ | ⟨r0, _ | ⟨x', l'⟩⟩
    · exact no h
    · obtain ⟨y0, rfl, h0⟩ := R.un_some h
      obtain rfl := inj h0
      rfl
    · exact no h
  · exact no h
theorem enclosure_CheckBox.eq0 (k : Nat) (L : Labels (Int)) (a0 : (((Bool × ByteArray) × ByteArray) × (Bool × ByteArray) × ByteArray) × ((Bool × ByteArray) × ByteArray) × (Bool × ByteArray) × ByteArray) : evTop ctx (enclosure_CheckBox.orc k) L enclosure_CheckBox.note Tryz.f15 [.data (.agg (.pair (.agg (.pair (.agg (.pair (.agg (.pair .bool .str)) .str)) (.agg (.pair (.agg (.pair .bool .str)) .str)))) (.agg (.pair (.agg (.pair (.agg (.pair .bool .str)) .str)) (.agg (.pair (.agg (.pair .bool .str)) .str)))))) a0] enclosure_CheckBox.κ = enclosure_CheckBox k a0 := by
  kernel_rfl
theorem enclosure_CheckBox.fn_eq (k : Nat) (a0 : (((Bool × ByteArray) × ByteArray) × (Bool × ByteArray) × ByteArray) × ((Bool × ByteArray) × ByteArray) × (Bool × ByteArray) × ByteArray) : evFunc ctx (enclosure_CheckBox.orc k) k enclosure_CheckBox.note Tryz.f15 [.data (.agg (.pair (.agg (.pair (.agg (.pair (.agg (.pair .bool .str)) .str)) (.agg (.pair (.agg (.pair .bool .str)) .str)))) (.agg (.pair (.agg (.pair (.agg (.pair .bool .str)) .str)) (.agg (.pair (.agg (.pair .bool .str)) .str)))))) a0] enclosure_CheckBox.κ = enclosure_CheckBox k a0 :=
  enclosure_CheckBox.eq0 k _ a0
theorem enclosure_CheckBox.sound {β : Type} (k : Nat) : FunOK Tryz.prog ctx 15 (enclosure_CheckBox.C k : Fun β) := by
  intro xs κ r h
  rcases xs with _ | ⟨a0, _ | ⟨x', l'⟩⟩
  · exact no h
  · obtain ⟨x0, rfl, h1⟩ := A.un_some h
    obtain ⟨res, hr, hf⟩ := bnd h1
    refine ⟨[.data (.int .i64) res], fun_ok' ctx_ok mixed_ok (f := 15) (fn := Tryz.f15) (n := enclosure_CheckBox.note) (by kernel_rfl) (by kernel_rfl) (orc_sound (orc_cons (enclosure_Check.sound k) (orc_cons (enclosure_first.sound k) (orc_nil)))) ((enclosure_CheckBox.fn_eq k x0).trans hr) ?_, hf⟩
    intro rs' h
    rcases rs' with _ | ⟨r0, _ | ⟨x', l'⟩⟩
    · exact no h
    · obtain ⟨y0, rfl, h0⟩ := R.un_some h
      obtain rfl := inj h0
      rfl
    · exact no h
  · exact no h
theorem ival_Neg.eq0 (L : Labels ((((Bool × ByteArray) × ByteArray) × (Bool × ByteArray) × ByteArray))) (a0 : ((Bool × ByteArray) × ByteArray) × (Bool × ByteArray) × ByteArray) : evTop ctx (ival_Neg.orc ) L ival_Neg.note Tryz.f175 [.data (.agg (.pair (.agg (.pair (.agg (.pair .bool .str)) .str)) (.agg (.pair (.agg (.pair .bool .str)) .str)))) a0] ival_Neg.κ = ival_Neg a0 := by
  kernel_rfl
theorem ival_Neg.fn_eq (a0 : ((Bool × ByteArray) × ByteArray) × (Bool × ByteArray) × ByteArray) : evFunc ctx (ival_Neg.orc ) 0 ival_Neg.note Tryz.f175 [.data (.agg (.pair (.agg (.pair (.agg (.pair .bool .str)) .str)) (.agg (.pair (.agg (.pair .bool .str)) .str)))) a0] ival_Neg.κ = ival_Neg a0 :=
  ival_Neg.eq0 _ a0
theorem ival_Neg.sound {β : Type} : FunOK Tryz.prog ctx 175 (ival_Neg.C : Fun β) := by
  intro xs κ r h
  rcases xs with _ | ⟨a0, _ | ⟨x', l'⟩⟩
  · exact no h
  · unfold ival_Neg.C at h
    dsimp only at h
    obtain ⟨x0, rfl, h1⟩ := A.un_some h
    obtain ⟨res, hr, hf⟩ := bnd h1
    refine ⟨[.data (.agg (.pair (.agg (.pair (.agg (.pair .bool .str)) .str)) (.agg (.pair (.agg (.pair .bool .str)) .str)))) res], fun_ok' ctx_ok mixed_ok (f := 175) (fn := Tryz.f175) (n := ival_Neg.note) (by kernel_rfl) (by kernel_rfl) (orc_sound (orc_cons (exact_Neg.sound) (orc_nil))) ((ival_Neg.fn_eq x0).trans hr) ?_, hf⟩
    intro rs' h
    rcases rs' with _ | ⟨r0, _ | ⟨x', l'⟩⟩
    · exact no h
    · obtain ⟨y0, rfl, h0⟩ := R.un_some h
      obtain rfl := inj h0
      rfl
    · exact no h
  · exact no h
theorem ival_Sub.eq0 (k : Nat) (L : Labels ((((Bool × ByteArray) × ByteArray) × (Bool × ByteArray) × ByteArray))) (a0 : ((Bool × ByteArray) × ByteArray) × (Bool × ByteArray) × ByteArray) (a1 : ((Bool × ByteArray) × ByteArray) × (Bool × ByteArray) × ByteArray) : evTop ctx (ival_Sub.orc k) L ival_Sub.note Tryz.f122 [.data (.agg (.pair (.agg (.pair (.agg (.pair .bool .str)) .str)) (.agg (.pair (.agg (.pair .bool .str)) .str)))) a0, .data (.agg (.pair (.agg (.pair (.agg (.pair .bool .str)) .str)) (.agg (.pair (.agg (.pair .bool .str)) .str)))) a1] ival_Sub.κ = ival_Sub k a0 a1 := by
  kernel_rfl
theorem ival_Sub.fn_eq (k : Nat) (a0 : ((Bool × ByteArray) × ByteArray) × (Bool × ByteArray) × ByteArray) (a1 : ((Bool × ByteArray) × ByteArray) × (Bool × ByteArray) × ByteArray) : evFunc ctx (ival_Sub.orc k) k ival_Sub.note Tryz.f122 [.data (.agg (.pair (.agg (.pair (.agg (.pair .bool .str)) .str)) (.agg (.pair (.agg (.pair .bool .str)) .str)))) a0, .data (.agg (.pair (.agg (.pair (.agg (.pair .bool .str)) .str)) (.agg (.pair (.agg (.pair .bool .str)) .str)))) a1] ival_Sub.κ = ival_Sub k a0 a1 :=
  ival_Sub.eq0 k _ a0 a1
theorem ival_Sub.sound {β : Type} (k : Nat) : FunOK Tryz.prog ctx 122 (ival_Sub.C k : Fun β) := by
  intro xs κ r h
  rcases xs with _ | ⟨a0, _ | ⟨a1, _ | ⟨x', l'⟩⟩⟩
  · exact no h
  · exact no h
  · obtain ⟨x0, rfl, h1⟩ := A.un_some h
    obtain ⟨x1, rfl, h2⟩ := A.un_some h1
    obtain ⟨res, hr, hf⟩ := bnd h2
    refine ⟨[.data (.agg (.pair (.agg (.pair (.agg (.pair .bool .str)) .str)) (.agg (.pair (.agg (.pair .bool .str)) .str)))) res], fun_ok' ctx_ok mixed_ok (f := 122) (fn := Tryz.f122) (n := ival_Sub.note) (by kernel_rfl) (by kernel_rfl) (orc_sound (orc_cons (ival_Neg.sound) (orc_cons (ival_Add.sound k) (orc_nil)))) ((ival_Sub.fn_eq k x0 x1).trans hr) ?_, hf⟩
    intro rs' h
    rcases rs' with _ | ⟨r0, _ | ⟨x', l'⟩⟩
    · exact no h
    · obtain ⟨y0, rfl, h0⟩ := R.un_some h
      obtain rfl := inj h0
      rfl
    · exact no h
  · exact no h
theorem ival_MulBox.eq0 (k : Nat) (L : Labels (((((Bool × ByteArray) × ByteArray) × (Bool × ByteArray) × ByteArray) × ((Bool × ByteArray) × ByteArray) × (Bool × ByteArray) × ByteArray))) (a0 : (((Bool × ByteArray) × ByteArray) × (Bool × ByteArray) × ByteArray) × ((Bool × ByteArray) × ByteArray) × (Bool × ByteArray) × ByteArray) (a1 : (((Bool × ByteArray) × ByteArray) × (Bool × ByteArray) × ByteArray) × ((Bool × ByteArray) × ByteArray) × (Bool × ByteArray) × ByteArray) : evTop ctx (ival_MulBox.orc k) L ival_MulBox.note Tryz.f139 [.data (.agg (.pair (.agg (.pair (.agg (.pair (.agg (.pair .bool .str)) .str)) (.agg (.pair (.agg (.pair .bool .str)) .str)))) (.agg (.pair (.agg (.pair (.agg (.pair .bool .str)) .str)) (.agg (.pair (.agg (.pair .bool .str)) .str)))))) a0, .data (.agg (.pair (.agg (.pair (.agg (.pair (.agg (.pair .bool .str)) .str)) (.agg (.pair (.agg (.pair .bool .str)) .str)))) (.agg (.pair (.agg (.pair (.agg (.pair .bool .str)) .str)) (.agg (.pair (.agg (.pair .bool .str)) .str)))))) a1] ival_MulBox.κ = ival_MulBox k a0 a1 := by
  kernel_rfl
theorem ival_MulBox.fn_eq (k : Nat) (a0 : (((Bool × ByteArray) × ByteArray) × (Bool × ByteArray) × ByteArray) × ((Bool × ByteArray) × ByteArray) × (Bool × ByteArray) × ByteArray) (a1 : (((Bool × ByteArray) × ByteArray) × (Bool × ByteArray) × ByteArray) × ((Bool × ByteArray) × ByteArray) × (Bool × ByteArray) × ByteArray) : evFunc ctx (ival_MulBox.orc k) k ival_MulBox.note Tryz.f139 [.data (.agg (.pair (.agg (.pair (.agg (.pair (.agg (.pair .bool .str)) .str)) (.agg (.pair (.agg (.pair .bool .str)) .str)))) (.agg (.pair (.agg (.pair (.agg (.pair .bool .str)) .str)) (.agg (.pair (.agg (.pair .bool .str)) .str)))))) a0, .data (.agg (.pair (.agg (.pair (.agg (.pair (.agg (.pair .bool .str)) .str)) (.agg (.pair (.agg (.pair .bool .str)) .str)))) (.agg (.pair (.agg (.pair (.agg (.pair .bool .str)) .str)) (.agg (.pair (.agg (.pair .bool .str)) .str)))))) a1] ival_MulBox.κ = ival_MulBox k a0 a1 :=
  ival_MulBox.eq0 k _ a0 a1
theorem ival_MulBox.sound {β : Type} (k : Nat) : FunOK Tryz.prog ctx 139 (ival_MulBox.C k : Fun β) := by
  intro xs κ r h
  rcases xs with _ | ⟨a0, _ | ⟨a1, _ | ⟨x', l'⟩⟩⟩
  · exact no h
  · exact no h
  · obtain ⟨x0, rfl, h1⟩ := A.un_some h
    obtain ⟨x1, rfl, h2⟩ := A.un_some h1
    obtain ⟨res, hr, hf⟩ := bnd h2
    refine ⟨[.data (.agg (.pair (.agg (.pair (.agg (.pair (.agg (.pair .bool .str)) .str)) (.agg (.pair (.agg (.pair .bool .str)) .str)))) (.agg (.pair (.agg (.pair (.agg (.pair .bool .str)) .str)) (.agg (.pair (.agg (.pair .bool .str)) .str)))))) res], fun_ok' ctx_ok mixed_ok (f := 139) (fn := Tryz.f139) (n := ival_MulBox.note) (by kernel_rfl) (by kernel_rfl) (orc_sound (orc_cons (ival_Mul.sound k) (orc_cons (ival_Sub.sound k) (orc_cons (ival_Add.sound k) (orc_nil))))) ((ival_MulBox.fn_eq k x0 x1).trans hr) ?_, hf⟩
    intro rs' h
    rcases rs' with _ | ⟨r0, _ | ⟨x', l'⟩⟩
    · exact no h
    · obtain ⟨y0, rfl, h0⟩ := R.un_some h
      obtain rfl := inj h0
      rfl
    · exact no h
  · exact no h
theorem ival_LargeBox.eq0 (L : Labels (Bool)) (a0 : (((Bool × ByteArray) × ByteArray) × (Bool × ByteArray) × ByteArray) × ((Bool × ByteArray) × ByteArray) × (Bool × ByteArray) × ByteArray) : evTop ctx (ival_LargeBox.orc ) L ival_LargeBox.note Tryz.f186 [.data (.agg (.pair (.agg (.pair (.agg (.pair (.agg (.pair .bool .str)) .str)) (.agg (.pair (.agg (.pair .bool .str)) .str)))) (.agg (.pair (.agg (.pair (.agg (.pair .bool .str)) .str)) (.agg (.pair (.agg (.pair .bool .str)) .str)))))) a0] ival_LargeBox.κ = ival_LargeBox a0 := by
  kernel_rfl
theorem ival_LargeBox.fn_eq (a0 : (((Bool × ByteArray) × ByteArray) × (Bool × ByteArray) × ByteArray) × ((Bool × ByteArray) × ByteArray) × (Bool × ByteArray) × ByteArray) : evFunc ctx (ival_LargeBox.orc ) 0 ival_LargeBox.note Tryz.f186 [.data (.agg (.pair (.agg (.pair (.agg (.pair (.agg (.pair .bool .str)) .str)) (.agg (.pair (.agg (.pair .bool .str)) .str)))) (.agg (.pair (.agg (.pair (.agg (.pair .bool .str)) .str)) (.agg (.pair (.agg (.pair .bool .str)) .str)))))) a0] ival_LargeBox.κ = ival_LargeBox a0 :=
  ival_LargeBox.eq0 _ a0
theorem ival_LargeBox.sound {β : Type} : FunOK Tryz.prog ctx 186 (ival_LargeBox.C : Fun β) := by
  intro xs κ r h
  rcases xs with _ | ⟨a0, _ | ⟨x', l'⟩⟩
  · exact no h
  · unfold ival_LargeBox.C at h
    dsimp only at h
    obtain ⟨x0, rfl, h1⟩ := A.un_some h
    obtain ⟨res, hr, hf⟩ := bnd h1
    refine ⟨[.data .bool res], fun_ok' ctx_ok mixed_ok (f := 186) (fn := Tryz.f186) (n := ival_LargeBox.note) (by kernel_rfl) (by kernel_rfl) (orc_sound (orc_cons (ival_Large.sound) (orc_nil))) ((ival_LargeBox.fn_eq x0).trans hr) ?_, hf⟩
    intro rs' h
    rcases rs' with _ | ⟨r0, _ | ⟨x', l'⟩⟩
    · exact no h
    · obtain ⟨y0, rfl, h0⟩ := R.un_some h
      obtain rfl := inj h0
      rfl
    · exact no h
  · exact no h
theorem enclosure_box.eq0 (L : Labels (((((Bool × ByteArray) × ByteArray) × (Bool × ByteArray) × ByteArray) × ((Bool × ByteArray) × ByteArray) × (Bool × ByteArray) × ByteArray) × Int)) (a0 : (((Bool × ByteArray) × ByteArray) × (Bool × ByteArray) × ByteArray) × ((Bool × ByteArray) × ByteArray) × (Bool × ByteArray) × ByteArray) : evTop ctx (enclosure_box.orc ) L enclosure_box.note Tryz.f133 [.data (.agg (.pair (.agg (.pair (.agg (.pair (.agg (.pair .bool .str)) .str)) (.agg (.pair (.agg (.pair .bool .str)) .str)))) (.agg (.pair (.agg (.pair (.agg (.pair .bool .str)) .str)) (.agg (.pair (.agg (.pair .bool .str)) .str)))))) a0] enclosure_box.κ = enclosure_box a0 := by
  kernel_rfl
theorem enclosure_box.fn_eq (a0 : (((Bool × ByteArray) × ByteArray) × (Bool × ByteArray) × ByteArray) × ((Bool × ByteArray) × ByteArray) × (Bool × ByteArray) × ByteArray) : evFunc ctx (enclosure_box.orc ) 0 enclosure_box.note Tryz.f133 [.data (.agg (.pair (.agg (.pair (.agg (.pair (.agg (.pair .bool .str)) .str)) (.agg (.pair (.agg (.pair .bool .str)) .str)))) (.agg (.pair (.agg (.pair (.agg (.pair .bool .str)) .str)) (.agg (.pair (.agg (.pair .bool .str)) .str)))))) a0] enclosure_box.κ = enclosure_box a0 :=
  enclosure_box.eq0 _ a0
theorem enclosure_box.sound {β : Type} : FunOK Tryz.prog ctx 133 (enclosure_box.C : Fun β) := by
  intro xs κ r h
  rcases xs with _ | ⟨a0, _ | ⟨x', l'⟩⟩
  · exact no h
  · unfold enclosure_box.C at h
    dsimp only at h
    obtain ⟨x0, rfl, h1⟩ := A.un_some h
    obtain ⟨res, hr, hf⟩ := bnd h1
    refine ⟨[.data (.agg (.pair (.agg (.pair (.agg (.pair (.agg (.pair .bool .str)) .str)) (.agg (.pair (.agg (.pair .bool .str)) .str)))) (.agg (.pair (.agg (.pair (.agg (.pair .bool .str)) .str)) (.agg (.pair (.agg (.pair .bool .str)) .str)))))) res.1, .data (.int .i64) res.2], fun_ok' ctx_ok mixed_ok (f := 133) (fn := Tryz.f133) (n := enclosure_box.note) (by kernel_rfl) (by kernel_rfl) (orc_sound (orc_cons (ival_LargeBox.sound) (orc_nil))) ((enclosure_box.fn_eq x0).trans hr) ?_, hf⟩
    intro rs' h
    rcases rs' with _ | ⟨r0, _ | ⟨r1, _ | ⟨x', l'⟩⟩⟩
    · exact no h
    · exact no h
    · obtain ⟨y0, rfl, h0⟩ := R.un_some h
      obtain ⟨y1, rfl, h1⟩ := R.un_some h0
      obtain rfl := inj h1
      rfl
    · exact no h
  · exact no h
theorem enclosure_MulBox.eq0 (k : Nat) (L : Labels (((((Bool × ByteArray) × ByteArray) × (Bool × ByteArray) × ByteArray) × ((Bool × ByteArray) × ByteArray) × (Bool × ByteArray) × ByteArray) × Int)) (a0 : (((Bool × ByteArray) × ByteArray) × (Bool × ByteArray) × ByteArray) × ((Bool × ByteArray) × ByteArray) × (Bool × ByteArray) × ByteArray) (a1 : (((Bool × ByteArray) × ByteArray) × (Bool × ByteArray) × ByteArray) × ((Bool × ByteArray) × ByteArray) × (Bool × ByteArray) × ByteArray) : evTop ctx (enclosure_MulBox.orc k) L enclosure_MulBox.note Tryz.f59 [.data (.agg (.pair (.agg (.pair (.agg (.pair (.agg (.pair .bool .str)) .str)) (.agg (.pair (.agg (.pair .bool .str)) .str)))) (.agg (.pair (.agg (.pair (.agg (.pair .bool .str)) .str)) (.agg (.pair (.agg (.pair .bool .str)) .str)))))) a0, .data (.agg (.pair (.agg (.pair (.agg (.pair (.agg (.pair .bool .str)) .str)) (.agg (.pair (.agg (.pair .bool .str)) .str)))) (.agg (.pair (.agg (.pair (.agg (.pair .bool .str)) .str)) (.agg (.pair (.agg (.pair .bool .str)) .str)))))) a1] enclosure_MulBox.κ = enclosure_MulBox k a0 a1 := by
  kernel_rfl
theorem enclosure_MulBox.fn_eq (k : Nat) (a0 : (((Bool × ByteArray) × ByteArray) × (Bool × ByteArray) × ByteArray) × ((Bool × ByteArray) × ByteArray) × (Bool × ByteArray) × ByteArray) (a1 : (((Bool × ByteArray) × ByteArray) × (Bool × ByteArray) × ByteArray) × ((Bool × ByteArray) × ByteArray) × (Bool × ByteArray) × ByteArray) : evFunc ctx (enclosure_MulBox.orc k) k enclosure_MulBox.note Tryz.f59 [.data (.agg (.pair (.agg (.pair (.agg (.pair (.agg (.pair .bool .str)) .str)) (.agg (.pair (.agg (.pair .bool .str)) .str)))) (.agg (.pair (.agg (.pair (.agg (.pair .bool .str)) .str)) (.agg (.pair (.agg (.pair .bool .str)) .str)))))) a0, .data (.agg (.pair (.agg (.pair (.agg (.pair (.agg (.pair .bool .str)) .str)) (.agg (.pair (.agg (.pair .bool .str)) .str)))) (.agg (.pair (.agg (.pair (.agg (.pair .bool .str)) .str)) (.agg (.pair (.agg (.pair .bool .str)) .str)))))) a1] enclosure_MulBox.κ = enclosure_MulBox k a0 a1 :=
  enclosure_MulBox.eq0 k _ a0 a1
theorem enclosure_MulBox.sound {β : Type} (k : Nat) : FunOK Tryz.prog ctx 59 (enclosure_MulBox.C k : Fun β) := by
  intro xs κ r h
  rcases xs with _ | ⟨a0, _ | ⟨a1, _ | ⟨x', l'⟩⟩⟩
  · exact no h
  · exact no h
  · obtain ⟨x0, rfl, h1⟩ := A.un_some h
    obtain ⟨x1, rfl, h2⟩ := A.un_some h1
    obtain ⟨res, hr, hf⟩ := bnd h2
    refine ⟨[.data (.agg (.pair (.agg (.pair (.agg (.pair (.agg (.pair .bool .str)) .str)) (.agg (.pair (.agg (.pair .bool .str)) .str)))) (.agg (.pair (.agg (.pair (.agg (.pair .bool .str)) .str)) (.agg (.pair (.agg (.pair .bool .str)) .str)))))) res.1, .data (.int .i64) res.2], fun_ok' ctx_ok mixed_ok (f := 59) (fn := Tryz.f59) (n := enclosure_MulBox.note) (by kernel_rfl) (by kernel_rfl) (orc_sound (orc_cons (enclosure_CheckBox.sound k) (orc_cons (enclosure_first.sound k) (orc_cons (ival_MulBox.sound k) (orc_cons (enclosure_box.sound) (orc_nil)))))) ((enclosure_MulBox.fn_eq k x0 x1).trans hr) ?_, hf⟩
    intro rs' h
    rcases rs' with _ | ⟨r0, _ | ⟨r1, _ | ⟨x', l'⟩⟩⟩
    · exact no h
    · exact no h
    · obtain ⟨y0, rfl, h0⟩ := R.un_some h
      obtain ⟨y1, rfl, h1⟩ := R.un_some h0
      obtain rfl := inj h1
      rfl
    · exact no h
  · exact no h
theorem galoislaw19_awake.top_eq (k : Nat) (L : Labels (Bool))  : evTop ctx (galoislaw19_awake.orc k) L galoislaw19_awake.note Tryz.f17 [] galoislaw19_awake.κ = galoislaw19_awake.top k (fun x0 x1 x2 x3 x4 x5 x6 => L 0 (mkE 113 0 [(1, .ptr 0 (.agg (.pair (.agg (.pair (.agg (.pair .bool .str)) .str)) (.agg (.pair (.agg (.pair .bool .str)) .str)))) []), (3, .ptr 1 (.agg (.pair (.agg (.pair (.agg (.pair .bool .str)) .str)) (.agg (.pair (.agg (.pair .bool .str)) .str)))) []), (5, .ptr 2 (.agg (.pair (.agg (.pair (.agg (.pair .bool .str)) .str)) (.agg (.pair (.agg (.pair .bool .str)) .str)))) []), (7, .ptr 3 (.agg (.pair (.agg (.pair (.agg (.pair .bool .str)) .str)) (.agg (.pair (.agg (.pair .bool .str)) .str)))) []), (9, .ptr 4 (.agg (.pair (.agg (.pair (.agg (.pair .bool .str)) .str)) (.agg (.pair (.agg (.pair .bool .str)) .str)))) []), (12, .ptr 5 (.agg (.pair (.agg (.pair (.agg (.pair (.agg (.pair .bool .str)) .str)) (.agg (.pair (.agg (.pair .bool .str)) .str)))) (.agg (.pair (.agg (.pair (.agg (.pair .bool .str)) .str)) (.agg (.pair (.agg (.pair .bool .str)) .str)))))) []), (72, .data .bool x0)]) (ofList [.var true (.agg (.pair (.agg (.pair (.agg (.pair .bool .str)) .str)) (.agg (.pair (.agg (.pair .bool .str)) .str)))) (.data (.agg (.pair (.agg (.pair (.agg (.pair .bool .str)) .str)) (.agg (.pair (.agg (.pair .bool .str)) .str)))) x1), .var true (.agg (.pair (.agg (.pair (.agg (.pair .bool .str)) .str)) (.agg (.pair (.agg (.pair .bool .str)) .str)))) (.data (.agg (.pair (.agg (.pair (.agg (.pair .bool .str)) .str)) (.agg (.pair (.agg (.pair .bool .str)) .str)))) x2), .var true (.agg (.pair (.agg (.pair (.agg (.pair .bool .str)) .str)) (.agg (.pair (.agg (.pair .bool .str)) .str)))) (.data (.agg (.pair (.agg (.pair (.agg (.pair .bool .str)) .str)) (.agg (.pair (.agg (.pair .bool .str)) .str)))) x3), .var true (.agg (.pair (.agg (.pair (.agg (.pair .bool .str)) .str)) (.agg (.pair (.agg (.pair .bool .str)) .str)))) (.data (.agg (.pair (.agg (.pair (.agg (.pair .bool .str)) .str)) (.agg (.pair (.agg (.pair .bool .str)) .str)))) x4), .var true (.agg (.pair (.agg (.pair (.agg (.pair .bool .str)) .str)) (.agg (.pair (.agg (.pair .bool .str)) .str)))) (.data (.agg (.pair (.agg (.pair (.agg (.pair .bool .str)) .str)) (.agg (.pair (.agg (.pair .bool .str)) .str)))) x5), .var true (.agg (.pair (.agg (.pair (.agg (.pair (.agg (.pair .bool .str)) .str)) (.agg (.pair (.agg (.pair .bool .str)) .str)))) (.agg (.pair (.agg (.pair (.agg (.pair .bool .str)) .str)) (.agg (.pair (.agg (.pair .bool .str)) .str)))))) (.data (.agg (.pair (.agg (.pair (.agg (.pair (.agg (.pair .bool .str)) .str)) (.agg (.pair (.agg (.pair .bool .str)) .str)))) (.agg (.pair (.agg (.pair (.agg (.pair .bool .str)) .str)) (.agg (.pair (.agg (.pair .bool .str)) .str)))))) x6)]) 6)  := by
  kernel_rfl
theorem galoislaw19_awake.b0_eq (k : Nat) (L : Labels (Bool)) (x0 : Bool) (x1 : ((Bool × ByteArray) × ByteArray) × (Bool × ByteArray) × ByteArray) (x2 : ((Bool × ByteArray) × ByteArray) × (Bool × ByteArray) × ByteArray) (x3 : ((Bool × ByteArray) × ByteArray) × (Bool × ByteArray) × ByteArray) (x4 : ((Bool × ByteArray) × ByteArray) × (Bool × ByteArray) × ByteArray) (x5 : ((Bool × ByteArray) × ByteArray) × (Bool × ByteArray) × ByteArray) (x6 : (((Bool × ByteArray) × ByteArray) × (Bool × ByteArray) × ByteArray) × ((Bool × ByteArray) × ByteArray) × (Bool × ByteArray) × ByteArray) : evLab ctx (galoislaw19_awake.orc k) L galoislaw19_awake.note Tryz.f17 0 galoislaw19_awake.κ 0 (mkE 113 0 [(1, .ptr 0 (.agg (.pair (.agg (.pair (.agg (.pair .bool .str)) .str)) (.agg (.pair (.agg (.pair .bool .str)) .str)))) []), (3, .ptr 1 (.agg (.pair (.agg (.pair (.agg (.pair .bool .str)) .str)) (.agg (.pair (.agg (.pair .bool .str)) .str)))) []), (5, .ptr 2 (.agg (.pair (.agg (.pair (.agg (.pair .bool .str)) .str)) (.agg (.pair (.agg (.pair .bool .str)) .str)))) []), (7, .ptr 3 (.agg (.pair (.agg (.pair (.agg (.pair .bool .str)) .str)) (.agg (.pair (.agg (.pair .bool .str)) .str)))) []), (9, .ptr 4 (.agg (.pair (.agg (.pair (.agg (.pair .bool .str)) .str)) (.agg (.pair (.agg (.pair .bool .str)) .str)))) []), (12, .ptr 5 (.agg (.pair (.agg (.pair (.agg (.pair (.agg (.pair .bool .str)) .str)) (.agg (.pair (.agg (.pair .bool .str)) .str)))) (.agg (.pair (.agg (.pair (.agg (.pair .bool .str)) .str)) (.agg (.pair (.agg (.pair .bool .str)) .str)))))) []), (72, .data .bool x0)]) (ofList [.var true (.agg (.pair (.agg (.pair (.agg (.pair .bool .str)) .str)) (.agg (.pair (.agg (.pair .bool .str)) .str)))) (.data (.agg (.pair (.agg (.pair (.agg (.pair .bool .str)) .str)) (.agg (.pair (.agg (.pair .bool .str)) .str)))) x1), .var true (.agg (.pair (.agg (.pair (.agg (.pair .bool .str)) .str)) (.agg (.pair (.agg (.pair .bool .str)) .str)))) (.data (.agg (.pair (.agg (.pair (.agg (.pair .bool .str)) .str)) (.agg (.pair (.agg (.pair .bool .str)) .str)))) x2), .var true (.agg (.pair (.agg (.pair (.agg (.pair .bool .str)) .str)) (.agg (.pair (.agg (.pair .bool .str)) .str)))) (.data (.agg (.pair (.agg (.pair (.agg (.pair .bool .str)) .str)) (.agg (.pair (.agg (.pair .bool .str)) .str)))) x3), .var true (.agg (.pair (.agg (.pair (.agg (.pair .bool .str)) .str)) (.agg (.pair (.agg (.pair .bool .str)) .str)))) (.data (.agg (.pair (.agg (.pair (.agg (.pair .bool .str)) .str)) (.agg (.pair (.agg (.pair .bool .str)) .str)))) x4), .var true (.agg (.pair (.agg (.pair (.agg (.pair .bool .str)) .str)) (.agg (.pair (.agg (.pair .bool .str)) .str)))) (.data (.agg (.pair (.agg (.pair (.agg (.pair .bool .str)) .str)) (.agg (.pair (.agg (.pair .bool .str)) .str)))) x5), .var true (.agg (.pair (.agg (.pair (.agg (.pair (.agg (.pair .bool .str)) .str)) (.agg (.pair (.agg (.pair .bool .str)) .str)))) (.agg (.pair (.agg (.pair (.agg (.pair .bool .str)) .str)) (.agg (.pair (.agg (.pair .bool .str)) .str)))))) (.data (.agg (.pair (.agg (.pair (.agg (.pair (.agg (.pair .bool .str)) .str)) (.agg (.pair (.agg (.pair .bool .str)) .str)))) (.agg (.pair (.agg (.pair (.agg (.pair .bool .str)) .str)) (.agg (.pair (.agg (.pair .bool .str)) .str)))))) x6)]) 6 = galoislaw19_awake.b0 k x0 x1 x2 x3 x4 x5 x6 := by
  kernel_rfl
theorem galoislaw19_awake.run (k : Nat) : ∀ n : Nat, (∀ (x0 : Bool) (x1 : ((Bool × ByteArray) × ByteArray) × (Bool × ByteArray) × ByteArray) (x2 : ((Bool × ByteArray) × ByteArray) × (Bool × ByteArray) × ByteArray) (x3 : ((Bool × ByteArray) × ByteArray) × (Bool × ByteArray) × ByteArray) (x4 : ((Bool × ByteArray) × ByteArray) × (Bool × ByteArray) × ByteArray) (x5 : ((Bool × ByteArray) × ByteArray) × (Bool × ByteArray) × ByteArray) (x6 : (((Bool × ByteArray) × ByteArray) × (Bool × ByteArray) × ByteArray) × ((Bool × ByteArray) × ByteArray) × (Bool × ByteArray) × ByteArray), evRun ctx (galoislaw19_awake.orc k) galoislaw19_awake.note Tryz.f17 0 galoislaw19_awake.κ n 0 (mkE 113 0 [(1, .ptr 0 (.agg (.pair (.agg (.pair (.agg (.pair .bool .str)) .str)) (.agg (.pair (.agg (.pair .bool .str)) .str)))) []), (3, .ptr 1 (.agg (.pair (.agg (.pair (.agg (.pair .bool .str)) .str)) (.agg (.pair (.agg (.pair .bool .str)) .str)))) []), (5, .ptr 2 (.agg (.pair (.agg (.pair (.agg (.pair .bool .str)) .str)) (.agg (.pair (.agg (.pair .bool .str)) .str)))) []), (7, .ptr 3 (.agg (.pair (.agg (.pair (.agg (.pair .bool .str)) .str)) (.agg (.pair (.agg (.pair .bool .str)) .str)))) []), (9, .ptr 4 (.agg (.pair (.agg (.pair (.agg (.pair .bool .str)) .str)) (.agg (.pair (.agg (.pair .bool .str)) .str)))) []), (12, .ptr 5 (.agg (.pair (.agg (.pair (.agg (.pair (.agg (.pair .bool .str)) .str)) (.agg (.pair (.agg (.pair .bool .str)) .str)))) (.agg (.pair (.agg (.pair (.agg (.pair .bool .str)) .str)) (.agg (.pair (.agg (.pair .bool .str)) .str)))))) []), (72, .data .bool x0)]) (ofList [.var true (.agg (.pair (.agg (.pair (.agg (.pair .bool .str)) .str)) (.agg (.pair (.agg (.pair .bool .str)) .str)))) (.data (.agg (.pair (.agg (.pair (.agg (.pair .bool .str)) .str)) (.agg (.pair (.agg (.pair .bool .str)) .str)))) x1), .var true (.agg (.pair (.agg (.pair (.agg (.pair .bool .str)) .str)) (.agg (.pair (.agg (.pair .bool .str)) .str)))) (.data (.agg (.pair (.agg (.pair (.agg (.pair .bool .str)) .str)) (.agg (.pair (.agg (.pair .bool .str)) .str)))) x2), .var true (.agg (.pair (.agg (.pair (.agg (.pair .bool .str)) .str)) (.agg (.pair (.agg (.pair .bool .str)) .str)))) (.data (.agg (.pair (.agg (.pair (.agg (.pair .bool .str)) .str)) (.agg (.pair (.agg (.pair .bool .str)) .str)))) x3), .var true (.agg (.pair (.agg (.pair (.agg (.pair .bool .str)) .str)) (.agg (.pair (.agg (.pair .bool .str)) .str)))) (.data (.agg (.pair (.agg (.pair (.agg (.pair .bool .str)) .str)) (.agg (.pair (.agg (.pair .bool .str)) .str)))) x4), .var true (.agg (.pair (.agg (.pair (.agg (.pair .bool .str)) .str)) (.agg (.pair (.agg (.pair .bool .str)) .str)))) (.data (.agg (.pair (.agg (.pair (.agg (.pair .bool .str)) .str)) (.agg (.pair (.agg (.pair .bool .str)) .str)))) x5), .var true (.agg (.pair (.agg (.pair (.agg (.pair (.agg (.pair .bool .str)) .str)) (.agg (.pair (.agg (.pair .bool .str)) .str)))) (.agg (.pair (.agg (.pair (.agg (.pair .bool .str)) .str)) (.agg (.pair (.agg (.pair .bool .str)) .str)))))) (.data (.agg (.pair (.agg (.pair (.agg (.pair (.agg (.pair .bool .str)) .str)) (.agg (.pair (.agg (.pair .bool .str)) .str)))) (.agg (.pair (.agg (.pair (.agg (.pair .bool .str)) .str)) (.agg (.pair (.agg (.pair .bool .str)) .str)))))) x6)]) 6 = galoislaw19_awake.l0 k n x0 x1 x2 x3 x4 x5 x6) := by
  intro n
  induction n with
  | zero => exact fun _ _ _ _ _ _ _ => rfl
  | succ n ih =>
    have h0 := ih
    refine ?_
    · intro x0 x1 x2 x3 x4 x5 x6; refine (galoislaw19_awake.b0_eq k (evRun ctx (galoislaw19_awake.orc k) galoislaw19_awake.note Tryz.f17 0 galoislaw19_awake.κ n) x0 x1 x2 x3 x4 x5 x6).trans ?_
      rfl
theorem galoislaw19_awake.fn_eq (k : Nat)  : evFunc ctx (galoislaw19_awake.orc k) k galoislaw19_awake.note Tryz.f17 [] galoislaw19_awake.κ = galoislaw19_awake k  := by
  refine (galoislaw19_awake.top_eq k (evRun ctx (galoislaw19_awake.orc k) galoislaw19_awake.note Tryz.f17 0 galoislaw19_awake.κ k) ).trans ?_
  have h0 := galoislaw19_awake.run k k
  simp only [h0]
  rfl
theorem galoislaw19_awake.sound {β : Type} (k : Nat) : FunOK Tryz.prog ctx 17 (galoislaw19_awake.C k : Fun β) := by
  intro xs κ r h
  rcases xs with _ | ⟨x', l'⟩
  · 
    obtain ⟨res, hr, hf⟩ := bnd h
    refine ⟨[.data .bool res], fun_ok' ctx_ok mixed_ok (f := 17) (fn := Tryz.f17) (n := galoislaw19_awake.note) (by kernel_rfl) (by kernel_rfl) (orc_sound (orc_cons (galoisref03_Of.sound k) (orc_cons (enclosure_Around.sound k) (orc_cons (galoislaw19_make2.sound k) (orc_cons (enclosure_Mul.sound k) (orc_cons (enclosure_Square.sound k) (orc_cons (galoisref06_Of.sound k) (orc_cons (enclosure_EvalPoly.sound k) (orc_cons (galoisref19_Zero.sound k) (orc_cons (enclosure_MulBox.sound k) (orc_cons (enclosure_Check.sound k) (orc_nil)))))))))))) ((galoislaw19_awake.fn_eq k ).trans hr) ?_, hf⟩
    intro rs' h
    rcases rs' with _ | ⟨r0, _ | ⟨x', l'⟩⟩
    · exact no h
    · obtain ⟨y0, rfl, h0⟩ := R.un_some h
      obtain rfl := inj h0
      rfl
    · exact no h
  · exact no h
theorem awake_true : galoislaw19_awake 70 = some true := by kernel_rfl
theorem awakeT.sound {β : Type} : FunOK Tryz.prog ctx 17 (awakeT.C : Fun β) := by
  intro xs κ r h
  rcases xs with _ | ⟨x', l'⟩
  · refine galoislaw19_awake.sound 70 [] κ r ?_
    unfold galoislaw19_awake.C
    dsimp only
    rw [awake_true]
    exact h
  · exact no h
theorem galoisref01_Valid.eq0 (L : Labels (Bool)) (a0 : ByteArray) : evTop ctx (galoisref01_Valid.orc ) L galoisref01_Valid.note Tryz.f115 [.data .str a0] galoisref01_Valid.κ = galoisref01_Valid a0 := by
  kernel_rfl
theorem galoisref01_Valid.fn_eq (a0 : ByteArray) : evFunc ctx (galoisref01_Valid.orc ) 0 galoisref01_Valid.note Tryz.f115 [.data .str a0] galoisref01_Valid.κ = galoisref01_Valid a0 :=
  galoisref01_Valid.eq0 _ a0
theorem galoisref01_Valid.sound {β : Type} : FunOK Tryz.prog ctx 115 (galoisref01_Valid.C : Fun β) := by
  intro xs κ r h
  rcases xs with _ | ⟨a0, _ | ⟨x', l'⟩⟩
  · exact no h
  · unfold galoisref01_Valid.C at h
    dsimp only at h
    obtain ⟨x0, rfl, h1⟩ := A.un_some h
    obtain ⟨res, hr, hf⟩ := bnd h1
    refine ⟨[.data .bool res], fun_ok' ctx_ok mixed_ok (f := 115) (fn := Tryz.f115) (n := galoisref01_Valid.note) (by kernel_rfl) (by kernel_rfl) (orc_sound (orc_nil)) ((galoisref01_Valid.fn_eq x0).trans hr) ?_, hf⟩
    intro rs' h
    rcases rs' with _ | ⟨r0, _ | ⟨x', l'⟩⟩
    · exact no h
    · obtain ⟨y0, rfl, h0⟩ := R.un_some h
      obtain rfl := inj h0
      rfl
    · exact no h
  · exact no h
theorem galoisref02_Valid.eq0 (L : Labels (Bool)) (a0 : Bool × ByteArray) : evTop ctx (galoisref02_Valid.orc ) L galoisref02_Valid.note Tryz.f114 [.data (.agg (.pair .bool .str)) a0] galoisref02_Valid.κ = galoisref02_Valid a0 := by
  kernel_rfl
theorem galoisref02_Valid.fn_eq (a0 : Bool × ByteArray) : evFunc ctx (galoisref02_Valid.orc ) 0 galoisref02_Valid.note Tryz.f114 [.data (.agg (.pair .bool .str)) a0] galoisref02_Valid.κ = galoisref02_Valid a0 :=
  galoisref02_Valid.eq0 _ a0
theorem galoisref02_Valid.sound {β : Type} : FunOK Tryz.prog ctx 114 (galoisref02_Valid.C : Fun β) := by
  intro xs κ r h
  rcases xs with _ | ⟨a0, _ | ⟨x', l'⟩⟩
  · exact no h
  · unfold galoisref02_Valid.C at h
    dsimp only at h
    obtain ⟨x0, rfl, h1⟩ := A.un_some h
    obtain ⟨res, hr, hf⟩ := bnd h1
    refine ⟨[.data .bool res], fun_ok' ctx_ok mixed_ok (f := 114) (fn := Tryz.f114) (n := galoisref02_Valid.note) (by kernel_rfl) (by kernel_rfl) (orc_sound (orc_cons (galoisref01_Valid.sound) (orc_nil))) ((galoisref02_Valid.fn_eq x0).trans hr) ?_, hf⟩
    intro rs' h
    rcases rs' with _ | ⟨r0, _ | ⟨x', l'⟩⟩
    · exact no h
    · obtain ⟨y0, rfl, h0⟩ := R.un_some h
      obtain rfl := inj h0
      rfl
    · exact no h
  · exact no h
end Go.Proofs.YthghchjbomlpfaaGreat.Ev

namespace Go.Proofs.YthghchjbomlpfaaGreat.Ev
set_option linter.unusedVariables false
set_option maxRecDepth 100000
theorem galoisref01_Fits.eq0 (L : Labels (Int)) (a0 : ByteArray) : evTop ctx (galoisref01_Fits.orc ) L galoisref01_Fits.note Tryz.f170 [.data .str a0] galoisref01_Fits.κ = galoisref01_Fits a0 := by
  kernel_rfl
theorem galoisref01_Fits.fn_eq (a0 : ByteArray) : evFunc ctx (galoisref01_Fits.orc ) 0 galoisref01_Fits.note Tryz.f170 [.data .str a0] galoisref01_Fits.κ = galoisref01_Fits a0 :=
  galoisref01_Fits.eq0 _ a0
theorem galoisref01_Fits.sound {β : Type} : FunOK Tryz.prog ctx 170 (galoisref01_Fits.C : Fun β) := by
  intro xs κ r h
  rcases xs with _ | ⟨a0, _ | ⟨x', l'⟩⟩
  · exact no h
  · unfold galoisref01_Fits.C at h
    dsimp only at h
    obtain ⟨x0, rfl, h1⟩ := A.un_some h
    obtain ⟨res, hr, hf⟩ := bnd h1
    refine ⟨[.data (.int .i64) res], fun_ok' ctx_ok mixed_ok (f := 170) (fn := Tryz.f170) (n := galoisref01_Fits.note) (by kernel_rfl) (by kernel_rfl) (orc_sound (orc_nil)) ((galoisref01_Fits.fn_eq x0).trans hr) ?_, hf⟩
    intro rs' h
    rcases rs' with _ | ⟨r0, _ | ⟨x', l'⟩⟩
    · exact no h
    · obtain ⟨y0, rfl, h0⟩ := R.un_some h
      obtain rfl := inj h0
      rfl
    · exact no h
  · exact no h
theorem galoisref02_Fits.eq0 (L : Labels (Int)) (a0 : Bool × ByteArray) : evTop ctx (galoisref02_Fits.orc ) L galoisref02_Fits.note Tryz.f169 [.data (.agg (.pair .bool .str)) a0] galoisref02_Fits.κ = galoisref02_Fits a0 := by
  kernel_rfl
theorem galoisref02_Fits.fn_eq (a0 : Bool × ByteArray) : evFunc ctx (galoisref02_Fits.orc ) 0 galoisref02_Fits.note Tryz.f169 [.data (.agg (.pair .bool .str)) a0] galoisref02_Fits.κ = galoisref02_Fits a0 :=
  galoisref02_Fits.eq0 _ a0
theorem galoisref02_Fits.sound {β : Type} : FunOK Tryz.prog ctx 169 (galoisref02_Fits.C : Fun β) := by
  intro xs κ r h
  rcases xs with _ | ⟨a0, _ | ⟨x', l'⟩⟩
  · exact no h
  · unfold galoisref02_Fits.C at h
    dsimp only at h
    obtain ⟨x0, rfl, h1⟩ := A.un_some h
    obtain ⟨res, hr, hf⟩ := bnd h1
    refine ⟨[.data (.int .i64) res], fun_ok' ctx_ok mixed_ok (f := 169) (fn := Tryz.f169) (n := galoisref02_Fits.note) (by kernel_rfl) (by kernel_rfl) (orc_sound (orc_cons (galoisref01_Fits.sound) (orc_nil))) ((galoisref02_Fits.fn_eq x0).trans hr) ?_, hf⟩
    intro rs' h
    rcases rs' with _ | ⟨r0, _ | ⟨x', l'⟩⟩
    · exact no h
    · obtain ⟨y0, rfl, h0⟩ := R.un_some h
      obtain rfl := inj h0
      rfl
    · exact no h
  · exact no h
theorem galoisref03_Fits.eq0 (L : Labels (Int)) (a0 : (Bool × ByteArray) × ByteArray) : evTop ctx (galoisref03_Fits.orc ) L galoisref03_Fits.note Tryz.f116 [.data (.agg (.pair (.agg (.pair .bool .str)) .str)) a0] galoisref03_Fits.κ = galoisref03_Fits a0 := by
  kernel_rfl
theorem galoisref03_Fits.fn_eq (a0 : (Bool × ByteArray) × ByteArray) : evFunc ctx (galoisref03_Fits.orc ) 0 galoisref03_Fits.note Tryz.f116 [.data (.agg (.pair (.agg (.pair .bool .str)) .str)) a0] galoisref03_Fits.κ = galoisref03_Fits a0 :=
  galoisref03_Fits.eq0 _ a0
theorem galoisref03_Fits.sound {β : Type} : FunOK Tryz.prog ctx 116 (galoisref03_Fits.C : Fun β) := by
  intro xs κ r h
  rcases xs with _ | ⟨a0, _ | ⟨x', l'⟩⟩
  · exact no h
  · unfold galoisref03_Fits.C at h
    dsimp only at h
    obtain ⟨x0, rfl, h1⟩ := A.un_some h
    obtain ⟨res, hr, hf⟩ := bnd h1
    refine ⟨[.data (.int .i64) res], fun_ok' ctx_ok mixed_ok (f := 116) (fn := Tryz.f116) (n := galoisref03_Fits.note) (by kernel_rfl) (by kernel_rfl) (orc_sound (orc_cons (galoisref02_Fits.sound) (orc_cons (galoisref01_Fits.sound) (orc_nil)))) ((galoisref03_Fits.fn_eq x0).trans hr) ?_, hf⟩
    intro rs' h
    rcases rs' with _ | ⟨r0, _ | ⟨x', l'⟩⟩
    · exact no h
    · obtain ⟨y0, rfl, h0⟩ := R.un_some h
      obtain rfl := inj h0
      rfl
    · exact no h
  · exact no h
theorem galoisref03_Check.top_eq (k : Nat) (L : Labels (Int)) (a0 : (Bool × ByteArray) × ByteArray) : evTop ctx (galoisref03_Check.orc k) L galoisref03_Check.note Tryz.f29 [.data (.agg (.pair (.agg (.pair .bool .str)) .str)) a0] galoisref03_Check.κ = galoisref03_Check.top k (fun x0 x1 => L 0 (mkE 28 0 [(1, .ptr 1 (.agg (.pair (.agg (.pair .bool .str)) .str)) []), (17, .data .bool x0)]) (ofList [.dead, .var true (.agg (.pair (.agg (.pair .bool .str)) .str)) (.data (.agg (.pair (.agg (.pair .bool .str)) .str)) x1)]) 2) a0 := by
  kernel_rfl
theorem galoisref03_Check.b0_eq (k : Nat) (L : Labels (Int)) (x0 : Bool) (x1 : (Bool × ByteArray) × ByteArray) : evLab ctx (galoisref03_Check.orc k) L galoisref03_Check.note Tryz.f29 1 galoisref03_Check.κ 0 (mkE 28 0 [(1, .ptr 1 (.agg (.pair (.agg (.pair .bool .str)) .str)) []), (17, .data .bool x0)]) (ofList [.dead, .var true (.agg (.pair (.agg (.pair .bool .str)) .str)) (.data (.agg (.pair (.agg (.pair .bool .str)) .str)) x1)]) 2 = galoisref03_Check.b0 k x0 x1 := by
  kernel_rfl
theorem galoisref03_Check.run (k : Nat) : ∀ n : Nat, (∀ (x0 : Bool) (x1 : (Bool × ByteArray) × ByteArray), evRun ctx (galoisref03_Check.orc k) galoisref03_Check.note Tryz.f29 1 galoisref03_Check.κ n 0 (mkE 28 0 [(1, .ptr 1 (.agg (.pair (.agg (.pair .bool .str)) .str)) []), (17, .data .bool x0)]) (ofList [.dead, .var true (.agg (.pair (.agg (.pair .bool .str)) .str)) (.data (.agg (.pair (.agg (.pair .bool .str)) .str)) x1)]) 2 = galoisref03_Check.l0 k n x0 x1) := by
  intro n
  induction n with
  | zero => exact fun _ _ => rfl
  | succ n ih =>
    have h0 := ih
    refine ?_
    · intro x0 x1; refine (galoisref03_Check.b0_eq k (evRun ctx (galoisref03_Check.orc k) galoisref03_Check.note Tryz.f29 1 galoisref03_Check.κ n) x0 x1).trans ?_
      rfl
theorem galoisref03_Check.fn_eq (k : Nat) (a0 : (Bool × ByteArray) × ByteArray) : evFunc ctx (galoisref03_Check.orc k) k galoisref03_Check.note Tryz.f29 [.data (.agg (.pair (.agg (.pair .bool .str)) .str)) a0] galoisref03_Check.κ = galoisref03_Check k a0 := by
  refine (galoisref03_Check.top_eq k (evRun ctx (galoisref03_Check.orc k) galoisref03_Check.note Tryz.f29 1 galoisref03_Check.κ k) a0).trans ?_
  have h0 := galoisref03_Check.run k k
  simp only [h0]
  rfl
theorem galoisref03_Check.sound {β : Type} (k : Nat) : FunOK Tryz.prog ctx 29 (galoisref03_Check.C k : Fun β) := by
  intro xs κ r h
  rcases xs with _ | ⟨a0, _ | ⟨x', l'⟩⟩
  · exact no h
  · obtain ⟨x0, rfl, h1⟩ := A.un_some h
    obtain ⟨res, hr, hf⟩ := bnd h1
    refine ⟨[.data (.int .i64) res], fun_ok' ctx_ok mixed_ok (f := 29) (fn := Tryz.f29) (n := galoisref03_Check.note) (by kernel_rfl) (by kernel_rfl) (orc_sound (orc_cons (galoisref02_Valid.sound) (orc_cons (galoisref03_Fits.sound) (orc_cons (galoisref01_Gcd.sound k) (orc_cons (galoisref01_Valid.sound) (orc_nil)))))) ((galoisref03_Check.fn_eq k x0).trans hr) ?_, hf⟩
    intro rs' h
    rcases rs' with _ | ⟨r0, _ | ⟨x', l'⟩⟩
    · exact no h
    · obtain ⟨y0, rfl, h0⟩ := R.un_some h
      obtain rfl := inj h0
      rfl
    · exact no h
  · exact no h
theorem galoisref19_Dyadic.top_eq (L : Labels (Bool)) (a0 : (Bool × ByteArray) × ByteArray) : evTop ctx (galoisref19_Dyadic.orc ) L galoisref19_Dyadic.note Tryz.f100 [.data (.agg (.pair (.agg (.pair .bool .str)) .str)) a0] galoisref19_Dyadic.κ = galoisref19_Dyadic.top (fun x0 x1 => L 0 (mkE 33 0 [(1, .ptr 1 (.agg (.pair (.agg (.pair .bool .str)) .str)) []), (3, .data (.int .i64) x0)]) (ofList [.dead, .var true (.agg (.pair (.agg (.pair .bool .str)) .str)) (.data (.agg (.pair (.agg (.pair .bool .str)) .str)) x1)]) 2) a0 := by
  kernel_rfl
theorem galoisref19_Dyadic.b0_eq (L : Labels (Bool)) (x0 : Int) (x1 : (Bool × ByteArray) × ByteArray) : evLab ctx (galoisref19_Dyadic.orc ) L galoisref19_Dyadic.note Tryz.f100 1 galoisref19_Dyadic.κ 0 (mkE 33 0 [(1, .ptr 1 (.agg (.pair (.agg (.pair .bool .str)) .str)) []), (3, .data (.int .i64) x0)]) (ofList [.dead, .var true (.agg (.pair (.agg (.pair .bool .str)) .str)) (.data (.agg (.pair (.agg (.pair .bool .str)) .str)) x1)]) 2 = galoisref19_Dyadic.b0 (fun x0 x1 => L 0 (mkE 33 0 [(1, .ptr 1 (.agg (.pair (.agg (.pair .bool .str)) .str)) []), (3, .data (.int .i64) x0)]) (ofList [.dead, .var true (.agg (.pair (.agg (.pair .bool .str)) .str)) (.data (.agg (.pair (.agg (.pair .bool .str)) .str)) x1)]) 2) x0 x1 := by
  kernel_rfl
theorem galoisref19_Dyadic.run : ∀ n : Nat, (∀ (x0 : Int) (x1 : (Bool × ByteArray) × ByteArray), evRun ctx (galoisref19_Dyadic.orc ) galoisref19_Dyadic.note Tryz.f100 1 galoisref19_Dyadic.κ n 0 (mkE 33 0 [(1, .ptr 1 (.agg (.pair (.agg (.pair .bool .str)) .str)) []), (3, .data (.int .i64) x0)]) (ofList [.dead, .var true (.agg (.pair (.agg (.pair .bool .str)) .str)) (.data (.agg (.pair (.agg (.pair .bool .str)) .str)) x1)]) 2 = galoisref19_Dyadic.l0 n x0 x1) := by
  intro n
  induction n with
  | zero => exact fun _ _ => rfl
  | succ n ih =>
    have h0 := ih
    refine ?_
    · intro x0 x1; refine (galoisref19_Dyadic.b0_eq (evRun ctx (galoisref19_Dyadic.orc ) galoisref19_Dyadic.note Tryz.f100 1 galoisref19_Dyadic.κ n) x0 x1).trans ?_
      simp only [h0]
      rfl
theorem galoisref19_Dyadic.fn_eq (k : Nat) (a0 : (Bool × ByteArray) × ByteArray) : evFunc ctx (galoisref19_Dyadic.orc ) k galoisref19_Dyadic.note Tryz.f100 [.data (.agg (.pair (.agg (.pair .bool .str)) .str)) a0] galoisref19_Dyadic.κ = galoisref19_Dyadic k a0 := by
  refine (galoisref19_Dyadic.top_eq (evRun ctx (galoisref19_Dyadic.orc ) galoisref19_Dyadic.note Tryz.f100 1 galoisref19_Dyadic.κ k) a0).trans ?_
  have h0 := galoisref19_Dyadic.run k
  simp only [h0]
  rfl
theorem galoisref19_Dyadic.sound {β : Type} (k : Nat) : FunOK Tryz.prog ctx 100 (galoisref19_Dyadic.C k : Fun β) := by
  intro xs κ r h
  rcases xs with _ | ⟨a0, _ | ⟨x', l'⟩⟩
  · exact no h
  · obtain ⟨x0, rfl, h1⟩ := A.un_some h
    obtain ⟨res, hr, hf⟩ := bnd h1
    refine ⟨[.data .bool res], fun_ok' ctx_ok mixed_ok (f := 100) (fn := Tryz.f100) (n := galoisref19_Dyadic.note) (by kernel_rfl) (by kernel_rfl) (orc_sound (orc_nil)) ((galoisref19_Dyadic.fn_eq k x0).trans hr) ?_, hf⟩
    intro rs' h
    rcases rs' with _ | ⟨r0, _ | ⟨x', l'⟩⟩
    · exact no h
    · obtain ⟨y0, rfl, h0⟩ := R.un_some h
      obtain rfl := inj h0
      rfl
    · exact no h
  · exact no h
theorem galoisref03_denominator.eq0 (L : Labels ((Bool × ByteArray))) (a0 : (Bool × ByteArray) × ByteArray) : evTop ctx (galoisref03_denominator.orc ) L galoisref03_denominator.note Tryz.f130 [.data (.agg (.pair (.agg (.pair .bool .str)) .str)) a0] galoisref03_denominator.κ = galoisref03_denominator a0 := by
  kernel_rfl
theorem galoisref03_denominator.fn_eq (a0 : (Bool × ByteArray) × ByteArray) : evFunc ctx (galoisref03_denominator.orc ) 0 galoisref03_denominator.note Tryz.f130 [.data (.agg (.pair (.agg (.pair .bool .str)) .str)) a0] galoisref03_denominator.κ = galoisref03_denominator a0 :=
  galoisref03_denominator.eq0 _ a0
theorem galoisref03_denominator.sound {β : Type} : FunOK Tryz.prog ctx 130 (galoisref03_denominator.C : Fun β) := by
  intro xs κ r h
  rcases xs with _ | ⟨a0, _ | ⟨x', l'⟩⟩
  · exact no h
  · unfold galoisref03_denominator.C at h
    dsimp only at h
    obtain ⟨x0, rfl, h1⟩ := A.un_some h
    obtain ⟨res, hr, hf⟩ := bnd h1
    refine ⟨[.data (.agg (.pair .bool .str)) res], fun_ok' ctx_ok mixed_ok (f := 130) (fn := Tryz.f130) (n := galoisref03_denominator.note) (by kernel_rfl) (by kernel_rfl) (orc_sound (orc_nil)) ((galoisref03_denominator.fn_eq x0).trans hr) ?_, hf⟩
    intro rs' h
    rcases rs' with _ | ⟨r0, _ | ⟨x', l'⟩⟩
    · exact no h
    · obtain ⟨y0, rfl, h0⟩ := R.un_some h
      obtain rfl := inj h0
      rfl
    · exact no h
  · exact no h
theorem galoisref01_Mul.top_eq (k : Nat) (L : Labels (ByteArray)) (a0 : ByteArray) (a1 : ByteArray) : evTop ctx (galoisref01_Mul.orc k) L galoisref01_Mul.note Tryz.f184 [.data .str a0, .data .str a1] galoisref01_Mul.κ = galoisref01_Mul.top k (fun x0 l1 l2 l3 => L 0 (mkE 70 0 [(5, .own 2), (6, .own 3), (7, .own 4), (8, .data (.int .i64) x0)]) (ofList [.dead, .dead, .arr .own (.int .u64) l1, .arr .own (.int .u64) l2, .arr .own (.int .u64) l3]) 5) a0 a1 := by
  kernel_rfl
theorem galoisref01_Mul.b0_eq (k : Nat) (L : Labels (ByteArray)) (x0 : Int) (l1 : List Int) (l2 : List Int) (l3 : List Int) : evLab ctx (galoisref01_Mul.orc k) L galoisref01_Mul.note Tryz.f184 2 galoisref01_Mul.κ 0 (mkE 70 0 [(5, .own 2), (6, .own 3), (7, .own 4), (8, .data (.int .i64) x0)]) (ofList [.dead, .dead, .arr .own (.int .u64) l1, .arr .own (.int .u64) l2, .arr .own (.int .u64) l3]) 5 = galoisref01_Mul.b0 k (fun x0 x1 x2 l3 l4 l5 => L 1 (mkE 70 0 [(5, .own 2), (6, .own 3), (7, .own 4), (8, .data (.int .i64) x0), (9, .data (.int .u64) x1), (10, .data (.int .i64) x2)]) (ofList [.dead, .dead, .arr .own (.int .u64) l3, .arr .own (.int .u64) l4, .arr .own (.int .u64) l5]) 5) x0 l1 l2 l3 := by
  kernel_rfl
theorem galoisref01_Mul.b1_eq (k : Nat) (L : Labels (ByteArray)) (x0 : Int) (x1 : Int) (x2 : Int) (l3 : List Int) (l4 : List Int) (l5 : List Int) : evLab ctx (galoisref01_Mul.orc k) L galoisref01_Mul.note Tryz.f184 2 galoisref01_Mul.κ 1 (mkE 70 0 [(5, .own 2), (6, .own 3), (7, .own 4), (8, .data (.int .i64) x0), (9, .data (.int .u64) x1), (10, .data (.int .i64) x2)]) (ofList [.dead, .dead, .arr .own (.int .u64) l3, .arr .own (.int .u64) l4, .arr .own (.int .u64) l5]) 5 = galoisref01_Mul.b1 k (fun x0 l1 l2 l3 => L 0 (mkE 70 0 [(5, .own 2), (6, .own 3), (7, .own 4), (8, .data (.int .i64) x0)]) (ofList [.dead, .dead, .arr .own (.int .u64) l1, .arr .own (.int .u64) l2, .arr .own (.int .u64) l3]) 5) (fun x0 x1 x2 l3 l4 l5 => L 1 (mkE 70 0 [(5, .own 2), (6, .own 3), (7, .own 4), (8, .data (.int .i64) x0), (9, .data (.int .u64) x1), (10, .data (.int .i64) x2)]) (ofList [.dead, .dead, .arr .own (.int .u64) l3, .arr .own (.int .u64) l4, .arr .own (.int .u64) l5]) 5) x0 x1 x2 l3 l4 l5 := by
  kernel_rfl
theorem galoisref01_Mul.run (k : Nat) : ∀ n : Nat, (∀ (x0 : Int) (l1 : List Int) (l2 : List Int) (l3 : List Int), evRun ctx (galoisref01_Mul.orc k) galoisref01_Mul.note Tryz.f184 2 galoisref01_Mul.κ n 0 (mkE 70 0 [(5, .own 2), (6, .own 3), (7, .own 4), (8, .data (.int .i64) x0)]) (ofList [.dead, .dead, .arr .own (.int .u64) l1, .arr .own (.int .u64) l2, .arr .own (.int .u64) l3]) 5 = galoisref01_Mul.l0 k n x0 l1 l2 l3) ∧ (∀ (x0 : Int) (x1 : Int) (x2 : Int) (l3 : List Int) (l4 : List Int) (l5 : List Int), evRun ctx (galoisref01_Mul.orc k) galoisref01_Mul.note Tryz.f184 2 galoisref01_Mul.κ n 1 (mkE 70 0 [(5, .own 2), (6, .own 3), (7, .own 4), (8, .data (.int .i64) x0), (9, .data (.int .u64) x1), (10, .data (.int .i64) x2)]) (ofList [.dead, .dead, .arr .own (.int .u64) l3, .arr .own (.int .u64) l4, .arr .own (.int .u64) l5]) 5 = galoisref01_Mul.l1 k n x0 x1 x2 l3 l4 l5) := by
  intro n
  induction n with
  | zero => exact ⟨fun _ _ _ _ => rfl, fun _ _ _ _ _ _ => rfl⟩
  | succ n ih =>
    have ⟨h0, h1⟩ := ih
    refine ⟨?_, ?_⟩
    · intro x0 l1 l2 l3; refine (galoisref01_Mul.b0_eq k (evRun ctx (galoisref01_Mul.orc k) galoisref01_Mul.note Tryz.f184 2 galoisref01_Mul.κ n) x0 l1 l2 l3).trans ?_
      simp only [h1]
      rfl
    · intro x0 x1 x2 l3 l4 l5; refine (galoisref01_Mul.b1_eq k (evRun ctx (galoisref01_Mul.orc k) galoisref01_Mul.note Tryz.f184 2 galoisref01_Mul.κ n) x0 x1 x2 l3 l4 l5).trans ?_
      simp only [h0, h1]
      rfl
theorem galoisref01_Mul.fn_eq (k : Nat) (a0 : ByteArray) (a1 : ByteArray) : evFunc ctx (galoisref01_Mul.orc k) k galoisref01_Mul.note Tryz.f184 [.data .str a0, .data .str a1] galoisref01_Mul.κ = galoisref01_Mul k a0 a1 := by
  refine (galoisref01_Mul.top_eq k (evRun ctx (galoisref01_Mul.orc k) galoisref01_Mul.note Tryz.f184 2 galoisref01_Mul.κ k) a0 a1).trans ?_
  have ⟨h0, h1⟩ := galoisref01_Mul.run k k
  simp only [h0]
  rfl
theorem galoisref01_Mul.sound {β : Type} (k : Nat) : FunOK Tryz.prog ctx 184 (galoisref01_Mul.C k : Fun β) := by
  intro xs κ r h
  rcases xs with _ | ⟨a0, _ | ⟨a1, _ | ⟨x', l'⟩⟩⟩
  · exact no h
  · exact no h
  · obtain ⟨x0, rfl, h1⟩ := A.un_some h
    obtain ⟨x1, rfl, h2⟩ := A.un_some h1
    obtain ⟨res, hr, hf⟩ := bnd h2
    refine ⟨[.data .str res], fun_ok' ctx_ok mixed_ok (f := 184) (fn := Tryz.f184) (n := galoisref01_Mul.note) (by kernel_rfl) (by kernel_rfl) (orc_sound (orc_cons (galoisref01_limbs.sound k) (orc_cons (galoisref01_pack.sound k) (orc_nil)))) ((galoisref01_Mul.fn_eq k x0 x1).trans hr) ?_, hf⟩
    intro rs' h
    rcases rs' with _ | ⟨r0, _ | ⟨x', l'⟩⟩
    · exact no h
    · obtain ⟨y0, rfl, h0⟩ := R.un_some h
      obtain rfl := inj h0
      rfl
    · exact no h
  · exact no h
theorem galoisref02_Mul.eq0 (k : Nat) (L : Labels ((Bool × ByteArray))) (a0 : Bool × ByteArray) (a1 : Bool × ByteArray) : evTop ctx (galoisref02_Mul.orc k) L galoisref02_Mul.note Tryz.f129 [.data (.agg (.pair .bool .str)) a0, .data (.agg (.pair .bool .str)) a1] galoisref02_Mul.κ = galoisref02_Mul k a0 a1 := by
  kernel_rfl
theorem galoisref02_Mul.fn_eq (k : Nat) (a0 : Bool × ByteArray) (a1 : Bool × ByteArray) : evFunc ctx (galoisref02_Mul.orc k) k galoisref02_Mul.note Tryz.f129 [.data (.agg (.pair .bool .str)) a0, .data (.agg (.pair .bool .str)) a1] galoisref02_Mul.κ = galoisref02_Mul k a0 a1 :=
  galoisref02_Mul.eq0 k _ a0 a1
theorem galoisref02_Mul.sound {β : Type} (k : Nat) : FunOK Tryz.prog ctx 129 (galoisref02_Mul.C k : Fun β) := by
  intro xs κ r h
  rcases xs with _ | ⟨a0, _ | ⟨a1, _ | ⟨x', l'⟩⟩⟩
  · exact no h
  · exact no h
  · obtain ⟨x0, rfl, h1⟩ := A.un_some h
    obtain ⟨x1, rfl, h2⟩ := A.un_some h1
    obtain ⟨res, hr, hf⟩ := bnd h2
    refine ⟨[.data (.agg (.pair .bool .str)) res], fun_ok' ctx_ok mixed_ok (f := 129) (fn := Tryz.f129) (n := galoisref02_Mul.note) (by kernel_rfl) (by kernel_rfl) (orc_sound (orc_cons (galoisref01_Mul.sound k) (orc_cons (galoisref02_Make.sound) (orc_nil)))) ((galoisref02_Mul.fn_eq k x0 x1).trans hr) ?_, hf⟩
    intro rs' h
    rcases rs' with _ | ⟨r0, _ | ⟨x', l'⟩⟩
    · exact no h
    · obtain ⟨y0, rfl, h0⟩ := R.un_some h
      obtain rfl := inj h0
      rfl
    · exact no h
  · exact no h
theorem galoisref01_Compare.top_eq (L : Labels (Int)) (a0 : ByteArray) (a1 : ByteArray) : evTop ctx (galoisref01_Compare.orc ) L galoisref01_Compare.note Tryz.f182 [.data .str a0, .data .str a1] galoisref01_Compare.κ = galoisref01_Compare.top (fun x0 x1 x2 => L 0 (mkE 27 0 [(0, .data .str x0), (1, .data .str x1), (5, .data .bool x2)]) (ofList [.dead, .dead]) 2) a0 a1 := by
  kernel_rfl
theorem galoisref01_Compare.b0_eq (L : Labels (Int)) (x0 : ByteArray) (x1 : ByteArray) (x2 : Bool) : evLab ctx (galoisref01_Compare.orc ) L galoisref01_Compare.note Tryz.f182 2 galoisref01_Compare.κ 0 (mkE 27 0 [(0, .data .str x0), (1, .data .str x1), (5, .data .bool x2)]) (ofList [.dead, .dead]) 2 = galoisref01_Compare.b0 x0 x1 x2 := by
  kernel_rfl
theorem galoisref01_Compare.run : ∀ n : Nat, (∀ (x0 : ByteArray) (x1 : ByteArray) (x2 : Bool), evRun ctx (galoisref01_Compare.orc ) galoisref01_Compare.note Tryz.f182 2 galoisref01_Compare.κ n 0 (mkE 27 0 [(0, .data .str x0), (1, .data .str x1), (5, .data .bool x2)]) (ofList [.dead, .dead]) 2 = galoisref01_Compare.l0 n x0 x1 x2) := by
  intro n
  induction n with
  | zero => exact fun _ _ _ => rfl
  | succ n ih =>
    have h0 := ih
    refine ?_
    · intro x0 x1 x2; refine (galoisref01_Compare.b0_eq (evRun ctx (galoisref01_Compare.orc ) galoisref01_Compare.note Tryz.f182 2 galoisref01_Compare.κ n) x0 x1 x2).trans ?_
      rfl
theorem galoisref01_Compare.fn_eq (k : Nat) (a0 : ByteArray) (a1 : ByteArray) : evFunc ctx (galoisref01_Compare.orc ) k galoisref01_Compare.note Tryz.f182 [.data .str a0, .data .str a1] galoisref01_Compare.κ = galoisref01_Compare k a0 a1 := by
  refine (galoisref01_Compare.top_eq (evRun ctx (galoisref01_Compare.orc ) galoisref01_Compare.note Tryz.f182 2 galoisref01_Compare.κ k) a0 a1).trans ?_
  have h0 := galoisref01_Compare.run k
  simp only [h0]
  rfl
theorem galoisref01_Compare.sound {β : Type} (k : Nat) : FunOK Tryz.prog ctx 182 (galoisref01_Compare.C k : Fun β) := by
  intro xs κ r h
  rcases xs with _ | ⟨a0, _ | ⟨a1, _ | ⟨x', l'⟩⟩⟩
  · exact no h
  · exact no h
  · obtain ⟨x0, rfl, h1⟩ := A.un_some h
    obtain ⟨x1, rfl, h2⟩ := A.un_some h1
    obtain ⟨res, hr, hf⟩ := bnd h2
    refine ⟨[.data (.int .i64) res], fun_ok' ctx_ok mixed_ok (f := 182) (fn := Tryz.f182) (n := galoisref01_Compare.note) (by kernel_rfl) (by kernel_rfl) (orc_sound (orc_nil)) ((galoisref01_Compare.fn_eq k x0 x1).trans hr) ?_, hf⟩
    intro rs' h
    rcases rs' with _ | ⟨r0, _ | ⟨x', l'⟩⟩
    · exact no h
    · obtain ⟨y0, rfl, h0⟩ := R.un_some h
      obtain rfl := inj h0
      rfl
    · exact no h
  · exact no h
theorem galoisref02_Compare.eq0 (k : Nat) (L : Labels (Int)) (a0 : Bool × ByteArray) (a1 : Bool × ByteArray) : evTop ctx (galoisref02_Compare.orc k) L galoisref02_Compare.note Tryz.f138 [.data (.agg (.pair .bool .str)) a0, .data (.agg (.pair .bool .str)) a1] galoisref02_Compare.κ = galoisref02_Compare k a0 a1 := by
  kernel_rfl
theorem galoisref02_Compare.fn_eq (k : Nat) (a0 : Bool × ByteArray) (a1 : Bool × ByteArray) : evFunc ctx (galoisref02_Compare.orc k) k galoisref02_Compare.note Tryz.f138 [.data (.agg (.pair .bool .str)) a0, .data (.agg (.pair .bool .str)) a1] galoisref02_Compare.κ = galoisref02_Compare k a0 a1 :=
  galoisref02_Compare.eq0 k _ a0 a1
theorem galoisref02_Compare.sound {β : Type} (k : Nat) : FunOK Tryz.prog ctx 138 (galoisref02_Compare.C k : Fun β) := by
  intro xs κ r h
  rcases xs with _ | ⟨a0, _ | ⟨a1, _ | ⟨x', l'⟩⟩⟩
  · exact no h
  · exact no h
  · obtain ⟨x0, rfl, h1⟩ := A.un_some h
    obtain ⟨x1, rfl, h2⟩ := A.un_some h1
    obtain ⟨res, hr, hf⟩ := bnd h2
    refine ⟨[.data (.int .i64) res], fun_ok' ctx_ok mixed_ok (f := 138) (fn := Tryz.f138) (n := galoisref02_Compare.note) (by kernel_rfl) (by kernel_rfl) (orc_sound (orc_cons (galoisref02_Sign.sound) (orc_cons (galoisref01_Compare.sound k) (orc_nil)))) ((galoisref02_Compare.fn_eq k x0 x1).trans hr) ?_, hf⟩
    intro rs' h
    rcases rs' with _ | ⟨r0, _ | ⟨x', l'⟩⟩
    · exact no h
    · obtain ⟨y0, rfl, h0⟩ := R.un_some h
      obtain rfl := inj h0
      rfl
    · exact no h
  · exact no h
theorem galoisref03_Compare.eq0 (k : Nat) (L : Labels (Int)) (a0 : (Bool × ByteArray) × ByteArray) (a1 : (Bool × ByteArray) × ByteArray) : evTop ctx (galoisref03_Compare.orc k) L galoisref03_Compare.note Tryz.f58 [.data (.agg (.pair (.agg (.pair .bool .str)) .str)) a0, .data (.agg (.pair (.agg (.pair .bool .str)) .str)) a1] galoisref03_Compare.κ = galoisref03_Compare k a0 a1 := by
  kernel_rfl
theorem galoisref03_Compare.fn_eq (k : Nat) (a0 : (Bool × ByteArray) × ByteArray) (a1 : (Bool × ByteArray) × ByteArray) : evFunc ctx (galoisref03_Compare.orc k) k galoisref03_Compare.note Tryz.f58 [.data (.agg (.pair (.agg (.pair .bool .str)) .str)) a0, .data (.agg (.pair (.agg (.pair .bool .str)) .str)) a1] galoisref03_Compare.κ = galoisref03_Compare k a0 a1 :=
  galoisref03_Compare.eq0 k _ a0 a1
theorem galoisref03_Compare.sound {β : Type} (k : Nat) : FunOK Tryz.prog ctx 58 (galoisref03_Compare.C k : Fun β) := by
  intro xs κ r h
  rcases xs with _ | ⟨a0, _ | ⟨a1, _ | ⟨x', l'⟩⟩⟩
  · exact no h
  · exact no h
  · obtain ⟨x0, rfl, h1⟩ := A.un_some h
    obtain ⟨x1, rfl, h2⟩ := A.un_some h1
    obtain ⟨res, hr, hf⟩ := bnd h2
    refine ⟨[.data (.int .i64) res], fun_ok' ctx_ok mixed_ok (f := 58) (fn := Tryz.f58) (n := galoisref03_Compare.note) (by kernel_rfl) (by kernel_rfl) (orc_sound (orc_cons (galoisref03_denominator.sound) (orc_cons (galoisref02_Mul.sound k) (orc_cons (galoisref02_Compare.sound k) (orc_nil))))) ((galoisref03_Compare.fn_eq k x0 x1).trans hr) ?_, hf⟩
    intro rs' h
    rcases rs' with _ | ⟨r0, _ | ⟨x', l'⟩⟩
    · exact no h
    · obtain ⟨y0, rfl, h0⟩ := R.un_some h
      obtain rfl := inj h0
      rfl
    · exact no h
  · exact no h
theorem galoisref19_Check.top_eq (k : Nat) (L : Labels (Int)) (a0 : ((Bool × ByteArray) × ByteArray) × (Bool × ByteArray) × ByteArray) : evTop ctx (galoisref19_Check.orc k) L galoisref19_Check.note Tryz.f14 [.data (.agg (.pair (.agg (.pair (.agg (.pair .bool .str)) .str)) (.agg (.pair (.agg (.pair .bool .str)) .str)))) a0] galoisref19_Check.κ = galoisref19_Check.top k (fun x0 x1 => L 0 (mkE 32 0 [(1, .ptr 1 (.agg (.pair (.agg (.pair (.agg (.pair .bool .str)) .str)) (.agg (.pair (.agg (.pair .bool .str)) .str)))) []), (25, .data .bool x0)]) (ofList [.dead, .var true (.agg (.pair (.agg (.pair (.agg (.pair .bool .str)) .str)) (.agg (.pair (.agg (.pair .bool .str)) .str)))) (.data (.agg (.pair (.agg (.pair (.agg (.pair .bool .str)) .str)) (.agg (.pair (.agg (.pair .bool .str)) .str)))) x1)]) 2) a0 := by
  kernel_rfl
theorem galoisref19_Check.b0_eq (k : Nat) (L : Labels (Int)) (x0 : Bool) (x1 : ((Bool × ByteArray) × ByteArray) × (Bool × ByteArray) × ByteArray) : evLab ctx (galoisref19_Check.orc k) L galoisref19_Check.note Tryz.f14 1 galoisref19_Check.κ 0 (mkE 32 0 [(1, .ptr 1 (.agg (.pair (.agg (.pair (.agg (.pair .bool .str)) .str)) (.agg (.pair (.agg (.pair .bool .str)) .str)))) []), (25, .data .bool x0)]) (ofList [.dead, .var true (.agg (.pair (.agg (.pair (.agg (.pair .bool .str)) .str)) (.agg (.pair (.agg (.pair .bool .str)) .str)))) (.data (.agg (.pair (.agg (.pair (.agg (.pair .bool .str)) .str)) (.agg (.pair (.agg (.pair .bool .str)) .str)))) x1)]) 2 = galoisref19_Check.b0 k x0 x1 := by
  kernel_rfl
theorem galoisref19_Check.run (k : Nat) : ∀ n : Nat, (∀ (x0 : Bool) (x1 : ((Bool × ByteArray) × ByteArray) × (Bool × ByteArray) × ByteArray), evRun ctx (galoisref19_Check.orc k) galoisref19_Check.note Tryz.f14 1 galoisref19_Check.κ n 0 (mkE 32 0 [(1, .ptr 1 (.agg (.pair (.agg (.pair (.agg (.pair .bool .str)) .str)) (.agg (.pair (.agg (.pair .bool .str)) .str)))) []), (25, .data .bool x0)]) (ofList [.dead, .var true (.agg (.pair (.agg (.pair (.agg (.pair .bool .str)) .str)) (.agg (.pair (.agg (.pair .bool .str)) .str)))) (.data (.agg (.pair (.agg (.pair (.agg (.pair .bool .str)) .str)) (.agg (.pair (.agg (.pair .bool .str)) .str)))) x1)]) 2 = galoisref19_Check.l0 k n x0 x1) := by
  intro n
  induction n with
  | zero => exact fun _ _ => rfl
  | succ n ih =>
    have h0 := ih
    refine ?_
    · intro x0 x1; refine (galoisref19_Check.b0_eq k (evRun ctx (galoisref19_Check.orc k) galoisref19_Check.note Tryz.f14 1 galoisref19_Check.κ n) x0 x1).trans ?_
      rfl
theorem galoisref19_Check.fn_eq (k : Nat) (a0 : ((Bool × ByteArray) × ByteArray) × (Bool × ByteArray) × ByteArray) : evFunc ctx (galoisref19_Check.orc k) k galoisref19_Check.note Tryz.f14 [.data (.agg (.pair (.agg (.pair (.agg (.pair .bool .str)) .str)) (.agg (.pair (.agg (.pair .bool .str)) .str)))) a0] galoisref19_Check.κ = galoisref19_Check k a0 := by
  refine (galoisref19_Check.top_eq k (evRun ctx (galoisref19_Check.orc k) galoisref19_Check.note Tryz.f14 1 galoisref19_Check.κ k) a0).trans ?_
  have h0 := galoisref19_Check.run k k
  simp only [h0]
  rfl
theorem galoisref19_Check.sound {β : Type} (k : Nat) : FunOK Tryz.prog ctx 14 (galoisref19_Check.C k : Fun β) := by
  intro xs κ r h
  rcases xs with _ | ⟨a0, _ | ⟨x', l'⟩⟩
  · exact no h
  · obtain ⟨x0, rfl, h1⟩ := A.un_some h
    obtain ⟨res, hr, hf⟩ := bnd h1
    refine ⟨[.data (.int .i64) res], fun_ok' ctx_ok mixed_ok (f := 14) (fn := Tryz.f14) (n := galoisref19_Check.note) (by kernel_rfl) (by kernel_rfl) (orc_sound (orc_cons (galoisref03_Check.sound k) (orc_cons (galoisref19_Dyadic.sound k) (orc_cons (galoisref03_Compare.sound k) (orc_nil))))) ((galoisref19_Check.fn_eq k x0).trans hr) ?_, hf⟩
    intro rs' h
    rcases rs' with _ | ⟨r0, _ | ⟨x', l'⟩⟩
    · exact no h
    · obtain ⟨y0, rfl, h0⟩ := R.un_some h
      obtain rfl := inj h0
      rfl
    · exact no h
  · exact no h
theorem galoisref19_CheckBox.eq0 (k : Nat) (L : Labels (Int)) (a0 : (((Bool × ByteArray) × ByteArray) × (Bool × ByteArray) × ByteArray) × ((Bool × ByteArray) × ByteArray) × (Bool × ByteArray) × ByteArray) : evTop ctx (galoisref19_CheckBox.orc k) L galoisref19_CheckBox.note Tryz.f16 [.data (.agg (.pair (.agg (.pair (.agg (.pair (.agg (.pair .bool .str)) .str)) (.agg (.pair (.agg (.pair .bool .str)) .str)))) (.agg (.pair (.agg (.pair (.agg (.pair .bool .str)) .str)) (.agg (.pair (.agg (.pair .bool .str)) .str)))))) a0] galoisref19_CheckBox.κ = galoisref19_CheckBox k a0 := by
  kernel_rfl
theorem galoisref19_CheckBox.fn_eq (k : Nat) (a0 : (((Bool × ByteArray) × ByteArray) × (Bool × ByteArray) × ByteArray) × ((Bool × ByteArray) × ByteArray) × (Bool × ByteArray) × ByteArray) : evFunc ctx (galoisref19_CheckBox.orc k) k galoisref19_CheckBox.note Tryz.f16 [.data (.agg (.pair (.agg (.pair (.agg (.pair (.agg (.pair .bool .str)) .str)) (.agg (.pair (.agg (.pair .bool .str)) .str)))) (.agg (.pair (.agg (.pair (.agg (.pair .bool .str)) .str)) (.agg (.pair (.agg (.pair .bool .str)) .str)))))) a0] galoisref19_CheckBox.κ = galoisref19_CheckBox k a0 :=
  galoisref19_CheckBox.eq0 k _ a0
theorem galoisref19_CheckBox.sound {β : Type} (k : Nat) : FunOK Tryz.prog ctx 16 (galoisref19_CheckBox.C k : Fun β) := by
  intro xs κ r h
  rcases xs with _ | ⟨a0, _ | ⟨x', l'⟩⟩
  · exact no h
  · obtain ⟨x0, rfl, h1⟩ := A.un_some h
    obtain ⟨res, hr, hf⟩ := bnd h1
    refine ⟨[.data (.int .i64) res], fun_ok' ctx_ok mixed_ok (f := 16) (fn := Tryz.f16) (n := galoisref19_CheckBox.note) (by kernel_rfl) (by kernel_rfl) (orc_sound (orc_cons (galoisref19_Check.sound k) (orc_nil))) ((galoisref19_CheckBox.fn_eq k x0).trans hr) ?_, hf⟩
    intro rs' h
    rcases rs' with _ | ⟨r0, _ | ⟨x', l'⟩⟩
    · exact no h
    · obtain ⟨y0, rfl, h0⟩ := R.un_some h
      obtain rfl := inj h0
      rfl
    · exact no h
  · exact no h
theorem galoislaw19_EnclosureChecks.eq0 (k : Nat) (L : Labels (Bool)) (a0 : ((Bool × ByteArray) × ByteArray) × (Bool × ByteArray) × ByteArray) (a1 : ((Bool × ByteArray) × ByteArray) × (Bool × ByteArray) × ByteArray) : evTop ctx (galoislaw19_EnclosureChecks.orc k) L galoislaw19_EnclosureChecks.note Tryz.f3 [.data (.agg (.pair (.agg (.pair (.agg (.pair .bool .str)) .str)) (.agg (.pair (.agg (.pair .bool .str)) .str)))) a0, .data (.agg (.pair (.agg (.pair (.agg (.pair .bool .str)) .str)) (.agg (.pair (.agg (.pair .bool .str)) .str)))) a1] galoislaw19_EnclosureChecks.κ = galoislaw19_EnclosureChecks k a0 a1 := by
  kernel_rfl
theorem galoislaw19_EnclosureChecks.fn_eq (k : Nat) (a0 : ((Bool × ByteArray) × ByteArray) × (Bool × ByteArray) × ByteArray) (a1 : ((Bool × ByteArray) × ByteArray) × (Bool × ByteArray) × ByteArray) : evFunc ctx (galoislaw19_EnclosureChecks.orc k) k galoislaw19_EnclosureChecks.note Tryz.f3 [.data (.agg (.pair (.agg (.pair (.agg (.pair .bool .str)) .str)) (.agg (.pair (.agg (.pair .bool .str)) .str)))) a0, .data (.agg (.pair (.agg (.pair (.agg (.pair .bool .str)) .str)) (.agg (.pair (.agg (.pair .bool .str)) .str)))) a1] galoislaw19_EnclosureChecks.κ = galoislaw19_EnclosureChecks k a0 a1 :=
  galoislaw19_EnclosureChecks.eq0 k _ a0 a1
theorem galoislaw19_EnclosureChecks.sound {β : Type} (k : Nat) : FunOK Tryz.prog ctx 3 (galoislaw19_EnclosureChecks.C k : Fun β) := by
  intro xs κ r h
  rcases xs with _ | ⟨a0, _ | ⟨a1, _ | ⟨x', l'⟩⟩⟩
  · exact no h
  · exact no h
  · obtain ⟨x0, rfl, h1⟩ := A.un_some h
    obtain ⟨x1, rfl, h2⟩ := A.un_some h1
    obtain ⟨res, hr, hf⟩ := bnd h2
    refine ⟨[.data .bool res], fun_ok' ctx_ok mixed_ok (f := 3) (fn := Tryz.f3) (n := galoislaw19_EnclosureChecks.note) (by kernel_rfl) (by kernel_rfl) (orc_sound (orc_cons (enclosure_Check.sound k) (orc_cons (galoisref19_Check.sound k) (orc_cons (enclosure_CheckBox.sound k) (orc_cons (galoisref19_CheckBox.sound k) (orc_cons (awakeT.sound) (orc_nil))))))) ((galoislaw19_EnclosureChecks.fn_eq k x0 x1).trans hr) ?_, hf⟩
    intro rs' h
    rcases rs' with _ | ⟨r0, _ | ⟨x', l'⟩⟩
    · exact no h
    · obtain ⟨y0, rfl, h0⟩ := R.un_some h
      obtain rfl := inj h0
      rfl
    · exact no h
  · exact no h
end Go.Proofs.YthghchjbomlpfaaGreat.Ev

/- A law: its arguments as a start reads them, and its call. -/
namespace Go.Proofs.YthghchjbomlpfaaGreat.Ev
open Go.ChangeShapes Go.WideShapes Go.ChangeAt Go.RowKit
set_option linter.unusedVariables false

section
variable {P : Program} {c : Ctx} {H : Type} {enc : TypeId × Value → H} {W : World}

theorem open_arg {t : Ty} {T : TypeId} {base : Nat} {v : Value} {d : DataW H} {ps : List MemPlace} (hT : TyOK P t T) (ho : opn t = true) (hv : Value.okWide P W .any base T v)
    (h : DataW.Trod enc P W 0 (fun _ => true) true T v d ps) (hw : (d.weights P T).all (· ≤ reachBytes) = true) : ∃ x : t.den, ARel W (okW W) (.data t x) v ∧ Fit t x := by
  obtain ⟨fuel, h⟩ := h
  obtain ⟨x, h1, h2⟩ := open_rel (x := (d, ps)) hT ho h hw
  refine ⟨x, .data ⟨v.cells.toList, h1, ?_⟩, h2⟩
  cases t with
  | bool =>
    simp only [TyOK] at hT
    obtain ⟨b, rfl⟩ := okWide_bool hT.1 hv
    rfl
  | int k =>
    simp only [TyOK] at hT
    obtain ⟨b, rfl⟩ := okWide_int hT.1 hv
    rfl
  | str =>
    simp only [TyOK] at hT
    obtain ⟨b, rfl⟩ := okWide_string hT.1 hv
    rfl
  | unit => simp [TyOK] at hT
  | pair a b => simp [TyOK] at hT
  | agg u =>
    simp only [TyOK] at hT
    obtain ⟨fs, hu, _⟩ := hT
    obtain ⟨cs, rfl, _⟩ := okWide_struct hu hv
    simp [toVal, aggT, Value.cells]
  | arr n e =>
    simp only [TyOK] at hT
    obtain ⟨E, hu, _⟩ := hT
    simp only [Value.okWide, hu] at hv
    obtain ⟨cs, rfl, _⟩ := hv
    simp [toVal, aggT, Value.cells]
  | slice e =>
    simp only [TyOK] at hT
    obtain ⟨E, hu, _⟩ := hT
    obtain ⟨a, l, k, rfl⟩ := okWide_slice hu hv
    rfl

theorem sized_arg {ts : List TypeId} {ds : List (DataW H)} (h : (DataW.weightsEach P ts ds).all (· ≤ reachBytes) = true) {j : Nat} {t : TypeId} {d : DataW H} (ht : ts[j]? = some t) (hd : ds[j]? = some d) :
    (d.weights P t).all (· ≤ reachBytes) = true := by
  rw [List.all_eq_true] at h ⊢
  exact fun n hn => h n (DataW.weights_mem_each ht hd n hn)

/-- What a law answers. -/
def lawK : List R → Option Bool := fun rs => match rs with
  | [r] => (r.un .bool).bind some
  | _ => none

theorem lawK_inv {rs : List R} (h : lawK rs = some true) : rs = [.data .bool true] := by
  unfold lawK at h
  split at h
  · obtain ⟨x, rfl, h1⟩ := R.un_some h
    obtain rfl := inj h1
    rfl
  · exact no h

theorem A.un_data {t : Ty} (x : t.den) : (A.data t x).un t = some x := by
  simp [A.un, castD]

theorem lookD {vs : List Value} {xs : List A} (h : ARels W (okW W) xs vs) : ∀ (i : Nat) a v, xs[i]? = some a → vs[i]? = some v → ARel W (okW W) a v := by
  induction xs generalizing vs with
  | nil => intro i a v hi; simp at hi
  | cons x xs ih =>
    cases h with
    | cons h1 h2 =>
      intro i a v hi hv
      cases i with
      | zero =>
        simp only [List.getElem?_cons_zero, Option.some.injEq] at hi hv
        subst hi; subst hv; exact h1
      | succ i => exact ih h2 i a v (by simpa using hi) (by simpa using hv)
theorem ARels.len {xs : List A} {vs : List Value} (h : ARels W (okW W) xs vs) : vs.length = xs.length := by
  induction xs generalizing vs with
  | nil => cases h; rfl
  | cons x xs ih => cases h with | cons h1 h2 => simp [ih h2]

/-- The call of a law whose reading says true. -/
theorem law_calls {f : FuncId} {F : Fun Bool} (hF : FunOK P c f F) (hm : (look c.muts f).getD [] = []) (hrun : ∀ args w, (callFunc f args).run P w = .ok (.enter f args) w) {xs : List A} {vs : List Value} (hA : ARels W (okW W) xs vs)
    (h : F xs lawK = some true) : Calls P f vs.toArray W fun e w' => e = .returned (.bool true) ∧ Below W.heap.size W w' := by
  obtain ⟨rs, h1, h2⟩ := hF _ _ _ h
  obtain rfl := lawK_inv h2
  rw [hm] at h1
  have h3 := h1 W (okW W) vs ⟨hA.len, by simp, fun i a v _ => lookD hA i a v, by simp, by simp, fun b hb => hb⟩
  have fin : ∀ v w', (∃ rs1 us rvs ok', [R.data .bool true] = rs1 ++ us ∧ (∀ r ∈ rs1, isUpd r = false) ∧ v = pack rvs ∧ Post W (okW W) [] xs vs rs1 us rvs w' ok') → v = .bool true ∧ Below W.heap.size W w' := by
    rintro v w' ⟨rs1, us, rvs, ok', he, hu, rfl, hp⟩
    have hus : us = [] := by
      have := hp.upd
      cases this
      rfl
    subst hus
    simp only [List.append_nil] at he
    subst he
    have hres := hp.res
    cases hres with
    | cons hr hres =>
      cases hres
      obtain ⟨cs, g1, rfl⟩ := hr
      simp only [DRel] at g1
      subst g1
      refine ⟨rfl, hp.fr.os, hp.fr.tape, hp.fr.output, hp.fr.size, fun k hk => hp.fr.block k hk ?_⟩
      rintro ⟨i, v, hi, _⟩
      simp at hi
  rcases h3 with ⟨_, h3⟩ | ⟨v, w', h3, _⟩
  · refine h3.mono fun e w' he => ?_
    cases e with
    | returned v =>
      obtain ⟨rfl, hb⟩ := fin v w' he
      exact ⟨rfl, hb⟩
    | _ => exact he.elim
  · rw [hrun] at h3; simp at h3
end
end Go.Proofs.YthghchjbomlpfaaGreat.Ev

/- The row of the law EnclosureChecks. -/
namespace Go.Proofs.YthghchjbomlpfaaGreat.enclosureChecks
open Go.ChangeShapes Go.WideShapes Go.ChangeAt Go.RowKit Go.Proofs.YthghchjbomlpfaaGreat.Ev
set_option linter.unusedVariables false
set_option maxRecDepth 100000
theorem own : ownKnob Tryz.prog.godebug = none := by kernel_rfl
theorem laidOut : laidOutB Tryz.prog = true := by kernel_rfl
/-- What the law says of the functions that its code computes. -/
def Pure : Prop := ∀ x0 : ((Bool × ByteArray) × ByteArray) × (Bool × ByteArray) × ByteArray, ∀ x1 : ((Bool × ByteArray) × ByteArray) × (Bool × ByteArray) × ByteArray, Fit (.agg (.pair (.agg (.pair (.agg (.pair .bool .str)) .str)) (.agg (.pair (.agg (.pair .bool .str)) .str)))) x0 → Fit (.agg (.pair (.agg (.pair (.agg (.pair .bool .str)) .str)) (.agg (.pair (.agg (.pair .bool .str)) .str)))) x1 →  ∃ k : Nat, galoislaw19_EnclosureChecks k x0 x1 = some true
theorem run (args : Array Value) (w : World) : (callFunc 3 args).run Tryz.prog w = .ok (.enter 3 args) w := by
  obtain ⟨b, hb⟩ : ∃ b, Tryz.f3.body = some b := ⟨_, rfl⟩
  exact run_enter (fn := Tryz.f3) (by kernel_rfl) hb (by kernel_rfl) args w
theorem lifted (hP : Pure) (os : Os) (started : os.Started) (H : Type) (enc : TypeId × Value → H) :
    ReturnsInHanded {} Tryz.checked os 3 .any (Rows.enclosureChecksSpec.pre6 enc Tryz.prog Tryz.f3 Rows.enclosureChecksRow.domain false) (Rows.enclosureChecksSpec.post enc Tryz.prog Tryz.f3 false true false false) := by
  refine returnsInHanded_of_change_sized (C := Tryz.checked) own started (by kernel_rfl) Tryz.func3
    (ChangeSpec.witness6 (enc := enc) (C := Tryz.checked) false ⟨#[], #[.agg #[.bool false, .string ByteArray.empty, .string ByteArray.empty, .bool false, .string ByteArray.empty, .string ByteArray.empty], .agg #[.bool false, .string ByteArray.empty, .string ByteArray.empty, .bool false, .string ByteArray.empty, .string ByteArray.empty]], []⟩ 8 (by kernel_rfl) (by kernel_rfl) (by kernel_rfl) (by kernel_rfl)) ?_
  intro W base args ds gs before hval0 hW hcnd hsz0 _
  have hsz : (DataW.weightsEach Tryz.prog (Tryz.f3.params.toList ++ Rows.enclosureChecksSpec.plain.varTypes Tryz.prog) (ds ++ gs)).all (· ≤ reachBytes) = true := hsz0
  have hval : ∀ (j : Nat) t v, Tryz.f3.params[j]? = some t → args[j]? = some v → Value.okWide Tryz.prog W .any base t v := hval0
  have hW' := hW
  obtain ⟨p, q, hA0, hV, rfl, hfz, hnd⟩ := hW
  have hA : DataW.TrodAll enc Tryz.prog W 0 (fun _ => true) true Tryz.f3.params.toList args.toList ds p := hA0
  rw [Tryz.params3] at hA hval hsz
  obtain ⟨v0, vs0, d0, ds0, p0, q0, hargs, rfl, rfl, h0, r0⟩ := trodAll_cons hA
  obtain ⟨v1, vs1, d1, ds1, p1, q1, rfl, rfl, rfl, h1, r1⟩ := trodAll_cons r0
  obtain ⟨rfl, rfl, rfl⟩ := trodAll_nil r1
  obtain rfl : args = #[v0, v1] := by cases args; simp_all
  obtain ⟨rfl, rfl⟩ := trodVars_none hV
  have lt0 : ∀ x ∈ p0, x.block < W.heap.size := by obtain ⟨m, hm⟩ := h0; exact DataW.trod_lt m _ _ _ hm
  obtain ⟨x0, a0, f0⟩ := open_arg (t := (.agg (.pair (.agg (.pair (.agg (.pair .bool .str)) .str)) (.agg (.pair (.agg (.pair .bool .str)) .str))))) (T := 28) (ctx_ok.tab 28 _ 0 rfl) rfl (hval 0 28 v0 rfl rfl) h0 (sized_arg hsz (j := 0) (t := 28) rfl rfl)
  have lt1 : ∀ x ∈ p1, x.block < W.heap.size := by obtain ⟨m, hm⟩ := h1; exact DataW.trod_lt m _ _ _ hm
  obtain ⟨x1, a1, f1⟩ := open_arg (t := (.agg (.pair (.agg (.pair (.agg (.pair .bool .str)) .str)) (.agg (.pair (.agg (.pair .bool .str)) .str))))) (T := 28) (ctx_ok.tab 28 _ 0 rfl) rfl (hval 1 28 v1 rfl rfl) h1 (sized_arg hsz (j := 1) (t := 28) rfl rfl)
  obtain ⟨k, hk⟩ := hP x0 x1 f0 f1
  have hC : galoislaw19_EnclosureChecks.C k [.data (.agg (.pair (.agg (.pair (.agg (.pair .bool .str)) .str)) (.agg (.pair (.agg (.pair .bool .str)) .str)))) x0, .data (.agg (.pair (.agg (.pair (.agg (.pair .bool .str)) .str)) (.agg (.pair (.agg (.pair .bool .str)) .str)))) x1] lawK = some true := by
    simp only [galoislaw19_EnclosureChecks.C, A.un_data, Option.bind_some, hk]
    rfl
  have hw := law_calls (vs := [v0, v1]) (galoislaw19_EnclosureChecks.sound k ) rfl run (.cons a0 (.cons a1 .nil)) hC
  clear hA0 hval0 hsz0 hsz
  refine hw.mono fun e W' ⟨he, bel⟩ => ?_
  subst he
  exact ⟨_, rfl, _, _, _, [], _, [], hW', trodAll_mk1 (shut_bool Tryz.underlying4 _), (trodAll_cons_mk (Below.trod laidOut (by kernel_rfl) (of_decide_eq_true (by kernel_rfl)) h0 bel lt0) (trodAll_cons_mk (Below.trod laidOut (by kernel_rfl) (of_decide_eq_true (by kernel_rfl)) h1 bel lt1) trodAll_mk0)), rfl, bel.frame _, fun h => by cases h⟩
theorem over (hP : Pure) : Rows.enclosureChecksRow.holds Tryz.pinned (OpenSpec.ofChange Rows.enclosureChecksSpec) :=
  OpenClaim.holds_of_wide 3 Tryz.f3 rfl rfl rfl rfl rfl rfl rfl ⟨rfl, rfl, rfl, rfl, rfl⟩ rfl rfl rfl rfl rfl (by kernel_rfl) Tryz.func3 (by kernel_rfl)
    (of_decide_eq_true (by kernel_rfl)) (by unfold Func.isWrapper; first | (rw [if_pos (by decide +kernel)]; kernel_rfl) | (rw [if_neg (by decide +kernel)]; exact ⟨rfl, rfl⟩))
    (fun os started H enc _ => lifted hP os started H enc)
theorem said (hP : Pure) : Rows.EnclosureChecksSaid := over hP
end Go.Proofs.YthghchjbomlpfaaGreat.enclosureChecks

/- EnclosureChecks: the program's checks of intervals and boxes answer what the reference answers, for every interval and box. -/
namespace Go.Proofs.YthghchjbomlpfaaGreat.enclosureChecks
open Go.Proofs.YthghchjbomlpfaaGreat.Ev
set_option linter.unusedVariables false

theorem pure : Pure := fun x0 x1 _ _ => by
  have h : Evt (fun k => galoislaw19_EnclosureChecks k x0 x1) true := by
    unfold galoislaw19_EnclosureChecks
    refine Evt.bind (g := fun k t1 => (galoisref19_Check k x0).bind fun t2 => bif decide (t1 = t2) then ((enclosure_CheckBox k (x0, x1)).bind fun t3 => (galoisref19_CheckBox k (x0, x1)).bind fun t4 => bif decide (t3 = t4) then ((awakeT).bind fun t5 => some t5) else (some false)) else (some false)) (check_ok x0) ?_
    refine Evt.bind (g := fun k t2 => bif decide (chkE x0 = t2) then ((enclosure_CheckBox k (x0, x1)).bind fun t3 => (galoisref19_CheckBox k (x0, x1)).bind fun t4 => bif decide (t3 = t4) then ((awakeT).bind fun t5 => some t5) else (some false)) else (some false)) (rcheckI_ok x0) ?_
    simp only [decide_true, cond_true]
    refine Evt.bind (g := fun k t3 => (galoisref19_CheckBox k (x0, x1)).bind fun t4 => bif decide (t3 = t4) then ((awakeT).bind fun t5 => some t5) else (some false)) (checkBox_ok x0 x1) ?_
    refine Evt.bind (g := fun k t4 => bif decide (fst2 (chkE x0) (chkE x1) = t4) then ((awakeT).bind fun t5 => some t5) else (some false)) (rcheckBox_ok x0 x1) ?_
    simp only [decide_true, cond_true]
    exact Evt.pure
  obtain ⟨N, h⟩ := h
  exact ⟨N, h N (Nat.le_refl N)⟩
end Go.Proofs.YthghchjbomlpfaaGreat.enclosureChecks
namespace Go.Proofs.YthghchjbomlpfaaGreat
/-- The statement. -/
theorem EnclosureChecksProved : Rows.EnclosureChecksSaid := enclosureChecks.said enclosureChecks.pure
#print axioms EnclosureChecksProved
end Go.Proofs.YthghchjbomlpfaaGreat
