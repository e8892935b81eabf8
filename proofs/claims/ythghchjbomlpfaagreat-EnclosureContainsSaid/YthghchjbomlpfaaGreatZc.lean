/- Part 3 of 6 of a proof: an evaluator of the program's code, its soundness, the code's functions as plain Lean functions, plain mathematics. -/
import Derived.Below
import Derived.Laws.Externs
import Derived.OpenShut
import Derived.ProofKit
import Derived.SizedLaws
import Derived.Test.YthghchjbomlpfaaGreatZb
namespace Go.Proofs.YthghchjbomlpfaaGreat.Ev
set_option linter.unusedVariables false

theorem exists_least {p : Nat → Prop} (h : ∃ n, p n) : ∃ n, p n ∧ ∀ m, m < n → ¬ p m := by
  obtain ⟨n, hn⟩ := h
  induction n using Nat.strongRecOn with
  | _ n ih =>
    by_cases hm : ∃ m, m < n ∧ p m
    · obtain ⟨m, h1, h2⟩ := hm
      exact ih m h1 h2
    · exact ⟨n, hn, fun m h1 h2 => hm ⟨m, h1, h2⟩⟩

open Classical in
theorem loop_nat {P : Program} {c : Code} {Q : Exit → Act → World → Prop} (I : Nat → Act → World → Prop)
    (h : ∀ n a w, I n a w → c.wp P (Exit.then (fun a' w' => ∃ m, m < n ∧ I m a' w') Q) a w) {n : Nat} {a : Act} {w : World} (h0 : I n a w) : (Code.loop c).wp P Q a w := by
  have hl : ∀ a w, (∃ n, I n a w) → ∃ n, I n a w ∧ ∀ m, m < n → ¬ I m a w := fun a w he => exists_least he
  let μ : Act → World → Nat := fun a w => if he : ∃ n, I n a w then Classical.choose (hl a w he) else 0
  have hμ : ∀ a w, (∃ n, I n a w) → I (μ a w) a w ∧ ∀ m, I m a w → μ a w ≤ m := by
    intro a w he
    have := Classical.choose_spec (hl a w he)
    have e : μ a w = Classical.choose (hl a w he) := dif_pos he
    rw [e]
    exact ⟨this.1, fun m hm => Nat.le_of_not_lt fun hlt => this.2 m hlt hm⟩
  refine wp_loop (fun a w => ∃ n, I n a w) μ ⟨n, h0⟩ fun a w he => ?_
  refine wp_mono (h (μ a w) a w (hμ a w he).1) fun e a' w' hq => ?_
  cases e with
  | normal =>
    obtain ⟨m, h1, h2⟩ := hq
    exact ⟨⟨m, h2⟩, Nat.lt_of_le_of_lt ((hμ a' w' ⟨m, h2⟩).2 m h2) h1⟩
  | _ => exact hq

section
variable {P : Program} {c : Ctx} {w0 : World} {B0 : Lim} {np : Nat} {vs : Ag} {β : Type}

def OutRel (w0 : World) (B0 : Lim) (np : Nat) (vs : Ag) (o : Out) (e : Exit) (a : Act) (w : World) : Prop :=
  match o with
  | .norm env hp q => e = .normal ∧ ∃ s, s.w = w ∧ s.h = hp ∧ StA w0 B0 np vs s env a q
  | .exit id env hp q => e = .exit id ∧ ∃ s, s.w = w ∧ s.h = hp ∧ StA w0 B0 np vs s env a q
  | .ret env hp q => e = .ret ∧ ∃ s, s.w = w ∧ s.h = hp ∧ StA w0 B0 np vs s env a q

def QK (w0 : World) (B0 : Lim) (np : Nat) (vs : Ag) (K : Nat → Out → Option β) (r : β) (k : Nat) : Exit → Act → World → Prop := fun e a w => ∃ k', k' ≤ k ∧ ∃ o, OutRel w0 B0 np vs o e a w ∧ K k' o = some r

theorem QK.le {K : Nat → Out → Option β} {r : β} {k k' : Nat} (h : k' ≤ k) {e : Exit} {a : Act} {w : World} (hq : QK w0 B0 np vs K r k' e a w) : QK w0 B0 np vs K r k e a w :=
  let ⟨k2, h1, h2⟩ := hq; ⟨k2, Nat.le_trans h1 h, h2⟩

theorem drawn_H {s : Sg} (hH : HRel w0 B0 s) (d : Nat) : HRel w0 B0 { s with w := { s.w with drawn := d } } := by
  have hE : Ext s { s with w := { s.w with drawn := d } } := ⟨fun _ h => h, fun _ _ => rfl, fun _ _ => rfl, fun _ h => h, fun _ _ _ h => h, fun _ _ _ h => h, fun _ _ _ _ _ h => h⟩
  exact ⟨fun r hr => BRel.ext hE (fun _ _ _ => rfl) (hH.blk r hr), hH.fresh, hH.sep, hH.own, hH.wrs, hH.oks, hH.okd, ⟨hH.fr.os, hH.fr.tape, hH.fr.output, hH.fr.size, hH.fr.block, hH.fr.kind, hH.fr.cell⟩⟩

theorem drawn_E {s : Sg} {env : List V} {a : Act} (hE : ERel s env a) (d : Nat) : ERel { s with w := { s.w with drawn := d } } env a := by
  intro t
  have hx : Ext s { s with w := { s.w with drawn := d } } := ⟨fun _ h => h, fun _ _ => rfl, fun _ _ => rfl, fun _ h => h, fun _ _ _ h => h, fun _ _ _ h => h, fun _ _ _ _ _ h => h⟩
  exact (hE t).ext hx

structure Labs (c : Ctx) (C : Oracle β) (L : Nat → Labels β) (full : Nat → List (Nat × (List V → Heap → Nat → Option β))) : Prop where
  zero : ∀ id env hp q, L 0 id env hp q = none
  succ : ∀ k id env hp q, L (k + 1) id env hp q = match look (full k) id with | some f => f env hp q | none => none

variable {C : Oracle β} {L : Nat → Labels β} {full : Nat → List (Nat × (List V → Heap → Nat → Option β))} {r : β}

theorem lab_run {id k : Nat} {env : List V} {hp : Heap} {q : Nat} {F : Nat → List V → Heap → Nat → Option β} (hL : Labs c C L full) (hlab : ∀ k, look (full k) id = some (F k)) (h : L k id env hp q = some r) : ∃ k', k' < k ∧ F k' env hp q = some r := by
  cases k with
  | zero => rw [hL.zero] at h; simp at h
  | succ k' =>
    rw [hL.succ, hlab k'] at h
    exact ⟨k', Nat.lt_succ_self _, h⟩

theorem atK_ok {K : Nat → Out → Option β} {n : Cert} {k : Nat} {o : Out} {e : Exit} {a : Act} {w : World} (hnp : c.np = np) (hL : Labs c C L full)
    (hlab : ∀ k p, p ∈ here (L k) n (K k) [] → look (full k) p.1 = some p.2) (ho : OutRel w0 B0 np vs o e a w) (h : atK c (L k) n (K k) o = some r) : QK w0 B0 np vs K r k e a w := by
  unfold atK at h
  split at h
  · rename_i id keep co cd n'
    cases o with
    | norm env hp q =>
      obtain ⟨rfl, s, rfl, rfl, hst⟩ := ho
      simp only at h
      obtain ⟨s', env', q', h1, h2, h3⟩ := gc_ok hst hnp h
      obtain ⟨k', h4, h5⟩ := lab_run (F := fun k env hp q => K k (.norm env hp q)) hL (fun k => hlab k (id, fun env hp q => K k (.norm env hp q)) (by simp [here])) h3
      exact ⟨k', Nat.le_of_lt h4, .norm env' s'.h q', ⟨rfl, s', h2, rfl, h1⟩, h5⟩
    | exit id env hp q => exact ⟨k, Nat.le_refl _, _, ho, h⟩
    | ret env hp q => exact ⟨k, Nat.le_refl _, _, ho, h⟩
  · exact ⟨k, Nat.le_refl _, o, ho, h⟩

theorem here_mem {Lk : Labels β} {n : Cert} {κ : Out → Option β} {l : List (Nat × (List V → Heap → Nat → Option β))} {p : Nat × (List V → Heap → Nat → Option β)} : p ∈ here Lk n κ l ↔ p ∈ here Lk n κ [] ∨ p ∈ l := by
  unfold here
  split
  · simp
  · simp

theorem code_ok {Sem : Nat → List A → List R → Prop} (hC : Sound Sem C) (hS : ∀ g xs rs, Sem g xs rs → CallOK P ((look c.muts g).getD []) g xs rs) (hc : CtxOK P c) (hm : P.follows .mixedOrders = true) (hnp : c.np = np) (hL : Labs c C L full) :
    ∀ (code : Code) (n : Cert) (K : Nat → Out → Option β), (∀ k p, p ∈ labels c C (L k) code n (K k) → look (full k) p.1 = some p.2) → ∀ (k : Nat) (s : Sg) (env : List V) (a : Act) (q : Nat),
      StA w0 B0 np vs s env a q → evCode c C (L k) code n env s.h q (K k) = some r → code.wp P (QK w0 B0 np vs K r k) a s.w := by
  intro code
  induction code with
  | skip =>
    intro n K hlab k s env a q hst h
    exact wp_skip ⟨k, Nat.le_refl _, .norm env s.h q, ⟨rfl, s, rfl, rfl, hst⟩, h⟩
  | exit id =>
    intro n K hlab k s env a q hst h
    exact wp_exit ⟨k, Nat.le_refl _, .exit id env s.h q, ⟨rfl, s, rfl, rfl, hst⟩, h⟩
  | ret =>
    intro n K hlab k s env a q hst h
    exact wp_ret ⟨k, Nat.le_refl _, .ret env s.h q, ⟨rfl, s, rfl, rfl, hst⟩, h⟩
  | region id ops dr =>
    intro n K hlab k s env a q hst h
    have hhere : ∀ k p, p ∈ here (L k) n (K k) [] → look (full k) p.1 = some p.2 := fun k p hp => hlab k p (by simpa [labels] using hp)
    cases dr with
    | false =>
      simp only [evCode] at h
      refine wp_region ?_
      have hr : List.range ops.size = List.range' 0 ops.toList.length := by rw [List.range_eq_range']; simp
      rw [hr]
      refine ops_plain hC hS hc ops.toList 0 q s env a (by simp) hst h fun s' env' a' h1 h2 => ?_
      refine atK_ok hnp hL hhere (o := .norm env' s'.h (q + 4 * ops.size)) ⟨rfl, s', rfl, rfl, by simpa using h1⟩ h2
    | true =>
      simp only [evCode, fN_eq] at h
      cases hreg : (regionOk c ops.toList env (befs [] ops.toList) 0 ops.toList && edgesOk 0 ops.toList) with
      | false => rw [hreg] at h; simp at h
      | true =>
        rw [hreg] at h
        simp only [cond_true] at h
        simp only [Bool.and_eq_true] at hreg
        obtain ⟨out, hrun, hout⟩ := run_of (base := q) (all := ops.toList) (bs := befs [] ops.toList) hC ops.toList 0 env s.h (by simp) (by simpa using h)
        refine wp_region_any hm ?_
        refine any_run (s := { s with w := { s.w with drawn := s.w.drawn + 1 } }) hS hc rfl hreg.2 hreg.1 (out := out) (base := q) (fun s' a' h1 h2 => ?_) ops.size _ (List.range' 0 ops.toList.length) env a (by simp) (by
          exact List.pairwise_lt_range') (fun k => ?_) (by simp) (fun j hj hl => ?_) (fun _ => rfl) ⟨drawn_H hst.H _, drawn_E hst.E _, hst.len, hst.df, fun k _ r hr => hst.Z r (by unfold slot at hr; omega), fun r hr => hst.Z r (by omega), hst.le, hst.arg, hst.ok0, hst.ah⟩ hrun
        · rw [← h1] at hout
          exact atK_ok hnp hL hhere (o := .norm out.1 s'.h (q + 4 * ops.size)) ⟨rfl, s', rfl, rfl, h2⟩ hout
        · simp only [List.mem_range'_1, Array.length_toList, Nat.zero_le, Nat.zero_add, true_and]
          constructor
          · intro hk; exact ⟨hk, by simp [hk]⟩
          · exact fun h => h.1
        · exfalso
          simp [hj] at hl
  | seq x y ihx ihy =>
    intro n K hlab k s env a q hst h
    simp only [evCode] at h
    have hlab1 : ∀ k p, p ∈ here (L k) n (K k) [] → look (full k) p.1 = some p.2 := fun k p hp => hlab k p (by simp only [labels]; rw [here_mem]; exact .inl hp)
    refine wp_seq (wp_mono (ihx n.l (fun k => seqK (fun env hp q => evCode c C (L k) y n.r env hp q (atK c (L k) n (K k))) (K k)) (fun k p hp => hlab k p (by simp only [labels]; rw [here_mem]; exact .inr (List.mem_append_left _ hp))) k s env a q hst h) ?_)
    rintro e a' w' ⟨k', hk', o, ho, hK⟩
    cases o with
    | norm env' hp' q' =>
      obtain ⟨rfl, s', rfl, rfl, hst'⟩ := ho
      simp only [seqK] at hK
      refine wp_mono (ihy n.r (fun k => atK c (L k) n (K k)) (fun k p hp => hlab k p (by simp only [labels]; rw [here_mem]; exact .inr (List.mem_append_right _ hp))) k' s' env' a' q' hst' hK) ?_
      rintro e2 a2 w2 ⟨k2, hk2, o2, ho2, hK2⟩
      exact (atK_ok hnp hL hlab1 ho2 hK2).le (Nat.le_trans hk2 hk')
    | exit id env' hp' q' =>
      obtain rfl := ho.1
      exact ⟨k', hk', _, ho, hK⟩
    | ret env' hp' q' =>
      obtain rfl := ho.1
      exact ⟨k', hk', _, ho, hK⟩
  | cond x y z ihy ihz =>
    intro n K hlab k s env a q hst h
    simp only [evCode] at h
    have hlab1 : ∀ k p, p ∈ here (L k) n (K k) [] → look (full k) p.1 = some p.2 := fun k p hp => hlab k p (by simp only [labels]; rw [here_mem]; exact .inl hp)
    split at h
    · rename_i t hx
      have hv := oper_rel hst.E x
      rw [hx] at hv
      have hb := hv.bool
      have h2 : (bif t then evCode c C (L k) y n.l env s.h q (atK c (L k) n (K k)) else evCode c C (L k) z n.r env s.h q (atK c (L k) n (K k))) = some r := by
        split at h
        · rename_i d
          have hset : env.set d (.data .bool t) = env := by
            have hx' : env.getD d .undef = .data .bool t := hx
            rcases Nat.lt_or_ge d env.length with h' | h'
            · simp only [List.getD, List.getElem?_eq_getElem h', Option.getD_some] at hx'
              rw [← hx', List.set_getElem_self]
            · exact List.set_eq_of_length_le h'
          cases t with
          | true => simp only [cond_true, putL_eq] at h ⊢; rw [hset] at h; exact h
          | false => simp only [cond_false, putL_eq] at h ⊢; rw [hset] at h; exact h
        · exact h
      refine wp_cond hb ?_
      cases t with
      | true =>
        simp only [cond_true] at h2
        refine wp_mono (ihy n.l (fun k => atK c (L k) n (K k)) (fun k p hp => hlab k p (by simp only [labels]; rw [here_mem]; exact .inr (List.mem_append_left _ hp))) k s env a q hst h2) ?_
        rintro e2 a2 w2 ⟨k2, hk2, o2, ho2, hK2⟩
        exact (atK_ok hnp hL hlab1 ho2 hK2).le hk2
      | false =>
        simp only [cond_false] at h2
        refine wp_mono (ihz n.r (fun k => atK c (L k) n (K k)) (fun k p hp => hlab k p (by simp only [labels]; rw [here_mem]; exact .inr (List.mem_append_right _ hp))) k s env a q hst h2) ?_
        rintro e2 a2 w2 ⟨k2, hk2, o2, ho2, hK2⟩
        exact (atK_ok hnp hL hlab1 ho2 hK2).le hk2
    · simp at h
  | block id x ih =>
    intro n K hlab k s env a q hst h
    simp only [evCode] at h
    have hlab1 : ∀ k p, p ∈ here (L k) n (K k) [] → look (full k) p.1 = some p.2 := fun k p hp => hlab k p (by simp only [labels]; rw [here_mem]; exact .inl hp)
    refine wp_block (wp_mono (ih n.l (fun k => blockK id (atK c (L k) n (K k)) (K k)) (fun k p hp => hlab k p (by simp only [labels]; rw [here_mem]; exact .inr hp)) k s env a q hst h) ?_)
    rintro e a' w' ⟨k', hk', o, ho, hK⟩
    cases o with
    | norm env' hp' q' =>
      obtain rfl := ho.1
      simp only [blockK] at hK
      exact (atK_ok hnp hL hlab1 ho hK).le hk'
    | exit id' env' hp' q' =>
      obtain ⟨rfl, s', h1, h2, h3⟩ := ho
      simp only [blockK] at hK
      simp only [Exit.inBlock]
      cases hb : Nat.beq id' id with
      | true =>
        rw [hb] at hK
        rw [if_pos (Nat.eq_of_beq_eq_true hb)]
        exact (atK_ok hnp hL hlab1 (o := .norm env' hp' q') ⟨rfl, s', h1, h2, h3⟩ hK).le hk'
      | false =>
        rw [hb] at hK
        rw [if_neg (by rintro rfl; simp at hb)]
        exact ⟨k', hk', .exit id' env' hp' q', ⟨rfl, s', h1, h2, h3⟩, hK⟩
    | ret env' hp' q' =>
      obtain rfl := ho.1
      exact ⟨k', hk', _, ho, hK⟩
  | loop x ih =>
    intro n K hlab k s env a q hst h
    simp only [evCode] at h
    cases n with
    | lab id keep co cd n' =>
      simp only at h
      have hF : ∀ k, look (full k) id = some (fun env hp q => evCode c C (L k) x (Cert.lab id keep co cd n').l env hp q (seqK (fun env hp _ => gc c keep co cd env hp (L k id)) (K k))) := fun k =>
        hlab k (id, fun env hp q => evCode c C (L k) x (Cert.lab id keep co cd n').l env hp q (seqK (fun env hp _ => gc c keep co cd env hp (L k id)) (K k))) (by simp [labels])
      obtain ⟨s', env', q', h1, h2, h3⟩ := gc_ok hst hnp h
      rw [← h2]
      have hwp : (Code.loop x).wp P (QK w0 B0 np vs K r k) a s'.w := by
        refine loop_nat (I := fun m a w => m ≤ k ∧ ∃ s env q, s.w = w ∧ StA w0 B0 np vs s env a q ∧ L m id env s.h q = some r) ?_ ⟨Nat.le_refl k, s', env', q', rfl, h1, h3⟩
        rintro m a1 w1 ⟨hmk, s1, env1, q1, rfl, hst1, hl1⟩
        obtain ⟨k1, hk1, hev⟩ := lab_run hL hF hl1
        refine wp_mono (ih (Cert.lab id keep co cd n').l (fun k => seqK (fun env hp _ => gc c keep co cd env hp (L k id)) (K k)) (fun k p hp => hlab k p (by simp only [labels]; exact List.mem_cons_of_mem _ hp)) k1 s1 env1 a1 q1 hst1 hev) ?_
        rintro e a2 w2 ⟨k2, hk2, o, ho, hK⟩
        cases o with
        | norm env2 hp2 q2 =>
          obtain ⟨rfl, s2, rfl, rfl, hst2⟩ := ho
          simp only [seqK] at hK
          obtain ⟨s3, env3, q3, g1, g2, g3⟩ := gc_ok hst2 hnp hK
          exact ⟨k2, by omega, by omega, s3, env3, q3, g2, g1, g3⟩
        | exit id' env2 hp2 q2 =>
          obtain rfl := ho.1
          exact ⟨k2, by omega, _, ho, hK⟩
        | ret env2 hp2 q2 =>
          obtain rfl := ho.1
          exact ⟨k2, by omega, _, ho, hK⟩
      exact hwp
    | _ => simp at h
  | _ =>
    intros
    rename_i h
    simp [evCode] at h

end
end Go.Proofs.YthghchjbomlpfaaGreat.Ev

namespace Go.Proofs.YthghchjbomlpfaaGreat.Ev
set_option linter.unusedVariables false

section
variable {P : Program} {c : Ctx} {w0 : World} {B0 : Lim} {np : Nat} {vs : Ag} {β : Type} {s : Sg} {env : List V} {a : Act} {q : Nat}

def resF (tmps : Array Value) : ResultVar → Go.Sem Value
  | .tmp t => pure (tmps.getD t undef)
  | .cell x t => do loadVar t (← asAddr (tmps.getD x undef))

theorem results_eq (fn : Func) (tmps : Array Value) : results fn tmps = (do let vs ← fn.results.mapM (resF tmps); pure (if h : vs.size = 1 then vs[0] else .tuple vs)) := by
  unfold results
  congr 2

theorem resV_rel (hc : CtxOK P c) (hst : StA w0 B0 np vs s env a q) : ∀ {l : List ResultVar} {xs : List V}, resV c env s.h l = some xs → ∃ ws : List Value, (l.mapM (resF a.tmps)).run P s.w = .ok ws s.w ∧ F2 (VRel s) xs ws
  | [], xs, h => by
    simp only [resV, Option.some.injEq] at h
    subst h
    exact ⟨[], by simp, .nil⟩
  | x :: l, xs, h => by
    simp only [resV] at h
    split at h
    · simp at h
    · rename_i v hv
      split at h
      · simp at h
      · rename_i ys hys
        obtain rfl := Option.some.inj h
        obtain ⟨ws, h1, h2⟩ := resV_rel hc hst hys
        cases x with
        | tmp t =>
          simp only [Option.some.injEq] at hv
          subst hv
          refine ⟨a.tmps.getD t undef :: ws, ?_, .cons (hst.E t) h2⟩
          rw [List.mapM_cons]
          simp only [Sem.run_bind, resF, Sem.run_pure, Result.andThen_ok, h1]
        | cell t T =>
          simp only at hv
          split at hv
          · rename_i r u p hx
            have hE := hst.E t
            rw [hx] at hE
            obtain ⟨hZ, b, o1, off, hm, e, hp⟩ := hE
            cases hi : c.is T u with
            | false => simp [hi] at hv
            | true =>
              simp only [hi, cond_true] at hv
              cases hb : s.h r with
              | var w t' y =>
                simp only [hb] at hv
                split at hv
                · rename_i v0 hg
                  cases hk : loadOk c T v0 with
                  | false => simp [hk] at hv
                  | true =>
                    simp only [hk, cond_true, Option.some.injEq] at hv
                    subst hv
                    have hB := hst.H.blk r hZ
                    rw [hb] at hB hp
                    obtain ⟨b', o', v', e1, e2, e3⟩ := load_ptr hc hB hp hi hg hk
                    rw [hm] at e1
                    simp only [Value.pointer.injEq, Option.some.injEq, Addr.mk.injEq, and_true] at e1
                    obtain ⟨rfl, rfl⟩ := e1
                    refine ⟨v' :: ws, ?_, .cons e3 h2⟩
                    have e4 : (loadVar T ⟨b, o1 + off, none⟩).run P s.w = .ok v' s.w := by
                      have := e2
                      simp only [Instr.loadAt, Instr.sureAddr, Sem.run_bind, Sem.run_pure, Result.andThen_ok] at this
                      exact this
                    have e5 : (asAddr (a.tmps.getD t undef)).run P s.w = .ok ⟨b, o1 + off, none⟩ s.w := by rw [e]; rfl
                    rw [List.mapM_cons]
                    simp only [resF, Sem.run_bind, e5, Result.andThen_ok, e4, h1, Sem.run_pure]
                · simp at hv
              | _ => simp [hb] at hv
          · simp at hv

theorem results_run (hc : CtxOK P c) (hst : StA w0 B0 np vs s env a q) {fn : Func} {xs : List V} (h : resV c env s.h fn.results.toList = some xs) : ∃ ws, (results fn a.tmps).run P s.w = .ok (pack ws) s.w ∧ F2 (VRel s) xs ws := by
  obtain ⟨ws, h1, h2⟩ := resV_rel hc hst h
  refine ⟨ws, ?_, h2⟩
  have hm : (fn.results.mapM (resF a.tmps)).run P s.w = .ok ws.toArray s.w := by
    rw [← Array.toArray_toList (xs := fn.results), List.mapM_toArray, map_eq_pure_bind, Sem.run_bind, h1]
    simp only [Result.andThen_ok, Sem.run_pure]
  rw [results_eq, Sem.run_bind, hm]
  simp only [Result.andThen_ok, Sem.run_pure]
  congr 1
  cases ws with
  | nil => rfl
  | cons w ws =>
    cases ws with
    | nil => rfl
    | cons w' ws => simp [pack]

def given (n : Nat) (h : Heap) : List Bool → List V → List Nat
  | _, [] => []
  | fs, v :: l => (match v with
    | .own r => match h r with
      | .arr .own _ _ => bif fs.headD false then [r] else []
      | _ => []
    | .sl r off _ => match h r with
      | .arr .own _ _ => bif fs.headD false || !Nat.beq off 0 then [r] else []
      | _ => []
    | _ => []) ++ given n h fs.tail l

theorem mem_bif {b : Bool} {r r' : Nat} (h : r ∈ (bif b then [r'] else [])) : r = r' := by
  cases b <;> simp at h; exact h

theorem given_sub {n : Nat} {h : Heap} : ∀ {vl : List V} {fs : List Bool} {r : Nat}, r ∈ given n h fs vl → r ∈ rows vl
  | [], _, r, h => by simp [given] at h
  | v :: l, fs, r, hr => by
    simp only [given, List.mem_append] at hr
    rcases hr with hr | hr
    · have : rowOf v = some r := by
        split at hr
        · split at hr
          · rw [mem_bif hr]; rfl
          · simp at hr
        · split at hr
          · rw [mem_bif hr]; rfl
          · simp at hr
        · simp at hr
      exact List.mem_filterMap.2 ⟨v, by simp, this⟩
    · have := given_sub hr
      obtain ⟨v', h1, h2⟩ := List.mem_filterMap.1 this
      exact List.mem_filterMap.2 ⟨v', by simp [h1], h2⟩

theorem nodupB_ok : ∀ {l : List Nat}, nodupB l = true → l.Nodup
  | [], _ => List.nodup_nil
  | x :: l, h => by
    simp only [nodupB, Bool.and_eq_true, Bool.not_eq_true'] at h
    refine List.nodup_cons.2 ⟨fun hm => ?_, nodupB_ok h.2⟩
    have : l.contains x = true := by simpa using hm
    rw [h.1] at this; simp at this

theorem rows_cons_nodup {v : V} {l : List V} (h : (rows (v :: l)).Nodup) : (rows l).Nodup ∧ ∀ r, rowOf v = some r → r ∉ rows l := by
  unfold rows at h ⊢
  cases hr : rowOf v with
  | none => rw [List.filterMap_cons, hr] at h; exact ⟨h, by simp⟩
  | some r =>
    rw [List.filterMap_cons, hr] at h
    obtain ⟨h1, h2⟩ := List.nodup_cons.1 h
    exact ⟨h2, fun r' e => by obtain rfl := Option.some.inj e; exact h1⟩

theorem resR_rel {s0 : Sg} (hst : StA w0 B0 np vs s env a q) (hF : Frozn w0 B0 s s0) {n0 : Nat} (hn0 : ∀ r b, isW (s0.h r) = true → np ≤ r → blkOf (s0.μ r) = some b → n0 ≤ b) :
    ∀ {vl : List V} {ws : List Value} {fs : List Bool} {rs : List R}, F2 (VRel s) vl ws → resR np s.h fs vl = some rs → (rows vl).Nodup →
      (∀ r ∈ given np s.h fs vl, isW (s.h r) = true → ∀ b, blkOf (s.μ r) = some b → s0.ok b) → (∀ r, r ∈ rows vl → r ∉ given np s.h fs vl → s0.h r = s.h r) →
      ResL (ResR s0.w s0.ok n0 vs.xs vs.vs) rs ws ∧ (∀ r ∈ rs, isUpd r = false) ∧
      (∀ (i : Nat) r v, rs[i]? = some r → ws[i]? = some v → isOwnR r = true → ∃ x t, vl[i]? = some x ∧ rowOf x = some t ∧ isW (s0.h t) = true ∧ (∀ b, blkOf v = some b → blkOf (s0.μ t) = some b))
  | [], ws, fs, rs, hv, h, _, _, _ => by
    simp only [resR, Option.some.injEq] at h
    subst h
    cases hv
    exact ⟨.nil, by simp, by simp⟩
  | x :: vl, ws, fs, rs, hv, h, hnd, hg, hk => by
    cases hv with
    | cons hx hl =>
    rename_i w ws
    simp only [resR] at h
    split at h
    · simp at h
    · rename_i r0 hr0
      split at h
      · simp at h
      · rename_i rs' hrs
        obtain rfl := Option.some.inj h
        obtain ⟨hnd', hnr⟩ := rows_cons_nodup hnd
        have hsubr : ∀ r, r ∈ rows vl → r ∈ rows (x :: vl) := fun r hr => by
          obtain ⟨v', h1, h2⟩ := List.mem_filterMap.1 hr
          exact List.mem_filterMap.2 ⟨v', by simp [h1], h2⟩
        have hgiv : ∀ r, r ∈ given np s.h fs.tail vl → r ∈ given np s.h fs (x :: vl) := fun r hr => by
          simp only [given, List.mem_append]; exact .inr hr
        have hgiv' : ∀ r, r ∈ rows vl → r ∈ given np s.h fs (x :: vl) → r ∈ given np s.h fs.tail vl := by
          intro r hr hm
          simp only [given, List.mem_append] at hm
          rcases hm with hm | hm
          · exfalso
            have : rowOf x = some r := by
              split at hm
              · split at hm
                · rw [mem_bif hm]; rfl
                · simp at hm
              · split at hm
                · rw [mem_bif hm]; rfl
                · simp at hm
              · simp at hm
            exact hnr r this hr
          · exact hm
        obtain ⟨k1, k2, k3⟩ := resR_rel hst hF hn0 hl hrs hnd' (fun r hr => hg r (hgiv r hr)) (fun r hr hm => hk r (hsubr r hr) fun h' => hm (hgiv' r hr h'))
        -- put together
        have join : ResR s0.w s0.ok n0 vs.xs vs.vs r0 w → isUpd r0 = false → (isOwnR r0 = true → ∃ t, rowOf x = some t ∧ isW (s0.h t) = true ∧ (∀ b, blkOf w = some b → blkOf (s0.μ t) = some b)) →
            ResL (ResR s0.w s0.ok n0 vs.xs vs.vs) (r0 :: rs') (w :: ws) ∧ (∀ r ∈ r0 :: rs', isUpd r = false) ∧
            (∀ (i : Nat) r v, (r0 :: rs')[i]? = some r → (w :: ws)[i]? = some v → isOwnR r = true → ∃ y t, (x :: vl)[i]? = some y ∧ rowOf y = some t ∧ isW (s0.h t) = true ∧ (∀ b, blkOf v = some b → blkOf (s0.μ t) = some b)) := by
          intro h1 h2 h3
          refine ⟨.cons h1 k1, fun r hr => by
            rcases List.mem_cons.1 hr with rfl | hr
            · exact h2
            · exact k2 r hr, fun i r v hi hv' ho => ?_⟩
          cases i with
          | zero =>
            simp only [List.getElem?_cons_zero, Option.some.injEq] at hi hv'
            subst hi; subst hv'
            obtain ⟨t, g1, g2, g3⟩ := h3 ho
            exact ⟨x, t, rfl, g1, g2, g3⟩
          | succ i => exact k3 i r v (by simpa using hi) (by simpa using hv') ho
        have hview : ∀ {r off n : Nat} {e : Ty} {m : Md} {xs : List e.den} {x0 : Option Addr} {cap : Nat}, r < np → s.h r = .arr m e xs → w = .slice x0 n cap → n ≤ cap → off + n ≤ xs.length → (n = 0 ∨ ∃ b o l' cap', s.μ r = .slice (some ⟨b, o, none⟩) l' cap' ∧ x0 = some ⟨b, o + off * e.sz, none⟩) →
            (off = 0 → ∃ l' cap', s.μ r = .slice x0 l' cap' ∧ cap ≤ cap') → (∀ k, x0.map Addr.block = some k → blkOf (s.μ r) = some k) → ResR s0.w s0.ok n0 vs.xs vs.vs (.view r off n) w := by
          intro r off n e m xs x0 cap hr hb hw hc h1 h2 h3 h4
          obtain ⟨_, v0, g1, g2⟩ := hst.arg r hr
          obtain ⟨a0, g3, g4⟩ := hst.ah r hr xs.length e (by rw [hb]; rfl) (by rw [hb]; rfl)
          exact ⟨a0, v0, e, xs.length, x0, cap, g3, g1, g4, hw, hc, h1, by rw [← g2]; exact h2, by rw [← g2]; exact h3, by rw [← g2]; exact h4⟩
        cases x with
        | data t y =>
          simp only [Option.some.injEq] at hr0
          subst hr0
          exact join (show DVal s0.w s0.ok t y w from (hx.ext hF.ext : VRel s0 (.data t y) w)) rfl (by simp [isOwnR])
        | own r =>
          simp only at hr0
          obtain ⟨hwv, hZ, hsl⟩ := hx
          cases hb : s.h r with
          | arr m e xs =>
            simp only [hb] at hr0
            obtain ⟨x0, cap, hd, hcap, hne⟩ := (hst.H.blk r hZ).head (show lenB (s.h r) = some xs.length by rw [hb]; rfl)
            have hdat : (isW (s.h r) = true → ∀ b, blkOf (s.μ r) = some b → s0.ok b) → ResR s0.w s0.ok n0 vs.xs vs.vs (.data (.slice e) xs) w := fun h => by
              show DVal s0.w s0.ok _ _ _
              rw [hwv, hF.w]
              exact own_dval hst.H hZ hb hF.ext.ok h
            have hro : m = .ro → (isW (s.h r) = true → ∀ b, blkOf (s.μ r) = some b → s0.ok b) := fun e1 hW => by rw [hb, e1] at hW; simp [isW] at hW
            have hvw : r < np → ResR s0.w s0.ok n0 vs.xs vs.vs (.view r 0 xs.length) w := fun hr => by
              refine hview hr hb (by rw [hwv, hd]) hcap (by omega) ?_ (fun _ => ⟨_, _, hd, Nat.le_refl _⟩) (fun k hk => by rw [hd]; cases x0 with | none => simp at hk | some y => simpa [blkOf] using hk)
              rcases hne with h | ⟨b, o, rfl⟩
              · exact .inl h
              · exact .inr ⟨b, o, _, _, hd, by simp⟩
            unfold rowR at hr0
            cases m with
            | rw =>
              simp only at hr0
              cases hf : fs.headD false with
              | true => rw [hf] at hr0; simp at hr0
              | false =>
                rw [hf] at hr0
                simp only [cond_false] at hr0
                cases hbl : Nat.ble (r + 1) np with
                | false => rw [hbl] at hr0; simp at hr0
                | true =>
                  rw [hbl] at hr0
                  simp only [cond_true, Option.some.injEq] at hr0
                  subst hr0
                  exact join (hvw (Nat.le_of_ble_eq_true hbl)) rfl (by simp [isOwnR])
            | ro =>
              simp only at hr0
              cases hf : fs.headD false with
              | true =>
                rw [hf] at hr0
                simp only [cond_true, Option.some.injEq] at hr0
                subst hr0
                exact join (hdat (hro rfl)) rfl (by simp [isOwnR])
              | false =>
                rw [hf] at hr0
                simp only [cond_false] at hr0
                cases hbl : Nat.ble (r + 1) np with
                | false =>
                  rw [hbl] at hr0
                  simp only [cond_false, Option.some.injEq] at hr0
                  subst hr0
                  exact join (hdat (hro rfl)) rfl (by simp [isOwnR])
                | true =>
                  rw [hbl] at hr0
                  simp only [cond_true, Option.some.injEq] at hr0
                  subst hr0
                  exact join (hvw (Nat.le_of_ble_eq_true hbl)) rfl (by simp [isOwnR])
            | own =>
              simp only at hr0
              cases hbl : Nat.ble (r + 1) np with
              | true => rw [hbl] at hr0; simp at hr0
              | false =>
                rw [hbl] at hr0
                simp only [cond_false] at hr0
                have hnp : np ≤ r := Nat.le_of_not_lt fun h => by
                  have : Nat.ble (r + 1) np = true := Nat.ble_eq_true_of_le h
                  rw [hbl] at this; simp at this
                cases hf : fs.headD false with
                | true =>
                  rw [hf] at hr0
                  simp only [cond_true, Option.some.injEq] at hr0
                  subst hr0
                  exact join (hdat (hg r (by simp only [given, hb, hf, cond_true]; simp))) rfl (by simp [isOwnR])
                | false =>
                  rw [hf] at hr0
                  simp only [cond_false, show Nat.beq 0 0 = true from rfl, cond_true, Option.some.injEq] at hr0
                  subst hr0
                  have hh0 : s0.h r = s.h r := hk r (List.mem_filterMap.2 ⟨.own r, by simp, rfl⟩) (fun hm => by
                    simp only [given, hb, hf, cond_false, List.nil_append] at hm
                    exact hnr r rfl (given_sub hm))
                  have hW : isW (s0.h r) = true := by rw [hh0, hb]; rfl
                  have hB := hF.H.blk r (by rw [hF.Z]; exact hZ)
                  rw [hh0, hb, hF.μ] at hB
                  obtain ⟨_, _, cs, _, _, hlr, E, ho⟩ := hB
                  refine join ⟨E, cs, by rw [hwv]; exact ho, hlr, fun b hbb => ?_⟩ rfl (fun _ => ⟨r, rfl, hW, fun b hbb => by rw [hF.μ, ← hwv]; exact hbb⟩)
                  rw [hwv, ← hF.μ] at hbb
                  exact ⟨hn0 r b hW hnp hbb, (hF.H.own r b hW hbb).2.1⟩
          | _ => simp [hb] at hr0
        | sl r off n =>
          simp only at hr0
          have hxx := hx
          obtain ⟨hZ, x0, cap, rfl, hcap, hsl⟩ := hx
          cases hb : s.h r with
          | arr m e xs =>
            simp only [hb] at hr0
            obtain ⟨g1, g2, g3, g4⟩ := hsl xs.length e (by rw [hb]; rfl) (by rw [hb]; rfl)
            have hdat : (isW (s.h r) = true → ∀ b, blkOf (s.μ r) = some b → s0.ok b) → ResR s0.w s0.ok n0 vs.xs vs.vs (.data (.slice e) ((xs.drop off).take n)) (.slice x0 n cap) := fun h => by
              show DVal s0.w s0.ok _ _ _
              rw [hF.w]
              exact (part_dval hst.H hb hxx hF.ext.ok h).1
            have hro : m = .ro → (isW (s.h r) = true → ∀ b, blkOf (s.μ r) = some b → s0.ok b) := fun e1 hW => by rw [hb, e1] at hW; simp [isW] at hW
            have hvw : r < np → ResR s0.w s0.ok n0 vs.xs vs.vs (.view r off n) (.slice x0 n cap) := fun hr => hview hr hb rfl hcap g1 g2 g3 g4
            unfold rowR at hr0
            cases m with
            | rw =>
              simp only at hr0
              cases hf : fs.headD false with
              | true => rw [hf] at hr0; simp at hr0
              | false =>
                rw [hf] at hr0
                simp only [cond_false] at hr0
                cases hbl : Nat.ble (r + 1) np with
                | false => rw [hbl] at hr0; simp at hr0
                | true =>
                  rw [hbl] at hr0
                  simp only [cond_true, Option.some.injEq] at hr0
                  subst hr0
                  exact join (hvw (Nat.le_of_ble_eq_true hbl)) rfl (by simp [isOwnR])
            | ro =>
              simp only at hr0
              cases hf : fs.headD false with
              | true =>
                rw [hf] at hr0
                simp only [cond_true, Option.some.injEq] at hr0
                subst hr0
                exact join (hdat (hro rfl)) rfl (by simp [isOwnR])
              | false =>
                rw [hf] at hr0
                simp only [cond_false] at hr0
                cases hbl : Nat.ble (r + 1) np with
                | false =>
                  rw [hbl] at hr0
                  simp only [cond_false, Option.some.injEq] at hr0
                  subst hr0
                  exact join (hdat (hro rfl)) rfl (by simp [isOwnR])
                | true =>
                  rw [hbl] at hr0
                  simp only [cond_true, Option.some.injEq] at hr0
                  subst hr0
                  exact join (hvw (Nat.le_of_ble_eq_true hbl)) rfl (by simp [isOwnR])
            | own =>
              simp only at hr0
              cases hbl : Nat.ble (r + 1) np with
              | true => rw [hbl] at hr0; simp at hr0
              | false =>
                rw [hbl] at hr0
                simp only [cond_false] at hr0
                have hnp : np ≤ r := Nat.le_of_not_lt fun h => by
                  have : Nat.ble (r + 1) np = true := Nat.ble_eq_true_of_le h
                  rw [hbl] at this; simp at this
                cases hf : fs.headD false with
                | true =>
                  rw [hf] at hr0
                  simp only [cond_true, Option.some.injEq] at hr0
                  subst hr0
                  exact join (hdat (hg r (by simp only [given, hb, hf, Bool.true_or, cond_true]; simp))) rfl (by simp [isOwnR])
                | false =>
                  rw [hf] at hr0
                  simp only [cond_false] at hr0
                  cases hoff : Nat.beq off 0 with
                  | false =>
                    rw [hoff] at hr0
                    simp only [cond_false, Option.some.injEq] at hr0
                    subst hr0
                    exact join (hdat (hg r (by simp only [given, hb, hf, hoff, Bool.not_false, Bool.false_or, cond_true]; simp))) rfl (by simp [isOwnR])
                  | true =>
                    rw [hoff] at hr0
                    simp only [cond_true, Option.some.injEq] at hr0
                    subst hr0
                    obtain rfl := Nat.eq_of_beq_eq_true hoff
                    have hh0 : s0.h r = s.h r := hk r (List.mem_filterMap.2 ⟨.sl r 0 n, by simp, rfl⟩) (fun hm => by
                      simp only [given, hb, hf, Bool.false_or, show Nat.beq 0 0 = true from rfl, Bool.not_true, cond_false, List.nil_append] at hm
                      exact hnr r rfl (given_sub hm))
                    have hW : isW (s0.h r) = true := by rw [hh0, hb]; rfl
                    have hB := hF.H.blk r (by rw [hF.Z]; exact hZ)
                    rw [hh0, hb, hF.μ] at hB
                    obtain ⟨x1, cap1, cs, hd, _, hlr, E, ho⟩ := hB
                    obtain ⟨l', cap', hμ, hle⟩ := g3 rfl
                    have hcl := LRel.length (fun x cs h => DRel.length h) hlr
                    have hbk : ∀ b, blkOf (Value.slice x0 n cap) = some b → blkOf (s.μ r) = some b := fun b hbb => g4 b (by cases x0 with | none => simp [blkOf] at hbb | some y => simpa [blkOf] using hbb)
                    refine join ⟨E, cs.take (n * e.sz), ?_, ?_, fun b hbb => ?_⟩ rfl (fun _ => ⟨r, rfl, hW, fun b hbb => by rw [hF.μ]; exact hbk b hbb⟩)
                    · have hln : ((xs.drop 0).take n).length = n := by simp; omega
                      rw [hln]
                      refine ⟨by rw [List.length_take, hcl]; exact Nat.min_eq_left (Nat.mul_le_mul_right _ (by omega)), ?_⟩
                      rcases ho.2 with ⟨h1, h2⟩ | ⟨g, cap2, cur, h1, h2, h3, h4, h5, h6⟩
                      · rw [hμ] at h1
                        simp only [Value.slice.injEq] at h1
                        obtain ⟨rfl, _, rfl⟩ := h1
                        left
                        have : cap = 0 := by omega
                        subst this
                        have : n = 0 := by omega
                        subst this
                        exact ⟨rfl, rfl⟩
                      · rw [hμ] at h1
                        simp only [Value.slice.injEq] at h1
                        obtain ⟨rfl, _, rfl⟩ := h1
                        refine .inr ⟨g, cap, cur, rfl, h2, hcap, by omega, Nat.le_trans (Nat.mul_le_mul_right _ hle) h5, ?_⟩
                        rw [← h6, List.take_take, Nat.min_eq_left (Nat.mul_le_mul_right _ (by omega))]
                    · simpa using LRel.take (fun x cs h => DRel.length h) hlr n (by omega)
                    · have hbb' := hbk b hbb
                      rw [← hF.μ] at hbb'
                      exact ⟨hn0 r b hW hnp hbb', (hF.H.own r b hW hbb').2.1⟩
          | _ => simp [hb] at hr0
        | _ => simp at hr0

end
end Go.Proofs.YthghchjbomlpfaaGreat.Ev

namespace Go.Proofs.YthghchjbomlpfaaGreat.Ev
set_option linter.unusedVariables false

section
variable {P : Program} {c : Ctx} {β : Type} {s : Sg} {env : List V} {a : Act} {q : Nat}

theorem frzAll_ne : ∀ {l : List Nat} {h : Heap} {r : Nat}, r ∉ l → frzAll h l r = h r
  | [], h, r, _ => rfl
  | x :: l, h, r, hn => by
    simp only [frzAll]
    rw [frzAll_ne (fun h' => hn (by simp [h'])), upd_ne _ _ (fun e => hn (by simp [e]))]

theorem rows_inj : ∀ {vl : List V} {i j : Nat} {x y : V} {t : Nat}, (rows vl).Nodup → vl[i]? = some x → vl[j]? = some y → rowOf x = some t → rowOf y = some t → i = j
  | [], i, j, x, y, t, _, h, _, _, _ => by simp at h
  | v :: vl, i, j, x, y, t, hnd, hi, hj, hx, hy => by
    obtain ⟨h1, h2⟩ := rows_cons_nodup hnd
    have hin : ∀ {k : Nat} {z : V}, vl[k]? = some z → rowOf z = some t → t ∈ rows vl := fun hk hz => List.mem_filterMap.2 ⟨_, List.mem_of_getElem? hk, hz⟩
    cases i with
    | zero =>
      simp only [List.getElem?_cons_zero, Option.some.injEq] at hi
      subst hi
      cases j with
      | zero => rfl
      | succ j => exact absurd (hin (by simpa using hj) hy) (h2 t hx)
    | succ i =>
      cases j with
      | zero =>
        simp only [List.getElem?_cons_zero, Option.some.injEq] at hj
        subst hj
        exact absurd (hin (by simpa using hi) hx) (h2 t hy)
      | succ j =>
        have := rows_inj h1 (i := i) (j := j) (by simpa using hi) (by simpa using hj) hx hy
        omega

theorem given_own {n : Nat} {h : Heap} : ∀ {vl : List V} {fs : List Bool} {r : Nat}, r ∈ given n h fs vl → ∃ (e : Ty) (xs : List e.den), h r = .arr .own e xs
  | [], _, r, h' => by simp [given] at h'
  | v :: l, fs, r, hr => by
    simp only [given, List.mem_append] at hr
    rcases hr with hr | hr
    · split at hr
      · split at hr
        · rename_i e xs hb; rw [mem_bif hr]; exact ⟨e, xs, hb⟩
        · simp at hr
      · split at hr
        · rename_i e xs hb; rw [mem_bif hr]; exact ⟨e, xs, hb⟩
        · simp at hr
      · simp at hr
    · exact given_own hr

theorem updR_get {h : Heap} : ∀ {ms : List Nat} {us : List R}, updR h ms = some us → ∀ i ∈ ms, ∃ (e : Ty) (ys : List e.den), h i = .arr .rw e ys
  | [], us, _, i, hi => by simp at hi
  | j :: ms, us, hu, i, hi => by
    simp only [updR] at hu
    split at hu
    · rename_i e xs hb
      split at hu
      · rename_i rs hrs
        rcases List.mem_cons.1 hi with rfl | hi
        · exact ⟨e, xs, hb⟩
        · exact updR_get hrs i hi
      · simp at hu
    · simp at hu

variable {w : World} {ok : Nat → Prop} {ms : List Nat} {xs : List A} {vs : List Value}

theorem updR_rel {s0 : Sg} (hA : ArgsOK w ok ms xs vs) (hst : StA w (limOf ok ms xs vs) xs.length ⟨vs, xs⟩ s env a q) (hF : Frozn w (limOf ok ms xs vs) s s0) (hkeep : ∀ i ∈ ms, s0.h i = s.h i) :
    ∀ {ms' : List Nat} {us : List R}, (∀ i ∈ ms', i ∈ ms) → updR s.h ms' = some us → UpdL s0.w s0.ok xs vs ms' us
  | [], us, _, hu => by
    simp only [updR, Option.some.injEq] at hu
    subst hu; exact .nil
  | i :: ms', us, hsub, hu => by
    simp only [updR] at hu
    split at hu
    · rename_i e ys hb
      split at hu
      · rename_i us' hus
        obtain rfl := Option.some.inj hu
        have hi := hsub i (by simp)
        have hlt := hA.msl i hi
        obtain ⟨hZ, v, hv, hμ⟩ := hst.arg i hlt
        obtain ⟨a0, ha0, har⟩ := hst.ah i hlt ys.length e (by rw [hb]; rfl) (by rw [hb]; rfl)
        obtain ⟨e', ys0, rfl, hM, _⟩ := hA.mt i a0 v hi ha0 hv
        simp only [argRow, Option.some.injEq, Prod.mk.injEq] at har
        obtain ⟨rfl, hlen⟩ := har
        have hB := hF.H.blk i (by rw [hF.Z]; exact hZ)
        rw [hkeep i hi, hb, hF.μ, hμ] at hB
        exact .cons ha0 hv hlen.symm (MRel.of_arr rfl hB) (updR_rel hA hst hF hkeep (fun j hj => hsub j (by simp [hj])) hus)
      · simp at hu
    · simp at hu

theorem finish_ok (hc : CtxOK P c) (hA : ArgsOK w ok ms xs vs) (hst : StA w (limOf ok ms xs vs) xs.length ⟨vs, xs⟩ s env a q) {fn : Func} {fs : List Bool} {κ : List R → Option β} {r : β}
    (h : finish c fn.results.toList xs.length ms fs κ env s.h = some r) : ∃ rs1 us rvs ok', (results fn a.tmps).run P s.w = .ok (pack rvs) s.w ∧ κ (rs1 ++ us) = some r ∧ (∀ r ∈ rs1, isUpd r = false) ∧ Post w ok ms xs vs rs1 us rvs s.w ok' := by
  unfold finish at h
  split at h
  · simp at h
  · rename_i vl hvl
    cases hnd : nodupB (rows vl) with
    | false => rw [hnd] at h; simp at h
    | true =>
      rw [hnd] at h
      simp only [cond_true] at h
      split at h
      · rename_i rs hrs
        split at h
        · rename_i us hus
          obtain ⟨ws, h1, h2⟩ := results_run hc hst hvl
          obtain ⟨s0, hh, hF, hokf⟩ := frzAll_rel (given xs.length s.h fs vl) hst.H
          have hnd' := nodupB_ok hnd
          have hrw : ∀ i ∈ ms, ∃ (e : Ty) (ys : List e.den), s.h i = .arr .rw e ys := updR_get hus
          have hkeep : ∀ i ∈ ms, s0.h i = s.h i := by
            intro i hi
            rw [hh]
            refine frzAll_ne fun hg => ?_
            obtain ⟨e, ys, hb⟩ := hrw i hi
            obtain ⟨e', ys', hb'⟩ := given_own hg
            rw [hb] at hb'
            simp at hb'
          have hWi : ∀ i ∈ ms, isW (s0.h i) = true := by
            intro i hi
            obtain ⟨e, ys, hb⟩ := hrw i hi
            rw [hkeep i hi, hb]; rfl
          have hμi : ∀ i ∈ ms, ∀ v, vs[i]? = some v → s0.μ i = v := by
            intro i hi v hv
            obtain ⟨_, v', hv', hμ⟩ := hst.arg i (hA.msl i hi)
            have hv'' : vs[i]? = some v' := hv'
            rw [hv] at hv''
            rw [hF.μ, hμ]; exact (Option.some.inj hv'').symm
          have hn0 : ∀ r b, isW (s0.h r) = true → xs.length ≤ r → blkOf (s0.μ r) = some b → w.heap.size ≤ b := by
            intro r b hW hr hb
            rcases (hF.H.own r b hW hb).2.2 with h | ⟨i, v, hi, hv, hbv⟩
            · exact h
            · rw [← hμi i hi v hv] at hbv
              have := hF.H.sep r i b hW (hWi i hi) hb hbv
              have := hA.msl i hi
              omega
          obtain ⟨k1, k2, k3⟩ := resR_rel hst hF hn0 h2 hrs hnd' hokf (fun r _ hr => by rw [hh]; exact frzAll_ne hr)
          refine ⟨rs, us, ws, s0.ok, h1, h, k2, ?_⟩
          rw [← hF.w]
          refine ⟨hF.H.fr, fun b hb => hF.ext.ok b (hst.ok0 b hb), fun b hb => ?_, hF.H.okd, k1, fun i j r1 r2 v1 v2 b g1 g2 g3 g4 g5 g6 g7 g8 => ?_, updR_rel hA hst hF hkeep (fun _ h => h) hus⟩
          · rcases hF.H.oks b hb with h | h | ⟨i, v, hi, hv, hbv⟩
            · exact .inl h
            · exact .inr h
            · rw [← hμi i hi v hv] at hbv
              exact absurd hb (hF.H.own i b (hWi i hi) hbv).2.1
          · obtain ⟨x, t, e1, e2, e3, e4⟩ := k3 i r1 v1 g1 g3 g5
            obtain ⟨y, t', e5, e6, e7, e8⟩ := k3 j r2 v2 g2 g4 g6
            obtain rfl := hF.H.sep t t' b e3 e7 (e4 b g7) (e8 b g8)
            exact rows_inj hnd' e1 e5 e2 e6
        · simp at h
      · simp at h

def entV (q : Nat) : A → V
  | .data (.slice _) _ => .own q
  | .data t x => .data t x
  | .mut _ _ => .own q
  | .box a => .ptr q (enterV.tyA a) []
  | .clo f caps => .clo f caps
  | .agr as => .agr (as.map enterV.plainA)
def entB : A → Blk
  | .data (.slice e) xs => .arr .ro e xs
  | .data _ _ => .dead
  | .mut e xs => .arr .rw e xs
  | .box a => .var false (enterV.tyA a) (enterV.plainA a)
  | .clo _ _ => .dead
  | .agr _ => .dead

theorem enterV_get : ∀ {xs : List A} {q i : Nat} {a : A}, xs[i]? = some a → (enterV q xs).1[i]? = some (entV (q + i) a) ∧ (enterV q xs).2[i]? = some (entB a)
  | [], q, i, a, h => by simp at h
  | x :: xs, q, 0, a, h => by
    simp only [List.getElem?_cons_zero, Option.some.injEq] at h
    subst h
    cases x with
    | data t y => cases t <;> exact ⟨rfl, rfl⟩
    | _ => exact ⟨rfl, rfl⟩
  | x :: xs, q, i + 1, a, h => by
    obtain ⟨h1, h2⟩ := enterV_get (xs := xs) (q := q + 1) (i := i) (by simpa using h)
    rw [show q + 1 + i = q + (i + 1) by omega] at h1
    cases x with
    | data t y => cases t <;> exact ⟨h1, h2⟩
    | _ => exact ⟨h1, h2⟩

theorem enterV_len : ∀ {xs : List A} {q : Nat}, (enterV q xs).1.length = xs.length ∧ (enterV q xs).2.length = xs.length
  | [], q => ⟨rfl, rfl⟩
  | x :: xs, q => by
    obtain ⟨h1, h2⟩ := enterV_len (xs := xs) (q := q + 1)
    cases x with
    | data t y => cases t <;> exact ⟨by simp only [enterV, List.length_cons, h1], by simp only [enterV, List.length_cons, h2]⟩
    | _ => exact ⟨by simp only [enterV, List.length_cons, h1], by simp only [enterV, List.length_cons, h2]⟩

def enterS (w : World) (ok : Nat → Prop) (xs : List A) (vs : List Value) : Sg :=
  { h := ofList (enterV 0 xs).2, μ := fun i => vs.getD i undef, w := w, ok := ok, Z := fun r => xs.length ≤ r }

theorem toVal_cells {ok : Nat → Prop} {t : Ty} {x : t.den} {cs : List Value} (hs : sol t = true) (h : DRel w ok t x cs) : (toVal t cs).cells.toList = cs := by
  have hl := h.length
  cases t with
  | pair a b => simp [sol] at hs
  | unit => simp [sol] at hs
  | agg a => simp [toVal, aggT, Value.cells]
  | arr n e => simp [toVal, aggT, Value.cells]
  | bool => simp only [DRel] at h; subst h; rfl
  | int k => simp only [DRel] at h; subst h; rfl
  | str => simp only [DRel] at h; subst h; rfl
  | slice e => simp only [DRel] at h; obtain ⟨a, c, rfl, _⟩ := h; rfl

theorem enter_h {i : Nat} {a : A} (h : xs[i]? = some a) : (enterS w ok xs vs).h i = entB a := by
  simp [enterS, ofList, List.getD, (enterV_get (q := 0) h).2]

theorem enter_B {i : Nat} {a : A} {v : Value} (hA : ArgsOK w ok ms xs vs) (ha : xs[i]? = some a) (hv : vs[i]? = some v) : BRel (enterS w ok xs vs) (entB a) v := by
  by_cases hi : i ∈ ms
  · obtain ⟨e, ys, rfl, hM, _⟩ := hA.mt i a v hi ha hv
    exact hM
  · have hr := hA.dat i a v hi ha hv
    cases hr with
    | @data t x v h =>
      cases t <;> try trivial
      rename_i e
      obtain ⟨cs, hd, rfl⟩ := h
      simp only [DRel] at hd
      obtain ⟨x0, c0, rfl, hc, hrest⟩ := hd
      rcases hrest with h0 | ⟨b, o, rs, rfl, hok, hr, hl⟩
      · have : x = [] := List.length_eq_zero_iff.1 h0
        subst this
        exact ⟨x0, c0, [], rfl, hc, rfl, .inl rfl⟩
      · exact ⟨_, c0, rs, rfl, hc, hl, .inr ⟨b, o, rfl, hok, hr⟩⟩
    | @boxD t x b o cs hs hok hr hd =>
      refine ⟨b, o, toVal t cs, rfl, ⟨rfl, hs⟩, ⟨cs, hd, rfl⟩, ?_, by simp, fun _ => hok⟩
      rw [toVal_cells hs hd]; exact hr
    | @boxC f caps b o x hok hr hd =>
      cases hd with
      | clo hcs =>
        rename_i vs'
        refine ⟨b, o, .func (.func f) #[] vs'.toArray, rfl, rfl, ⟨_, rfl, by have : ARels w ok caps vs'.toArray.toList := (by simpa using hcs); exact this⟩, by have : w.rangeAt b o (Value.func (Fn.func f) #[] vs'.toArray).cells.toList := (by simpa [Value.cells] using hr); exact this, by simp, fun _ => hok⟩
    | clo h => trivial
    | agr h _ _ => trivial

theorem enter_V {i : Nat} {a : A} {v : Value} (hA : ArgsOK w ok ms xs vs) (ha : xs[i]? = some a) (hv : vs[i]? = some v) : VRel (enterS w ok xs vs) (entV i a) v := by
  have hlt : i < xs.length := (List.getElem?_eq_some_iff.1 ha).1
  have hμ : (enterS w ok xs vs).μ i = v := by simp [enterS, List.getD, hv]
  have hZ : ¬ (enterS w ok xs vs).Z i := by show ¬ xs.length ≤ i; omega
  by_cases hi : i ∈ ms
  · obtain ⟨e, ys, rfl, ⟨x, cap, cs, hd, _⟩, _⟩ := hA.mt i a v hi ha hv
    exact ⟨hμ.symm, hZ, x, _, cap, hd⟩
  · have hr := hA.dat i a v hi ha hv
    cases hr with
    | @data t x v h =>
      cases t <;> try exact h
      obtain ⟨cs, hd, rfl⟩ := h
      simp only [DRel] at hd
      obtain ⟨x0, c0, rfl, hc, _⟩ := hd
      exact ⟨hμ.symm, hZ, x0, _, c0, rfl⟩
    | @boxD t x b o cs hs hok hr hd =>
      refine ⟨hZ, b, o, 0, hμ, rfl, ?_⟩
      rw [enter_h ha]
      exact .inl ⟨tyAt_nil t, by cases t <;> simp [pathOk], by cases t <;> simp [poff]⟩
    | @boxC f caps b o x hok hr hd =>
      refine ⟨hZ, b, o, 0, hμ, rfl, ?_⟩
      rw [enter_h ha]
      exact .inl ⟨rfl, trivial, rfl⟩
    | @clo f caps vs' h => exact ⟨_, rfl, by have : ARels w ok caps vs'.toArray.toList := (by simpa using h); exact this⟩
    | @agr l vs' h h1 h2 =>
      have hone : ∀ {l : List A} {vs' : List Value}, ARels w ok l vs' → l.all oneA = true → (l.map enterV.plainA).all oneV = true ∧ F2 (VRel0 (enterS w ok xs vs)) (l.map enterV.plainA) vs' := by
        intro l
        induction l with
        | nil => intro vs' h _; cases h; exact ⟨rfl, .nil⟩
        | cons a l ih =>
          intro vs' h ho
          cases h with
          | cons h hl =>
            simp only [List.all_cons, Bool.and_eq_true] at ho
            obtain ⟨g1, g2⟩ := ih hl ho.2
            cases a with
            | data t x =>
              cases h with
              | data hd =>
                refine ⟨?_, .cons hd g2⟩
                rw [List.map_cons, List.all_cons, g1, Bool.and_true]
                have := ho.1
                cases t <;> simp [oneA] at this <;> rfl
            | clo f caps =>
              cases h with
              | clo hcs =>
                rename_i vs2
                refine ⟨?_, .cons ⟨_, rfl, by have : ARels w ok caps vs2.toArray.toList := (by simpa using hcs); exact this⟩ g2⟩
                rw [List.map_cons, List.all_cons, g1]; rfl
            | _ => simp [oneA] at ho
      obtain ⟨g1, g2⟩ := hone h h2
      exact ⟨g1, _, rfl, by simpa using g2⟩

theorem enter_W {i : Nat} (hA : ArgsOK w ok ms xs vs) (h : isW ((enterS w ok xs vs).h i) = true) : ∃ e ys v, i ∈ ms ∧ xs[i]? = some (.mut e ys) ∧ vs[i]? = some v ∧ (enterS w ok xs vs).h i = .arr .rw e ys ∧ (enterS w ok xs vs).μ i = v := by
  cases ha : xs[i]? with
  | none =>
    have : (enterV 0 xs).2[i]? = none := by
      rw [List.getElem?_eq_none]
      rw [enterV_len.2]; exact List.getElem?_eq_none_iff.1 ha
    have : (enterS w ok xs vs).h i = .dead := by simp [enterS, ofList, List.getD, this]
    rw [this] at h; simp [isW] at h
  | some a =>
    have hlt : i < xs.length := (List.getElem?_eq_some_iff.1 ha).1
    obtain ⟨v, hv⟩ : ∃ v, vs[i]? = some v := ⟨vs[i]'(by rw [hA.len]; exact hlt), List.getElem?_eq_getElem _⟩
    have hμ : (enterS w ok xs vs).μ i = v := by simp [enterS, List.getD, hv]
    rw [enter_h ha] at h ⊢
    by_cases hi : i ∈ ms
    · obtain ⟨e, ys, rfl, _⟩ := hA.mt i a v hi ha hv
      exact ⟨e, ys, v, hi, rfl, hv, rfl, hμ⟩
    · have hr := hA.dat i a v hi ha hv
      cases hr with
      | @data t x v h' => cases t <;> simp [entB, isW] at h
      | _ => simp [entB, isW] at h

theorem enter_H (hA : ArgsOK w ok ms xs vs) : HRel w (limOf ok ms xs vs) (enterS w ok xs vs) where
  blk r hr := by
    have hlt : r < xs.length := Nat.lt_of_not_le hr
    have ha : xs[r]? = some xs[r] := List.getElem?_eq_getElem hlt
    obtain ⟨v, hv⟩ : ∃ v, vs[r]? = some v := ⟨vs[r]'(by rw [hA.len]; exact hlt), List.getElem?_eq_getElem _⟩
    have hμ : (enterS w ok xs vs).μ r = v := by simp [enterS, List.getD, hv]
    rw [enter_h ha, hμ]
    exact enter_B hA ha hv
  fresh r hr := by
    have : (enterV 0 xs).2[r]? = none := List.getElem?_eq_none (by rw [enterV_len.2]; exact hr)
    simp [enterS, ofList, List.getD, this]
  sep r t b hr ht hbr hbt := by
    obtain ⟨e, ys, v, h1, h2, h3, h4, h5⟩ := enter_W hA hr
    obtain ⟨e', ys', v', h1', h2', h3', h4', h5'⟩ := enter_W hA ht
    rw [h5] at hbr; rw [h5'] at hbt
    exact hA.sep r t v v' b h1 h1' h3 h3' hbr hbt
  own r b hr hb := by
    obtain ⟨e, ys, v, h1, h2, h3, h4, h5⟩ := enter_W hA hr
    rw [h5] at hb
    obtain ⟨_, _, _, _, h6⟩ := hA.mt r _ v h1 h2 h3
    obtain ⟨h7, h8⟩ := h6 b hb
    exact ⟨h7, h8, .inr ⟨r, v, h1, h3, hb⟩⟩
  wrs r b hr hb := by
    obtain ⟨e, ys, v, h1, h2, h3, h4, h5⟩ := enter_W hA hr
    rw [h5] at hb
    right
    intro j hj
    rw [h4, h5] at hj
    exact ⟨r, v, e, ys, h1, h3, h2, hb, hj⟩
  oks b hb := .inl hb
  okd := hA.okd
  fr := ⟨rfl, rfl, rfl, Nat.le_refl _, fun _ _ _ => rfl, fun k => Kind.refl _ k, fun _ _ _ _ => rfl⟩

theorem enter_St (hA : ArgsOK w ok ms xs vs) (n : Nat) : StA w (limOf ok ms xs vs) xs.length ⟨vs, xs⟩ (enterS w ok xs vs) ((enterV 0 xs).1 ++ List.replicate (n - xs.length) .undef) { tmps := vs.toArray ++ Array.replicate (n - vs.toArray.size) undef, defers := [] } xs.length where
  H := enter_H hA
  E t := by
    rcases Nat.lt_or_ge t xs.length with h | h
    · have ha : xs[t]? = some xs[t] := List.getElem?_eq_getElem h
      obtain ⟨v, hv⟩ : ∃ v, vs[t]? = some v := ⟨vs[t]'(by rw [hA.len]; exact h), List.getElem?_eq_getElem _⟩
      have h1 : ((enterV 0 xs).1 ++ List.replicate (n - xs.length) V.undef).getD t .undef = entV t xs[t] := by
        simp only [List.getD]
        rw [List.getElem?_append_left (by rw [enterV_len.1]; exact h), (enterV_get (q := 0) ha).1, Nat.zero_add]; rfl
      have h2 : (vs.toArray ++ Array.replicate (n - vs.toArray.size) undef).getD t undef = v := by
        have hlt : t < vs.length := by rw [hA.len]; exact h
        have hg : vs[t] = v := by
          rw [List.getElem?_eq_getElem hlt] at hv; exact Option.some.inj hv
        simp only [Array.getD]
        rw [dif_pos (by simp; omega)]
        simp [hlt, hg]
      rw [h1, h2]
      exact enter_V hA ha hv
    · have h1 : ((enterV 0 xs).1 ++ List.replicate (n - xs.length) V.undef).getD t .undef = .undef := by
        simp only [List.getD]
        rw [List.getElem?_append_right (by rw [enterV_len.1]; exact h)]
        rw [List.getElem?_replicate]
        split <;> rfl
      rw [h1]; trivial
  len := by simp [enterV_len.1, hA.len]
  df := rfl
  Z r hr := hr
  le := Nat.le_refl _
  arg i hi := by
    obtain ⟨v, hv⟩ : ∃ v, vs[i]? = some v := ⟨vs[i]'(by rw [hA.len]; exact hi), List.getElem?_eq_getElem _⟩
    exact ⟨by show ¬ xs.length ≤ i; omega, v, hv, by simp [enterS, List.getD, hv]⟩
  ok0 b hb := hb
  ah i hi l e hl he := by
    have ha : xs[i]? = some xs[i] := List.getElem?_eq_getElem hi
    refine ⟨xs[i], ha, ?_⟩
    rw [enter_h ha] at hl he
    revert hl he
    cases xs[i] with
    | data t x =>
      cases t <;> simp [entB, lenB, elB, argRow]
      intro h1 h2; exact ⟨h2, h1⟩
    | «mut» e xs => simp [entB, lenB, elB, argRow]; intro h1 h2; exact ⟨h2, h1⟩
    | _ => simp [entB, lenB, elB, argRow]

def hereI (n : Cert) (l : List Nat) : List Nat :=
  match n with
  | .lab id _ _ _ _ => id :: l
  | _ => l
def labIds : Code → Cert → List Nat
  | .region _ _ _, n => hereI n []
  | .seq a b, n => hereI n (labIds a n.l ++ labIds b n.r)
  | .cond _ a b, n => hereI n (labIds a n.l ++ labIds b n.r)
  | .block _ a, n => hereI n (labIds a n.l)
  | .loop a, n => match n with
    | .lab id _ _ _ _ => id :: labIds a n.l
    | _ => []
  | _, _ => []

theorem here_ids {L : Labels β} {n : Cert} {κ : Out → Option β} {l : List (Nat × (List V → Heap → Nat → Option β))} : (here L n κ l).map (·.1) = hereI n (l.map (·.1)) := by
  cases n <;> rfl

theorem lab_ids {C : Oracle β} {L : Labels β} : ∀ (code : Code) (n : Cert) (κ : Out → Option β), (labels c C L code n κ).map (·.1) = labIds code n := by
  intro code
  induction code with
  | region => intro n κ; simp only [labels, labIds, here_ids]; rfl
  | seq a b iha ihb => intro n κ; simp only [labels, labIds, here_ids, List.map_append, iha, ihb]
  | cond x a b iha ihb => intro n κ; simp only [labels, labIds, here_ids, List.map_append, iha, ihb]
  | block id a ih => intro n κ; simp only [labels, labIds, here_ids, ih]
  | loop a ih =>
    intro n κ
    cases n <;> simp only [labels, labIds]
    · rfl
    · rfl
    · rfl
    · rw [List.map_cons, ih]
  | _ => intro n κ; rfl

theorem look_mem {α : Type} : ∀ {l : List (Nat × α)} {p : Nat × α}, (l.map (·.1)).Nodup → p ∈ l → look l p.1 = some p.2
  | [], p, _, h => by simp at h
  | (k, x) :: l, p, hnd, hp => by
    rw [List.map_cons] at hnd
    obtain ⟨h1, h2⟩ := List.nodup_cons.1 hnd
    simp only [look]
    rcases List.mem_cons.1 hp with rfl | hp2
    · simp
    · have : Nat.beq k p.1 = false := by
        cases hb : Nat.beq k p.1 with
        | false => rfl
        | true =>
          obtain rfl := Nat.eq_of_beq_eq_true hb
          exact absurd (show p.1 ∈ l.map (·.1) from List.mem_map.2 ⟨p, hp2, rfl⟩) h1
      rw [this]
      exact look_mem h2 hp2

theorem CtxOK.with {np : Nat} {ms : List Nat} (h : CtxOK P c) : CtxOK P { c with np := np, ms := ms } := ⟨h.mts, h.fnsT, h.agrT, h.dep, h.tab, h.byt, h.fns, h.agrs⟩

theorem run_enter {f : FuncId} {fn : Func} {b : Code} (hf : P.funcs[f]? = some fn) (hb : fn.body = some b) (hname : (fn.name == "runtime.NumGoroutine") = false) (args : Array Value) (w : World) : (callFunc f args).run P w = .ok (.enter f args) w := by
  have h1 : fn.name ≠ "runtime.NumGoroutine" := by simpa using hname
  simp [callFunc, hf, h1, hb]

theorem func_ok {C : Oracle β} {Sem : Nat → List A → List R → Prop} (hC : Sound Sem C) (hS : ∀ g xs rs, Sem g xs rs → CallOK P ((look c.muts g).getD []) g xs rs) (hc : CtxOK P c) (hm : P.follows .mixedOrders = true) {f : FuncId} {fn : Func} {b : Code}
    {n : Note} (hf : P.funcs[f]? = some fn) (hb : fn.body = some b) (hname : (fn.name == "runtime.NumGoroutine") = false) (hids : nodupB (labIds b n.cert) = true) {k : Nat} {xs : List A} {κ : List R → Option β} {r : β} (h : evFunc c C k n fn xs κ = some r) :
    ∀ w ok vs, ArgsOK w ok n.ms xs vs → CallsTo P f vs.toArray w fun v w' => ∃ rs1 us rvs ok', κ (rs1 ++ us) = some r ∧ (∀ r ∈ rs1, isUpd r = false) ∧ v = pack rvs ∧ Post w ok n.ms xs vs rs1 us rvs w' ok' := by
  intro w ok vs hA
  left
  refine ⟨?_, calls_of_wp hf hb ?_⟩
  · exact run_enter hf hb hname _ _
  · have hnd := nodupB_ok hids
    have hL : Labs (β := β) { c with np := xs.length, ms := n.ms } C (evRun c C n fn xs.length κ) (fun k => labels { c with np := xs.length, ms := n.ms } C (evRun c C n fn xs.length κ k) b n.cert (finK c fn xs.length n κ)) := by
      refine ⟨fun _ _ _ _ => rfl, fun k id env hp q => ?_⟩
      show evLab c C (evRun c C n fn xs.length κ k) n fn xs.length κ id env hp q = _
      unfold evLab
      rw [hb]
      rfl
    have hlab : ∀ k p, p ∈ labels { c with np := xs.length, ms := n.ms } C (evRun c C n fn xs.length κ k) b n.cert (finK c fn xs.length n κ) →
        look (labels { c with np := xs.length, ms := n.ms } C (evRun c C n fn xs.length κ k) b n.cert (finK c fn xs.length n κ)) p.1 = some p.2 :=
      fun k p hp => look_mem (by rw [lab_ids]; exact hnd) hp
    unfold evFunc evTop at h
    simp only [hb, fE_eq, fBs_eq] at h
    have hst := enter_St hA fn.ntmps
    have hwp := code_ok (c := { c with np := xs.length, ms := n.ms }) hC hS hc.with hm rfl hL b n.cert (fun _ => finK c fn xs.length n κ) hlab k (enterS w ok xs vs) _ _ _ hst h
    refine wp_mono hwp ?_
    rintro e a' w' ⟨k', _, o, ho, hK⟩
    cases o with
    | norm env hp q =>
      obtain ⟨rfl, s, rfl, rfl, hst'⟩ := ho
      obtain ⟨rs1, us, rvs, ok', h1, h2, h3, h4⟩ := finish_ok hc hA hst' hK
      exact ⟨hst'.df, _, h1, rs1, us, rvs, ok', h2, h3, rfl, h4⟩
    | ret env hp q =>
      obtain ⟨rfl, s, rfl, rfl, hst'⟩ := ho
      obtain ⟨rs1, us, rvs, ok', h1, h2, h3, h4⟩ := finish_ok hc hA hst' hK
      exact ⟨hst'.df, _, h1, rs1, us, rvs, ok', h2, h3, rfl, h4⟩
    | exit id env hp q => simp [finK] at hK

end
end Go.Proofs.YthghchjbomlpfaaGreat.Ev

namespace Go.Proofs.YthghchjbomlpfaaGreat.Ev
set_option linter.unusedVariables false

section
variable {P : Program} {c : Ctx} {β γ : Type}

theorem A.un_some {a : A} {t : Ty} {f : t.den → Option γ} {r : γ} (h : (a.un t).bind f = some r) : ∃ x, a = .data t x ∧ f x = some r := by
  obtain ⟨x, h1, h2⟩ := Option.bind_eq_some_iff.1 h
  cases a <;> simp only [A.un, reduceCtorEq] at h1
  obtain ⟨e, he⟩ := castD_eq h1
  subst e; subst he
  exact ⟨_, rfl, h2⟩
theorem A.unMut_some {a : A} {t : Ty} {f : List t.den → Option γ} {r : γ} (h : (a.unMut t).bind f = some r) : ∃ x, a = .mut t x ∧ f x = some r := by
  obtain ⟨x, h1, h2⟩ := Option.bind_eq_some_iff.1 h
  cases a <;> simp only [A.unMut, reduceCtorEq] at h1
  obtain ⟨e, he⟩ := castD_eq h1
  simp only [Ty.slice.injEq] at e
  subst e; subst he
  exact ⟨_, rfl, h2⟩
theorem A.unBox_some {a : A} {f : A → Option γ} {r : γ} (h : a.unBox.bind f = some r) : ∃ x, a = .box x ∧ f x = some r := by
  obtain ⟨x, h1, h2⟩ := Option.bind_eq_some_iff.1 h
  cases a <;> simp only [A.unBox, reduceCtorEq, Option.some.injEq] at h1
  subst h1
  exact ⟨_, rfl, h2⟩
theorem A.unAgr_some {a : A} {f : List A → Option γ} {r : γ} (h : a.unAgr.bind f = some r) : ∃ x, a = .agr x ∧ f x = some r := by
  obtain ⟨x, h1, h2⟩ := Option.bind_eq_some_iff.1 h
  cases a <;> simp only [A.unAgr, reduceCtorEq, Option.some.injEq] at h1
  subst h1
  exact ⟨_, rfl, h2⟩
theorem A.unClo_ok {a : A} {g : Nat} {l : List A} (h : a.unClo g = some l) : a = .clo g l := by
  cases a <;> simp only [A.unClo, reduceCtorEq] at h
  rename_i f l'
  cases hb : Nat.beq f g with
  | false => rw [hb] at h; simp at h
  | true =>
    rw [hb] at h
    simp only [cond_true, Option.some.injEq] at h
    rw [Nat.eq_of_beq_eq_true hb, h]
theorem A.unClo_some {a : A} {g : Nat} {f : List A → Option γ} {r : γ} (h : (a.unClo g).bind f = some r) : ∃ l, a = .clo g l ∧ f l = some r := by
  obtain ⟨x, h1, h2⟩ := Option.bind_eq_some_iff.1 h
  exact ⟨x, A.unClo_ok h1, h2⟩
theorem orN_some {a : A} {g : Nat} {n : Option γ} {f : List A → Option γ} {r : γ} (h : orN (a.unClo g) n f = some r) : (∃ l, a = .clo g l ∧ f l = some r) ∨ n = some r := by
  unfold orN at h
  split at h
  · rename_i l hl; exact .inl ⟨l, A.unClo_ok hl, h⟩
  · exact .inr h
theorem lst0_some {α : Type} {l : List α} {f : Unit → Option γ} {r : γ} (h : (lst0 l).bind f = some r) : l = [] ∧ f () = some r := by
  cases l <;> simp [lst0] at h ⊢; exact h
theorem lst1_some {α : Type} {l : List α} {f : α → Option γ} {r : γ} (h : (lst1 l).bind f = some r) : ∃ a, l = [a] ∧ f a = some r := by
  match l, h with
  | [a], h => exact ⟨a, rfl, h⟩
theorem lst2_some {α : Type} {l : List α} {f : α × α → Option γ} {r : γ} (h : (lst2 l).bind f = some r) : ∃ a b, l = [a, b] ∧ f (a, b) = some r := by
  match l, h with
  | [a, b], h => exact ⟨a, b, rfl, h⟩
theorem lst3_some {α : Type} {l : List α} {f : α × α × α → Option γ} {r : γ} (h : (lst3 l).bind f = some r) : ∃ a b c, l = [a, b, c] ∧ f (a, b, c) = some r := by
  match l, h with
  | [a, b, c], h => exact ⟨a, b, c, rfl, h⟩
theorem lst4_some {α : Type} {l : List α} {f : α × α × α × α → Option γ} {r : γ} (h : (lst4 l).bind f = some r) : ∃ a b c d, l = [a, b, c, d] ∧ f (a, b, c, d) = some r := by
  match l, h with
  | [a, b, c, d], h => exact ⟨a, b, c, d, rfl, h⟩

theorem R.un_some {a : R} {t : Ty} {f : t.den → Option γ} {r : γ} (h : (a.un t).bind f = some r) : ∃ x, a = .data t x ∧ f x = some r := by
  obtain ⟨x, h1, h2⟩ := Option.bind_eq_some_iff.1 h
  cases a <;> simp only [R.un, reduceCtorEq] at h1
  obtain ⟨e, he⟩ := castD_eq h1
  subst e; subst he
  exact ⟨_, rfl, h2⟩
theorem R.unOwn_some {a : R} {t : Ty} {f : List t.den → Option γ} {r : γ} (h : (a.unOwn t).bind f = some r) : ∃ x, a = .own t x ∧ f x = some r := by
  obtain ⟨x, h1, h2⟩ := Option.bind_eq_some_iff.1 h
  cases a <;> simp only [R.unOwn, reduceCtorEq] at h1
  obtain ⟨e, he⟩ := castD_eq h1
  simp only [Ty.slice.injEq] at e
  subst e; subst he
  exact ⟨_, rfl, h2⟩
theorem R.unView_some {a : R} {i : Nat} {f : Nat × Nat → Option γ} {r : γ} (h : (a.unView i).bind f = some r) : ∃ x, a = .view i x.1 x.2 ∧ f x = some r := by
  obtain ⟨x, h1, h2⟩ := Option.bind_eq_some_iff.1 h
  cases a <;> simp only [R.unView, reduceCtorEq] at h1
  rename_i j off n
  cases hb : Nat.beq j i with
  | false => rw [hb] at h1; simp at h1
  | true =>
    rw [hb] at h1
    simp only [cond_true, Option.some.injEq] at h1
    subst h1
    exact ⟨_, by rw [Nat.eq_of_beq_eq_true hb], h2⟩
theorem R.unView0_some {a : R} {i : Nat} {f : Nat → Option γ} {r : γ} (h : (a.unView0 i).bind f = some r) : ∃ x, a = .view i 0 x ∧ f x = some r := by
  obtain ⟨x, h1, h2⟩ := Option.bind_eq_some_iff.1 h
  cases a <;> simp only [R.unView0, reduceCtorEq] at h1
  rename_i j off n
  cases hb : (Nat.beq j i && Nat.beq off 0) with
  | false => rw [hb] at h1; simp at h1
  | true =>
    rw [hb] at h1
    simp only [cond_true, Option.some.injEq] at h1
    subst h1
    simp only [Bool.and_eq_true] at hb
    exact ⟨_, by rw [Nat.eq_of_beq_eq_true hb.1, Nat.eq_of_beq_eq_true hb.2], h2⟩
theorem R.unUpd_some {a : R} {i : Nat} {t : Ty} {f : List t.den → Option γ} {r : γ} (h : (a.unUpd i t).bind f = some r) : ∃ x, a = .upd i t x ∧ f x = some r := by
  obtain ⟨x, h1, h2⟩ := Option.bind_eq_some_iff.1 h
  cases a <;> simp only [R.unUpd, reduceCtorEq] at h1
  rename_i j u y
  cases hb : Nat.beq j i with
  | false => rw [hb] at h1; simp at h1
  | true =>
    rw [hb] at h1
    simp only [cond_true] at h1
    obtain ⟨e, he⟩ := castD_eq h1
    simp only [Ty.slice.injEq] at e
    subst e; subst he
    exact ⟨_, by rw [Nat.eq_of_beq_eq_true hb], h2⟩

def FunOK (P : Program) (c : Ctx) (g : Nat) (F : Fun β) : Prop := ∀ xs κ r, F xs κ = some r → ∃ rs, CallOK P ((look c.muts g).getD []) g xs rs ∧ κ rs = some r

theorem orc_sound {l : List (Nat × Fun β)} (h : ∀ p ∈ l, FunOK P c p.1 p.2) : Sound (fun g xs rs => CallOK P ((look c.muts g).getD []) g xs rs) (orcOf l) := by
  intro g xs κ r hr
  unfold orcOf at hr
  split at hr
  · rename_i f hf
    have : ∀ {l : List (Nat × Fun β)} {f : Fun β}, look l g = some f → (∀ p ∈ l, FunOK P c p.1 p.2) → FunOK P c g f := by
      intro l
      induction l with
      | nil => intro f hf; simp [look] at hf
      | cons p l ih =>
        intro f hf hh
        obtain ⟨k, x⟩ := p
        simp only [look] at hf
        cases hb : Nat.beq k g with
        | true =>
          rw [hb] at hf
          simp only [cond_true, Option.some.injEq] at hf
          subst hf
          have := hh (k, x) (by simp)
          rw [Nat.eq_of_beq_eq_true hb] at this
          exact this
        | false => rw [hb] at hf; exact ih hf fun p hp => hh p (by simp [hp])
    exact this hf h xs κ r hr
  · simp at hr

theorem fun_ok {C : Oracle γ} (hc : CtxOK P c) (hm : P.follows .mixedOrders = true) (hC : Sound (fun g xs rs => CallOK P ((look c.muts g).getD []) g xs rs) C) {f : FuncId} {fn : Func} {b : Code} {n : Note} (hf : P.funcs[f]? = some fn) (hb : fn.body = some b)
    (hname : (fn.name == "runtime.NumGoroutine") = false) (hids : nodupB (labIds b n.cert) = true) (hms : (look c.muts f).getD [] = n.ms) {k : Nat} {xs : List A} {κ : List R → Option γ} {res : γ} (h : evFunc c C k n fn xs κ = some res) {rs : List R}
    (hinv : ∀ rs', κ rs' = some res → rs' = rs) : CallOK P ((look c.muts f).getD []) f xs rs := by
  intro w ok vs hA
  rw [hms] at hA
  have := func_ok hC (fun _ _ _ h => h) hc hm hf hb hname hids h w ok vs hA
  unfold CallsTo at this ⊢
  rcases this with ⟨h1, h2⟩ | ⟨v, w', h1, rs1, us, rvs, ok', h3, h4, h5, h6⟩
  · refine .inl ⟨h1, h2.mono fun e w' he => ?_⟩
    cases e with
    | returned v =>
      obtain ⟨rs1, us, rvs, ok', h3, h4, h5, h6⟩ := he
      exact ⟨rs1, us, rvs, ok', (hinv _ h3).symm, h4, h5, by rw [hms]; exact h6⟩
    | _ => exact he
  · exact .inr ⟨v, w', h1, rs1, us, rvs, ok', (hinv _ h3).symm, h4, h5, by rw [hms]; exact h6⟩

def Fit : (t : Ty) → t.den → Prop
  | .bool, _ => True
  | .int k, x => (Lit.int k x).wf = true
  | .str, x => ByteArray.size x ≤ reachBytes
  | .unit, _ => True
  | .pair a b, x => Fit a x.1 ∧ Fit b x.2
  | .agg a, x => Fit a x
  | .arr n e, xs => List.length xs = n ∧ ∀ x ∈ (xs : List e.den), Fit e x
  | .slice e, xs => List.length xs ≤ maxLen ∧ ∀ x ∈ (xs : List e.den), Fit e x

def opn : Ty → Bool
  | .pair a b => opn a && opn b
  | .agg a => opn a
  | .arr _ e => opn e
  | .slice e => !Nat.beq e.sz 0 && opn e
  | _ => true

def okW (W : World) : Nat → Prop := fun b => b < W.heap.size

theorem TyOK.cells {t : Ty} {T : TypeId} (h : TyOK P t T) : P.cellsOf T = t.sz := by
  obtain ⟨i, hi, hs, _⟩ := h.info
  simp [Program.cellsOf, hi, hs]

section
variable {H : Type} {enc : TypeId × Value → H} {W : World} {spare : Nat → Bool}

theorem wAll {e : TypeId} : ∀ {l : List (DataW H)} {q : Nat → Bool}, (DataW.weightsAll P e l).all q = true → ∀ d ∈ l, (d.weights P e).all q = true
  | [], q, _, d, h => by simp at h
  | x :: l, q, h, d, hd => by
    simp only [DataW.weightsAll, List.all_append, Bool.and_eq_true] at h
    rcases List.mem_cons.1 hd with rfl | hd
    · exact h.1
    · exact wAll h.2 d hd

theorem lrel_of {α : Type} {R : α → List Value → Prop} {F : α → Prop} {n : Nat} : ∀ {m : Nat} {cs : List Value}, cs.length = m * n → (∀ i, i < m → ∃ x, R x ((cs.drop (i * n)).take n) ∧ F x) → ∃ xs : List α, xs.length = m ∧ LRel R xs cs ∧ ∀ x ∈ xs, F x
  | 0, cs, hl, _ => ⟨[], rfl, by simp at hl; simp [LRel, hl], by simp⟩
  | m + 1, cs, hl, h => by
    obtain ⟨x, hx, hf⟩ := h 0 (by omega)
    simp only [Nat.zero_mul, List.drop_zero] at hx
    rw [Nat.succ_mul] at hl
    obtain ⟨xs, h1, h2, h3⟩ := lrel_of (F := F) (R := R) (n := n) (m := m) (cs := cs.drop n) (by rw [List.length_drop, hl]; omega) (fun i hi => by
      obtain ⟨y, hy, hfy⟩ := h (i + 1) (by omega)
      refine ⟨y, ?_, hfy⟩
      rw [List.drop_drop, show n + i * n = (i + 1) * n by rw [Nat.succ_mul]; omega]
      exact hy)
    refine ⟨x :: xs, by simp [h1], ⟨cs.take n, cs.drop n, by simp, hx, h2⟩, fun y hy => ?_⟩
    rcases List.mem_cons.1 hy with rfl | hy
    · exact hf
    · exact h3 y hy

theorem cells_at {base : Nat} {a : Addr} {n : Nat} {cs : List Value} (h : W.cells? base a n = some cs) : cs.length = n ∧ ∀ i, i < n → W.cell? (a.add i) = cs[i]? := by
  unfold World.cells? at h
  split at h
  · have h1 := mapM_some_length h
    rw [List.length_range] at h1
    exact ⟨h1, fun i hi => (mapM_some_get h i i (by simp [hi]))⟩
  · simp at h

theorem trod_bool' {T : TypeId} {fuel : Nat} {cs : List Value} {x : DataW H × List MemPlace} (hu : P.underlying T = some .bool) (h : DataW.trod enc P W 0 spare true fuel T cs = some x) : ∃ b, cs = [.bool b] := by
  cases fuel with
  | zero => simp [DataW.trod] at h
  | succ n =>
    unfold DataW.trod at h
    rw [hu] at h
    match cs, h with
    | [.bool b], _ => exact ⟨b, rfl⟩

theorem trod_str' {T : TypeId} {fuel : Nat} {cs : List Value} {x : DataW H × List MemPlace} (hu : P.underlying T = some .string) (h : DataW.trod enc P W 0 spare true fuel T cs = some x) : ∃ s, cs = [.string s] ∧ x.1 = .lit (.string s.data.toList) := by
  cases fuel with
  | zero => simp [DataW.trod] at h
  | succ n =>
    unfold DataW.trod at h
    rw [hu] at h
    match cs, h with
    | [.string s], h =>
      refine ⟨s, rfl, ?_⟩
      simp only at h
      split at h
      · simp only [Option.some.injEq] at h; rw [← h]
      · simp at h

theorem trod_slice' {T E : TypeId} {fuel : Nat} {cs : List Value} {x : DataW H × List MemPlace} (hu : P.underlying T = some (.slice E)) (h : DataW.trod enc P W 0 spare true fuel T cs = some x) :
    cs = [.slice none 0 0] ∨ ∃ a len cap n elems rest, cs = [.slice (some a) len cap] ∧ fuel = n + 1 ∧ len ≤ cap ∧ cap ≤ maxLen ∧
      (List.range len).mapM (fun i => (W.cells? 0 (a.add (i * P.cellsOf E)) (P.cellsOf E)).bind (DataW.trod enc P W 0 spare true n E)) = some elems ∧ x.1 = .slice (elems.map (·.1)) rest := by
  cases fuel with
  | zero => simp [DataW.trod] at h
  | succ n =>
    unfold DataW.trod at h
    rw [hu] at h
    match cs, h with
    | [.slice none 0 0], _ => exact .inl rfl
    | [.slice (some a) len cap], h =>
      right
      simp only at h
      split at h
      · rename_i hc
        obtain ⟨elems, h1, h2⟩ := Option.bind_eq_some_iff.1 h
        obtain ⟨rest, h3, rfl⟩ := Option.map_eq_some_iff.1 h2
        exact ⟨a, len, cap, n, elems, _, rfl, rfl, hc.2.1, hc.2.2, h1, rfl⟩
      · simp at h

mutual
theorem open_rel : ∀ {t : Ty} {T : TypeId} {fuel : Nat} {cs : List Value} {x : DataW H × List MemPlace}, TyOK P t T → opn t = true → DataW.trod enc P W 0 spare true fuel T cs = some x → (x.1.weights P T).all (· ≤ reachBytes) = true →
    ∃ v : t.den, DRel W (okW W) t v cs ∧ Fit t v
  | .bool, T, fuel, cs, x, hT, ho, h, hw => by
    simp only [TyOK] at hT
    obtain ⟨b, rfl⟩ := trod_bool' hT.1 h
    exact ⟨(b : Bool), rfl, trivial⟩
  | .int k, T, fuel, cs, x, hT, ho, h, hw => by
    simp only [TyOK] at hT
    obtain ⟨n, h1, h2, h3⟩ := DataW.trod_int hT.1 h
    exact ⟨(n : Int), h1, h3⟩
  | .str, T, fuel, cs, x, hT, ho, h, hw => by
    simp only [TyOK] at hT
    obtain ⟨s, rfl, h2⟩ := trod_str' hT.1 h
    rw [h2] at hw
    simp only [DataW.weights, List.all_cons, List.all_nil, Bool.and_true, decide_eq_true_eq, Array.length_toList] at hw
    exact ⟨(s : ByteArray), rfl, hw⟩
  | .unit, T, fuel, cs, x, hT, ho, h, hw => by simp [TyOK] at hT
  | .pair a b, T, fuel, cs, x, hT, ho, h, hw => by simp [TyOK] at hT
  | .agg u, T, fuel, cs, x, hT, ho, h, hw => by
    have hcl := hT.cells
    simp only [TyOK] at hT
    obtain ⟨fs, hu, _, _, hf⟩ := hT
    obtain ⟨xs, m, rfl, rfl, h1, h2, h3⟩ := DataW.trod_struct hu h
    rw [hcl, Ty.sz] at h1
    simp only [DataW.weights, hu] at hw
    obtain ⟨v, g1, g2⟩ := open_fields (u := u) (px := []) (m := m) (xs := xs) (cs := cs) hf ho h1 (by simpa using h2) (fun i f hi => by simpa using h3 i f (by simpa using hi)) hw
    exact ⟨v, by simpa [DRel] using g1, g2⟩
  | .arr n e, T, fuel, cs, x, hT, ho, h, hw => by
    have hcl := hT.cells
    simp only [TyOK] at hT
    obtain ⟨E, hu, _, hE⟩ := hT
    obtain ⟨xs, m, rfl, rfl, h1, h2, h3⟩ := DataW.trod_array hu h
    rw [hcl, Ty.sz] at h1
    simp only [DataW.weights, hu] at hw
    have ho' : opn e = true := ho
    obtain ⟨ys, k1, k2, k3⟩ := lrel_of (R := fun x c => DRel W (okW W) e x c) (F := Fit e) (n := e.sz) (m := n) h1 (fun i hi => by
      have h4 := h3 i hi
      rw [hE.cells] at h4
      have hi' : i < xs.length := by omega
      rw [List.getElem?_eq_getElem hi'] at h4
      obtain ⟨v, g1, g2⟩ := open_rel hE ho' h4 (wAll hw _ (List.mem_map.2 ⟨xs[i], List.getElem_mem hi', rfl⟩))
      exact ⟨v, g1, g2⟩)
    exact ⟨ys, by simp only [DRel]; exact ⟨k1, k2⟩, k1, k3⟩
  | .slice e, T, fuel, cs, x, hT, ho, h, hw => by
    simp only [TyOK] at hT
    obtain ⟨E, hu, _, hE⟩ := hT
    simp only [opn, Bool.and_eq_true, Bool.not_eq_true'] at ho
    have hsz : e.sz ≠ 0 := fun h0 => by rw [h0] at ho; simp at ho
    rcases trod_slice' hu h with rfl | ⟨a, len, cap, fuel, elems, rest, rfl, rfl, hcond1, hcond2, h1, h2⟩
    · exact ⟨([] : List e.den), by simp only [DRel]; exact ⟨none, 0, by simp, by simp, .inl rfl⟩, by simp [], by simp⟩
    · · have hcond : True ∧ len ≤ cap ∧ cap ≤ maxLen := ⟨trivial, hcond1, hcond2⟩
        have hel : elems.length = len := by have := mapM_some_length h1; simpa using this
        rw [h2] at hw
        simp only [DataW.weights, hu, List.all_cons, List.all_append, Bool.and_eq_true] at hw
        rw [hE.cells] at h1
        have hget : ∀ i, i < len → ∃ ci, W.cells? 0 (a.add (i * e.sz)) e.sz = some ci ∧ ∃ (hi : i < elems.length), DataW.trod enc P W 0 spare true fuel E ci = some elems[i] := by
          intro i hi
          have := mapM_some_get h1 i i (by simp [hi])
          rw [List.getElem?_eq_getElem (by omega : i < elems.length)] at this
          obtain ⟨ci, g1, g2⟩ := Option.bind_eq_some_iff.1 this
          exact ⟨ci, g1, by omega, g2⟩
        by_cases h0 : len = 0
        · subst h0
          exact ⟨([] : List e.den), by simp only [DRel]; exact ⟨some a, cap, by simp, by simp, .inl rfl⟩, by simp [], by simp⟩
        · -- the cells lie in a row
          have hspot : a.spot = none := by
            obtain ⟨ci, g1, _⟩ := hget 0 (by omega)
            obtain ⟨k1, k2⟩ := cells_at g1
            have := k2 0 (by omega)
            rw [Nat.zero_mul] at this
            have hs0 : ci[0]? = some (ci[0]'(by omega)) := List.getElem?_eq_getElem _
            rw [hs0] at this
            unfold World.cell? at this
            simp only [Addr.add, if_true] at this
            cases hsp : a.spot with
            | none => rfl
            | some z =>
              rw [hsp] at this
              split at this <;> simp at this
          obtain ⟨b, o, sp⟩ := a
          simp only at hspot
          subst hspot
          have hci : ∀ i, i < len → ∃ ci, ci.length = e.sz ∧ (∀ j, j < e.sz → W.cell? ⟨b, o + i * e.sz + j, none⟩ = ci[j]?) ∧ ∃ (hi : i < elems.length), DataW.trod enc P W 0 spare true fuel E ci = some elems[i] := by
            intro i hi
            obtain ⟨ci, g1, g2⟩ := hget i hi
            obtain ⟨k1, k2⟩ := cells_at g1
            refine ⟨ci, k1, fun j hj => ?_, g2⟩
            have := k2 j hj
            rw [Addr.add_mid, Addr.add_mid] at this
            exact this
          -- all of them
          have hrow : ∀ m, m ≤ len → ∃ rs : List Value, rs.length = m * e.sz ∧ (∀ j, j < m * e.sz → W.cell? ⟨b, o + j, none⟩ = rs[j]?) ∧ ∃ ys : List e.den, ys.length = m ∧ LRel (fun x c => DRel W (okW W) e x c) ys rs ∧ ∀ y ∈ ys, Fit e y := by
            intro m
            induction m with
            | zero => intro _; exact ⟨[], by simp, by simp, [], rfl, rfl, by simp⟩
            | succ m ih =>
              intro hm
              obtain ⟨rs, i1, i2, ys, i3, i4, i5⟩ := ih (by omega)
              obtain ⟨ci, c1, c2, hi', c3⟩ := hci m (by omega)
              obtain ⟨v, g1, g2⟩ := open_rel hE ho.2 c3 (wAll hw.2.1 _ (List.mem_map.2 ⟨elems[m], List.getElem_mem hi', rfl⟩))
              refine ⟨rs ++ ci, by rw [List.length_append, i1, c1, Nat.succ_mul], fun j hj => ?_, ys ++ [v], by simp [i3], LRel.append i4 (LRel.single g1), fun y hy => ?_⟩
              · rw [Nat.succ_mul] at hj
                rcases Nat.lt_or_ge j (m * e.sz) with h' | h'
                · rw [List.getElem?_append_left (by omega)]; exact i2 j h'
                · rw [List.getElem?_append_right (by omega), i1, ← c2 (j - m * e.sz) (by omega)]
                  congr 2; omega
              · rcases List.mem_append.1 hy with hy | hy
                · exact i5 y hy
                · simp only [List.mem_singleton] at hy; subst hy; exact g2
          obtain ⟨rs, i1, i2, ys, i3, i4, i5⟩ := hrow len (Nat.le_refl _)
          have hb : b < W.heap.size := by
            have hpos : 0 < len * e.sz := Nat.mul_pos (by omega) (by omega)
            have := i2 0 hpos
            have hs0 : rs[0]? = some (rs[0]'(by omega)) := List.getElem?_eq_getElem _
            rw [hs0] at this
            exact World.block_lt_of_cell? W _ this
          refine ⟨ys, ?_, by have : List.length ys ≤ maxLen := (by rw [i3]; omega); exact this, i5⟩
          simp only [DRel]
          refine ⟨some ⟨b, o, none⟩, cap, by rw [i3], by rw [i3]; exact hcond.2.1, .inr ⟨b, o, rs, rfl, hb, fun j v hv => ?_, i4⟩⟩
          have hj : j < rs.length := (List.getElem?_eq_some_iff.1 hv).1
          rw [i2 j (by omega)]; exact hv
theorem open_fields : ∀ {u : Ty} {px : List Value} {fs : List Go.Field} {m : Nat} {cs : List Value} {xs : List (DataW H × List MemPlace)}, FOK P u px.length fs → opn u = true → cs.length = u.sz → xs.length = fs.length →
    (∀ (i : Nat) f, fs[i]? = some f → DataW.trod enc P W 0 spare true m f.type (((px ++ cs).drop f.offset).take (P.cellsOf f.type)) = xs[i]?) →
    (DataW.weightsEach P (fs.map (·.type)) (xs.map (·.1))).all (· ≤ reachBytes) = true → ∃ v : u.den, DRel W (okW W) u v cs ∧ Fit u v
  | .unit, px, fs, m, cs, xs, hf, ho, hl, hx, hg, hw => ⟨(), by simpa [DRel, Ty.sz] using hl, trivial⟩
  | .pair a b, px, [], m, cs, xs, hf, ho, hl, hx, hg, hw => by simp [FOK] at hf
  | .pair a b, px, f :: fs, m, cs, x :: xs, hf, ho, hl, hx, hg, hw => by
    simp only [FOK] at hf
    obtain ⟨⟨_, _⟩, hoff, hT, hrest⟩ := hf
    simp only [opn, Bool.and_eq_true] at ho
    simp only [Ty.sz] at hl
    simp only [List.map_cons, DataW.weightsEach, List.all_append, Bool.and_eq_true] at hw
    have h0 := hg 0 f rfl
    rw [hoff, hT.cells, List.drop_left] at h0
    simp only [List.getElem?_cons_zero] at h0
    obtain ⟨v, g1, g2⟩ := open_rel hT ho.1 h0 hw.1
    have hsp : cs = cs.take a.sz ++ cs.drop a.sz := by simp
    have hdl : (cs.drop a.sz).length = b.sz := by rw [List.length_drop, hl]; omega
    have htl : (cs.take a.sz).length = a.sz := by rw [List.length_take, hl]; omega
    have fin : ∀ w : b.den, DRel W (okW W) b w (cs.drop a.sz) → Fit b w → ∃ v : (Ty.pair a b).den, DRel W (okW W) (.pair a b) v cs ∧ Fit (.pair a b) v := fun w k1 k2 => ⟨(v, w), by simp only [DRel]; exact ⟨_, _, hsp, g1, k1⟩, g2, k2⟩
    match fs, hrest, hg, hx, hw with
    | [], hr, hg, hx, hw =>
      subst hr
      refine fin () ?_ trivial
      simp only [DRel]
      exact List.length_eq_zero_iff.1 (by rw [hdl]; rfl)
    | [g], hr, hg, hx, hw =>
      obtain ⟨⟨_, _⟩, hgo, hgT⟩ := hr
      match xs, hx, hg, hw with
      | [y], hx, hg, hw =>
        have h1 := hg 1 g rfl
        rw [hgo, hgT.cells, ← List.drop_drop, List.drop_left] at h1
        simp only [List.getElem?_cons_succ, List.getElem?_cons_zero] at h1
        rw [List.take_of_length_le (by rw [hdl]; exact Nat.le_refl _)] at h1
        simp only [List.map_cons, List.map_nil, DataW.weightsEach, List.append_nil] at hw
        obtain ⟨w, k1, k2⟩ := open_rel hgT ho.2 h1 (by simpa using hw.2)
        exact fin w k1 k2
    | g :: g' :: fs', hr, hg, hx, hw =>
      obtain ⟨w, k1, k2⟩ := open_fields (u := b) (px := px ++ cs.take a.sz) (fs := g :: g' :: fs') (m := m) (cs := cs.drop a.sz) (xs := xs) (by rw [List.length_append, htl]; exact hr) ho.2 hdl (by simpa using hx) (fun i f' hi => by
        rw [List.append_assoc, ← hsp]
        exact hg (i + 1) f' (by simpa using hi)) hw.2
      exact fin w k1 k2
  | .bool, px, fs, m, cs, xs, hf, ho, hl, hx, hg, hw => by cases fs <;> simp [FOK] at hf
  | .int _, px, fs, m, cs, xs, hf, ho, hl, hx, hg, hw => by cases fs <;> simp [FOK] at hf
  | .str, px, fs, m, cs, xs, hf, ho, hl, hx, hg, hw => by cases fs <;> simp [FOK] at hf
  | .agg _, px, fs, m, cs, xs, hf, ho, hl, hx, hg, hw => by cases fs <;> simp [FOK] at hf
  | .arr _ _, px, fs, m, cs, xs, hf, ho, hl, hx, hg, hw => by cases fs <;> simp [FOK] at hf
  | .slice _, px, fs, m, cs, xs, hf, ho, hl, hx, hg, hw => by cases fs <;> simp [FOK] at hf
end

end
end
end Go.Proofs.YthghchjbomlpfaaGreat.Ev

namespace Go.Proofs.YthghchjbomlpfaaGreat.Ev
set_option linter.unusedVariables false

def v1 : Value → Value → Bool
  | .bool a, .bool b => a == b
  | .int k a, .int l b => decide (k = l) && decide (a = b)
  | .string a, .string b => decide (a.data.toList = b.data.toList)
  | .slice none 0 0, .slice none 0 0 => true
  | _, _ => false

theorem v1_eq {a b : Value} (h : v1 a b = true) : a = b := by
  unfold v1 at h
  split at h
  · simp at h; rw [h]
  · simp at h; rw [h.1, h.2]
  · simp at h
    rename_i a b
    congr 1
    cases a; cases b
    simp at h
    rw [h]
  · rfl
  · simp at h

def vL : List Value → List Value → Bool
  | [], [] => true
  | a :: l, b :: m => v1 a b && vL l m
  | _, _ => false

theorem vL_eq : ∀ {l m : List Value}, vL l m = true → l = m
  | [], [], _ => rfl
  | a :: l, b :: m, h => by
    simp only [vL, Bool.and_eq_true] at h
    rw [v1_eq h.1, vL_eq h.2]
  | [], _ :: _, h => by simp [vL] at h
  | _ :: _, [], h => by simp [vL] at h

def vE : Value → Value → Bool
  | .agg a, .agg b => vL a.toList b.toList
  | a, b => v1 a b

theorem vE_eq {a b : Value} (h : vE a b = true) : a = b := by
  unfold vE at h
  split at h
  · rename_i a b
    have := vL_eq h
    congr 1
    exact Array.ext' this
  · exact v1_eq h

def infoB (P : Program) (T : TypeId) (n : Nat) (z : Value) : Bool :=
  match P.info? T with
  | some i => Nat.beq i.size n && (match i.zero with
    | some y => vE y z
    | none => false)
  | none => false

theorem infoB_ok {P : Program} {T : TypeId} {n : Nat} {z : Value} (h : infoB P T n z = true) : Info P T n z := by
  unfold infoB at h
  split at h
  · rename_i i hi
    simp only [Bool.and_eq_true] at h
    split at h
    · rename_i y hy
      exact ⟨i, hi, Nat.eq_of_beq_eq_true h.1, by rw [hy, vE_eq h.2]⟩
    · simp at h
  · simp at h

mutual
def tyB (P : Program) : Ty → TypeId → Bool
  | .bool, T => (match P.underlying T with | some .bool => true | _ => false) && infoB P T 1 (.bool false)
  | .int k, T => (match P.underlying T with | some (.int l) => decide (k = l) | _ => false) && infoB P T 1 (.int k 0)
  | .str, T => (match P.underlying T with | some .string => true | _ => false) && infoB P T 1 (.string ⟨#[]⟩)
  | .unit, _ => false
  | .pair _ _, _ => false
  | .agg u, T => match P.underlying T with
    | some (.struct fs) => infoB P T u.sz (.agg (zc u).toArray) && (!P.stoodInHeld T && !P.eqGuardType P.depth T) && fldB P u 0 fs.toList
    | _ => false
  | .arr n e, T => match P.underlying T with
    | some (.array m E) => Nat.beq n m && infoB P T (n * e.sz) (.agg (zc (.arr n e)).toArray) && tyB P e E
    | _ => false
  | .slice e, T => match P.underlying T with
    | some (.slice E) => infoB P T 1 (.slice none 0 0) && tyB P e E
    | _ => false
def fldB (P : Program) : Ty → Nat → List Go.Field → Bool
  | .pair a b, off, f :: fs => (decide (f.name ≠ "_") && !Nat.beq a.sz 0) && Nat.beq f.offset off && tyB P a f.type && (match fs with
    | [] => (match b with | .unit => true | _ => false)
    | [g] => (decide (g.name ≠ "_") && !Nat.beq b.sz 0) && Nat.beq g.offset (off + a.sz) && tyB P b g.type
    | fs => fldB P b (off + a.sz) fs)
  | .unit, _, [] => true
  | _, _, _ => false
end

section
variable {P : Program}
mutual
theorem tyB_ok : ∀ {t : Ty} {T : TypeId}, tyB P t T = true → TyOK P t T
  | .bool, T, h => by
    simp only [tyB, Bool.and_eq_true] at h
    simp only [TyOK]
    refine ⟨?_, infoB_ok h.2⟩
    have := h.1
    split at this
    · rename_i hu; exact hu
    · simp at this
  | .int k, T, h => by
    simp only [tyB, Bool.and_eq_true] at h
    simp only [TyOK]
    refine ⟨?_, infoB_ok h.2⟩
    have := h.1
    split at this
    · rename_i l hu; rw [of_decide_eq_true this]; exact hu
    · simp at this
  | .str, T, h => by
    simp only [tyB, Bool.and_eq_true] at h
    simp only [TyOK]
    refine ⟨?_, infoB_ok h.2⟩
    have := h.1
    split at this
    · rename_i hu; exact hu
    · simp at this
  | .unit, T, h => by simp [tyB] at h
  | .pair a b, T, h => by simp [tyB] at h
  | .agg u, T, h => by
    simp only [tyB] at h
    split at h
    · rename_i fs hu
      simp only [Bool.and_eq_true, Bool.not_eq_true'] at h
      simp only [TyOK]
      exact ⟨fs, hu, infoB_ok h.1.1, h.1.2, fldB_ok h.2⟩
    · simp at h
  | .arr n e, T, h => by
    simp only [tyB] at h
    split at h
    · rename_i m E hu
      simp only [Bool.and_eq_true] at h
      simp only [TyOK]
      obtain rfl := Nat.eq_of_beq_eq_true h.1.1
      exact ⟨E, hu, infoB_ok h.1.2, tyB_ok h.2⟩
    · simp at h
  | .slice e, T, h => by
    simp only [tyB] at h
    split at h
    · rename_i E hu
      simp only [Bool.and_eq_true] at h
      simp only [TyOK]
      exact ⟨E, hu, infoB_ok h.1, tyB_ok h.2⟩
    · simp at h
theorem fldB_ok : ∀ {u : Ty} {off : Nat} {fs : List Go.Field}, fldB P u off fs = true → FOK P u off fs
  | .pair a b, off, [f], h => by
    simp only [fldB, Bool.and_eq_true, decide_eq_true_eq, Bool.not_eq_true'] at h
    obtain ⟨⟨⟨⟨h1, h2⟩, h3⟩, h4⟩, h5⟩ := h
    simp only [FOK]
    refine ⟨⟨h1, fun e => by rw [e] at h2; simp at h2⟩, Nat.eq_of_beq_eq_true h3, tyB_ok h4, ?_⟩
    split at h5
    · rfl
    · simp at h5
  | .pair a b, off, [f, g], h => by
    simp only [fldB, Bool.and_eq_true, decide_eq_true_eq, Bool.not_eq_true'] at h
    obtain ⟨⟨⟨⟨h1, h2⟩, h3⟩, h4⟩, ⟨⟨h5, h6⟩, h7⟩, h8⟩ := h
    simp only [FOK]
    exact ⟨⟨h1, fun e => by rw [e] at h2; simp at h2⟩, Nat.eq_of_beq_eq_true h3, tyB_ok h4, ⟨h5, fun e => by rw [e] at h6; simp at h6⟩, Nat.eq_of_beq_eq_true h7, tyB_ok h8⟩
  | .pair a b, off, f :: g :: g' :: fs, h => by
    simp only [fldB, Bool.and_eq_true, decide_eq_true_eq, Bool.not_eq_true'] at h
    obtain ⟨⟨⟨⟨h1, h2⟩, h3⟩, h4⟩, h5⟩ := h
    simp only [FOK]
    exact ⟨⟨h1, fun e => by rw [e] at h2; simp at h2⟩, Nat.eq_of_beq_eq_true h3, tyB_ok h4, fldB_ok h5⟩
  | .pair a b, off, [], h => by simp [fldB] at h
  | .unit, off, [], h => by simp [FOK]
  | .unit, off, _ :: _, h => by simp [fldB] at h
  | .bool, off, fs, h => by simp [fldB] at h
  | .int _, off, fs, h => by simp [fldB] at h
  | .str, off, fs, h => by simp [fldB] at h
  | .agg _, off, fs, h => by simp [fldB] at h
  | .arr _ _, off, fs, h => by simp [fldB] at h
  | .slice _, off, fs, h => by simp [fldB] at h
end

def bytB (P : Program) (T : TypeId) (t : Ty) (b : Nat) : Bool :=
  match t with
  | .slice _ => match P.underlying T with
    | some (.slice E) => (match P.info? E with
      | some i => Nat.beq i.bytes b
      | none => false)
    | _ => false
  | _ => true

def oneB (P : Program) (T : TypeId) : Bool :=
  (match P.underlying T with | some d => !d.isRow | none => false) && (match P.info? T with | some i => Nat.beq i.size 1 | none => false)

def agrF (P : Program) : Nat → List Go.Field → Bool
  | _, [] => true
  | j, f :: fs => Nat.beq f.offset j && oneB P f.type && agrF P (j + 1) fs

def agrB (P : Program) (T : TypeId) (n : Nat) : Bool :=
  match P.underlying T with
  | some (.struct fs) => Nat.beq fs.size n && agrF P 0 fs.toList && (match P.info? T with
    | some i => Nat.beq i.size n && (match i.zero with
      | some z => Nat.beq z.cells.size n
      | none => false)
    | none => false)
  | _ => false

def isNoneB (c : Ctx) (T : Nat) : Bool := match look c.tab T with
  | none => true
  | some _ => false

def ctxB (P : Program) (c : Ctx) : Bool :=
  (c.muts.all fun p => nodupB p.2) && (c.fns.all fun T => isNoneB c T && oneB P T) && (c.agrs.all fun p => isNoneB c p.1 && agrB P p.1 p.2) &&
    (c.tab.all fun p => Nat.ble p.2.1.dep 10000 && tyB P p.2.1 p.1 && bytB P p.1 p.2.1 p.2.2)

theorem look_in {α : Type} : ∀ {l : List (Nat × α)} {k : Nat} {x : α}, look l k = some x → (k, x) ∈ l
  | [], k, x, h => by simp [look] at h
  | (k', x') :: l, k, x, h => by
    simp only [look] at h
    cases hb : Nat.beq k' k with
    | true =>
      rw [hb] at h
      simp only [cond_true, Option.some.injEq] at h
      rw [Nat.eq_of_beq_eq_true hb, h]; simp
    | false => rw [hb] at h; exact List.mem_cons_of_mem _ (look_in h)

theorem isNoneB_ok {c : Ctx} {T : Nat} (h : isNoneB c T = true) : c.ty T = none := by
  unfold isNoneB at h
  unfold Ctx.ty
  split at h
  · rename_i hl; rw [hl]; rfl
  · simp at h

theorem oneB_ok {T : TypeId} (h : oneB P T = true) : (∃ d, P.underlying T = some d ∧ d.isRow = false) ∧ ∃ i, P.info? T = some i ∧ i.size = 1 := by
  unfold oneB at h
  simp only [Bool.and_eq_true] at h
  obtain ⟨h1, h2⟩ := h
  constructor
  · split at h1
    · rename_i d hd; exact ⟨d, hd, by simpa using h1⟩
    · simp at h1
  · split at h2
    · rename_i i hi; exact ⟨i, hi, Nat.eq_of_beq_eq_true h2⟩
    · simp at h2

theorem agrF_ok : ∀ {fs : List Go.Field} {j : Nat}, agrF P j fs = true → ∀ (k : Nat) f, fs[k]? = some f → f.offset = j + k ∧ (∃ d, P.underlying f.type = some d ∧ d.isRow = false) ∧ ∃ i, P.info? f.type = some i ∧ i.size = 1
  | [], j, _, k, f, h => by simp at h
  | g :: fs, j, h, 0, f, hf => by
    simp only [List.getElem?_cons_zero, Option.some.injEq] at hf
    subst hf
    simp only [agrF, Bool.and_eq_true] at h
    obtain ⟨h1, h2⟩ := oneB_ok h.1.2
    exact ⟨by rw [Nat.eq_of_beq_eq_true h.1.1]; rfl, h1, h2⟩
  | g :: fs, j, h, k + 1, f, hf => by
    simp only [agrF, Bool.and_eq_true] at h
    have := agrF_ok h.2 k f (by simpa using hf)
    rw [show j + (k + 1) = j + 1 + k by omega]; exact this

theorem ctxB_ok {c : Ctx} (h : ctxB P c = true) : CtxOK P c := by
  simp only [ctxB, Bool.and_eq_true] at h
  obtain ⟨⟨⟨h1, h2⟩, h3⟩, h4⟩ := h
  have hf : ∀ T, c.fns.contains T = true → (isNoneB c T && oneB P T) = true := fun T hT => List.all_eq_true.1 h2 T (by simpa using hT)
  have ha : ∀ T n, look c.agrs T = some n → (isNoneB c T && agrB P T n) = true := fun T n hT => List.all_eq_true.1 h3 (T, n) (look_in hT)
  have ht : ∀ T t b, look c.tab T = some (t, b) → (Nat.ble t.dep 10000 && tyB P t T && bytB P T t b) = true := fun T t b hT => List.all_eq_true.1 h4 (T, t, b) (look_in hT)
  simp only [Bool.and_eq_true] at hf ha ht
  refine ⟨fun g l hl => nodupB_ok (List.all_eq_true.1 h1 (g, l) (look_in hl)), fun T hT => isNoneB_ok (hf T hT).1, fun T n hT => isNoneB_ok (ha T n hT).1, fun T t b hT => Nat.le_of_ble_eq_true (ht T t b hT).1.1, fun T t b hT => tyB_ok (ht T t b hT).1.2, fun T e b hT => ?_, fun T hT => ?_, fun T n hT => ?_⟩
  · have := (ht T _ b hT).2
    unfold bytB at this
    simp only at this
    split at this
    · rename_i E hu
      split at this
      · rename_i i hi; exact ⟨E, i, hu, hi, Nat.eq_of_beq_eq_true this⟩
      · simp at this
    · simp at this
  · obtain ⟨⟨d, g1, g2⟩, g3⟩ := oneB_ok (hf T hT).2
    exact ⟨d, g1, g2, g3⟩
  · have := (ha T n hT).2
    unfold agrB at this
    split at this
    · rename_i fs hu
      simp only [Bool.and_eq_true] at this
      obtain ⟨⟨k1, k2⟩, k3⟩ := this
      split at k3
      · rename_i i hi
        simp only [Bool.and_eq_true] at k3
        obtain ⟨k3, k4⟩ := k3
        split at k4
        · rename_i z hz
          refine ⟨fs, hu, Nat.eq_of_beq_eq_true k1, ⟨i, z, hi, Nat.eq_of_beq_eq_true k3, hz, Nat.eq_of_beq_eq_true k4⟩, fun j f hj => ?_⟩
          have := agrF_ok k2 j f (by simpa using hj)
          rw [Nat.zero_add] at this
          exact this
        · simp at k4
      · simp at k3
    · simp at this

end
end Go.Proofs.YthghchjbomlpfaaGreat.Ev

namespace Go.Proofs.YthghchjbomlpfaaGreat.Ev
set_option linter.unusedVariables false

section
variable {P : Program} {c : Ctx} {β γ : Type}

def eqL : List Nat → List Nat → Bool
  | [], [] => true
  | a :: l, b :: m => Nat.beq a b && eqL l m
  | _, _ => false
theorem eqL_ok : ∀ {l m : List Nat}, eqL l m = true → l = m
  | [], [], _ => rfl
  | a :: l, b :: m, h => by
    simp only [eqL, Bool.and_eq_true] at h
    rw [Nat.eq_of_beq_eq_true h.1, eqL_ok h.2]
  | [], _ :: _, h => by simp [eqL] at h
  | _ :: _, [], h => by simp [eqL] at h

def fnB (c : Ctx) (f : FuncId) (fn : Func) (n : Note) : Bool :=
  (match fn.body with | some b => nodupB (labIds b n.cert) | none => false) && !(fn.name == "runtime.NumGoroutine") && eqL ((look c.muts f).getD []) n.ms

theorem fun_ok' {C : Oracle γ} (hc : CtxOK P c) (hm : P.follows .mixedOrders = true) {f : FuncId} {fn : Func} {n : Note} (hf : P.funcs[f]? = some fn) (hb : fnB c f fn n = true)
    (hC : Sound (fun g xs rs => CallOK P ((look c.muts g).getD []) g xs rs) C) {k : Nat} {xs : List A} {κ : List R → Option γ} {res : γ} {rs : List R} (h : evFunc c C k n fn xs κ = some res)
    (hinv : ∀ rs' : List R, κ rs' = some res → rs' = rs) : CallOK P ((look c.muts f).getD []) f xs rs := by
  simp only [fnB, Bool.and_eq_true, Bool.not_eq_true'] at hb
  obtain ⟨⟨h1, h2⟩, h3⟩ := hb
  split at h1
  · rename_i b hbd
    exact fun_ok hc hm hC hf hbd h2 h1 (eqL_ok h3) h hinv
  · simp at h1

theorem no {α : Type} {r : α} {Q : Prop} (h : (none : Option α) = some r) : Q := nomatch h
theorem bnd {α δ : Type} {o : Option α} {f : α → Option δ} {r : δ} (h : o.bind f = some r) : ∃ x, o = some x ∧ f x = some r := Option.bind_eq_some_iff.1 h
theorem inj {α : Type} {x r : α} (h : some x = some r) : x = r := Option.some.inj h

theorem orc_nil : ∀ p ∈ ([] : List (Nat × Fun β)), FunOK P c p.1 p.2 := fun p hp => by simp at hp
theorem orc_cons {g : Nat} {F : Fun β} {l : List (Nat × Fun β)} (h : FunOK P c g F) (hl : ∀ p ∈ l, FunOK P c p.1 p.2) : ∀ p ∈ (g, F) :: l, FunOK P c p.1 p.2 := fun p hp => by
  rcases List.mem_cons.1 hp with rfl | hp
  · exact h
  · exact hl p hp
theorem fun_none {g : Nat} : FunOK P c g (fun _ _ => none : Fun β) := fun _ _ _ h => by simp at h

def subEntry : Array Value → Sem Value := fun args => do
  let (x, y, b) ← Extern.MathBitsCarry.three "Sub64" args
  pure (Extern.MathBitsCarry.pair ((x + Extern.MathBitsCarry.m64 - y - b) % Extern.MathBitsCarry.m64) (if x < y + b then 1 else 0))
theorem run_subEntry (x y b : Nat) (hb : b ≤ 1) (w : World) :
    (subEntry #[.int .u64 x, .int .u64 y, .int .u64 b]).run P w =
      .ok (.tuple #[.int .u64 (((x + 18446744073709551616 - y - b) % 18446744073709551616 : Nat) : Int), .int .u64 ((if x < y + b then 1 else 0 : Nat) : Int)]) w := by
  have : b = 0 ∨ b = 1 := by omega
  rcases this with rfl | rfl <;> rfl
def add64.C {β : Type} : Fun β := fun xs κ => match xs with
  | [a0, a1, a2] => (a0.un (.int .u64)).bind fun x0 => (a1.un (.int .u64)).bind fun x1 => (a2.un (.int .u64)).bind fun x2 => (add64 x0 x1 x2).bind fun r => κ [.data (.int .u64) r.1, .data (.int .u64) r.2]
  | _ => none
def sub64.C {β : Type} : Fun β := fun xs κ => match xs with
  | [a0, a1, a2] => (a0.un (.int .u64)).bind fun x0 => (a1.un (.int .u64)).bind fun x1 => (a2.un (.int .u64)).bind fun x2 => (sub64 x0 x1 x2).bind fun r => κ [.data (.int .u64) r.1, .data (.int .u64) r.2]
  | _ => none

theorem Fr.rfl {w : World} {B : Lim} : Fr w B w := ⟨Eq.refl _, Eq.refl _, Eq.refl _, Nat.le_refl _, fun _ _ _ => Eq.refl _, fun k => Kind.refl w k, fun _ _ _ _ => Eq.refl _⟩

theorem three_ok {f : FuncId} {x0 x1 x2 a b : Int} (hm : (look c.muts f).getD [] = [])
    (h : ∀ w, (callFunc f #[.int .u64 x0, .int .u64 x1, .int .u64 x2]).run P w = .ok (.value (.tuple #[.int .u64 a, .int .u64 b])) w) :
    CallOK P ((look c.muts f).getD []) f [.data (.int .u64) x0, .data (.int .u64) x1, .data (.int .u64) x2] [.data (.int .u64) a, .data (.int .u64) b] := by
  intro w ok vs hA
  rw [hm] at hA ⊢
  have one : ∀ {x : Int} {v : Value}, ARel w ok (.data (.int .u64) x) v → v = .int .u64 x := by
    intro x v h
    cases h with
    | data h =>
      obtain ⟨cs, h1, h2⟩ := h
      simp only [DRel] at h1
      rw [h2, h1]; rfl
  match vs, hA with
  | [v0, v1, v2], hA =>
    have e0 := one (hA.dat 0 _ _ (by simp) rfl rfl)
    have e1 := one (hA.dat 1 _ _ (by simp) rfl rfl)
    have e2 := one (hA.dat 2 _ _ (by simp) rfl rfl)
    subst e0; subst e1; subst e2
    refine .inr ⟨_, w, h w, [.data (.int .u64) a, .data (.int .u64) b], [], [.int .u64 a, .int .u64 b], ok, rfl, ?_, rfl, Fr.rfl, fun _ h => h, fun _ h => .inl h, hA.okd, ?_, ?_, .nil⟩
    · intro r hr
      simp only [List.mem_cons, List.not_mem_nil, or_false] at hr
      rcases hr with rfl | rfl <;> rfl
    · exact .cons ⟨[.int .u64 a], by simp only [DRel], rfl⟩ (.cons ⟨[.int .u64 b], by simp only [DRel], rfl⟩ .nil)
    · intro i j r r' v v' b hi hj _ _ hr _ _ _
      match i, hi with
      | 0, hi => simp only [List.getElem?_cons_zero, Option.some.injEq] at hi; subst hi; simp [isOwnR] at hr
      | 1, hi => simp only [List.getElem?_cons_succ, List.getElem?_cons_zero, Option.some.injEq] at hi; subst hi; simp [isOwnR] at hr
  | [], hA => have := hA.len; simp at this
  | [_], hA => have := hA.len; simp at this
  | [_, _], hA => have := hA.len; simp at this
  | _ :: _ :: _ :: _ :: _, hA => have := hA.len; simp at this

theorem add_call {f : FuncId} {fn : Func} (hf : P.funcs[f]? = some fn) (hname : (fn.name == "runtime.NumGoroutine") = false) (hb : fn.body.isNone = true) (hn : Extern.findNext fn = none) (he : Extern.find fn = some add64Entry)
    {x0 x1 x2 : Int} {res : Int × Int} (hr : add64 x0 x1 x2 = some res) (w : World) : (callFunc f #[.int .u64 x0, .int .u64 x1, .int .u64 x2]).run P w = .ok (.value (.tuple #[.int .u64 res.1, .int .u64 res.2])) w := by
  unfold add64 at hr
  split at hr
  · rename_i hh
    obtain rfl := inj hr
    rw [run_callFunc_extern hf hname hb hn he, run_add64 _ _ _ hh.1 hh.2.1 hh.2.2.1 hh.2.2.2]
    rfl
  · exact no hr

theorem add64_ok {f : FuncId} {fn : Func} (hf : P.funcs[f]? = some fn) (hname : (fn.name == "runtime.NumGoroutine") = false) (hb : fn.body.isNone = true) (hn : Extern.findNext fn = none) (he : Extern.find fn = some add64Entry)
    (hm : (look c.muts f).getD [] = []) : FunOK P c f (add64.C : Fun β) := by
  intro xs κ r h
  rcases xs with _ | ⟨a0, _ | ⟨a1, _ | ⟨a2, _ | ⟨x', l'⟩⟩⟩⟩
  · exact no h
  · exact no h
  · exact no h
  · obtain ⟨x0, rfl, h⟩ := A.un_some h
    obtain ⟨x1, rfl, h⟩ := A.un_some h
    obtain ⟨x2, rfl, h⟩ := A.un_some h
    obtain ⟨res, hr, h⟩ := Option.bind_eq_some_iff.1 h
    refine ⟨_, three_ok hm ?_, h⟩
    exact fun w => add_call hf hname hb hn he hr w
  · exact no h

theorem sub_call {f : FuncId} {fn : Func} (hf : P.funcs[f]? = some fn) (hname : (fn.name == "runtime.NumGoroutine") = false) (hb : fn.body.isNone = true) (hn : Extern.findNext fn = none) (he : Extern.find fn = some subEntry)
    {x0 x1 x2 : Int} {res : Int × Int} (hr : sub64 x0 x1 x2 = some res) (w : World) : (callFunc f #[.int .u64 x0, .int .u64 x1, .int .u64 x2]).run P w = .ok (.value (.tuple #[.int .u64 res.1, .int .u64 res.2])) w := by
  unfold sub64 at hr
  split at hr
  · rename_i hh
    obtain rfl := inj hr
    obtain ⟨h1, h2, h3, h4, h5, h6⟩ := hh
    obtain ⟨X, rfl⟩ := Int.eq_ofNat_of_zero_le h1
    obtain ⟨Y, rfl⟩ := Int.eq_ofNat_of_zero_le h3
    obtain ⟨B, rfl⟩ := Int.eq_ofNat_of_zero_le h5
    rw [run_callFunc_extern hf hname hb hn he, run_subEntry _ _ _ (by omega)]
    have e1 : (((X + 18446744073709551616 - Y - B) % 18446744073709551616 : Nat) : Int) = ((X : Int) + 18446744073709551616 - Y - B) % 18446744073709551616 := by omega
    have e2 : ((if X < Y + B then 1 else 0 : Nat) : Int) = if (X : Int) < Y + B then 1 else 0 := by
      split <;> split <;> first | rfl | omega
    rw [e1, e2]
    rfl
  · exact no hr

theorem sub64_ok {f : FuncId} {fn : Func} (hf : P.funcs[f]? = some fn) (hname : (fn.name == "runtime.NumGoroutine") = false) (hb : fn.body.isNone = true) (hn : Extern.findNext fn = none) (he : Extern.find fn = some subEntry)
    (hm : (look c.muts f).getD [] = []) : FunOK P c f (sub64.C : Fun β) := by
  intro xs κ r h
  rcases xs with _ | ⟨a0, _ | ⟨a1, _ | ⟨a2, _ | ⟨x', l'⟩⟩⟩⟩
  · exact no h
  · exact no h
  · exact no h
  · obtain ⟨x0, rfl, h⟩ := A.un_some h
    obtain ⟨x1, rfl, h⟩ := A.un_some h
    obtain ⟨x2, rfl, h⟩ := A.un_some h
    obtain ⟨res, hr, h⟩ := Option.bind_eq_some_iff.1 h
    refine ⟨_, three_ok hm ?_, h⟩
    exact fun w => sub_call hf hname hb hn he hr w
  · exact no h
end
end Go.Proofs.YthghchjbomlpfaaGreat.Ev

namespace Go.Proofs.YthghchjbomlpfaaGreat.Ev
set_option linter.unusedVariables false

inductive PK where
  | d (t : Ty)
  | m (t : Ty)
def PK.den : PK → Type
  | .d t => t.den
  | .m t => List t.den
def PK.un : (p : PK) → A → Option p.den
  | .d t, a => a.un t
  | .m t, a => a.unMut t
def PK.toA : (p : PK) → p.den → A
  | .d t, x => .data t x
  | .m t, x => .mut t x
inductive RK where
  | d (t : Ty)
  | o (t : Ty)
  | v (i : Nat)
  | w (i : Nat)
  | u (i : Nat) (t : Ty)
def RK.den : RK → Type
  | .d t => t.den
  | .o t => List t.den
  | .v _ => Nat × Nat
  | .w _ => Nat
  | .u _ t => List t.den
def RK.un : (z : RK) → R → Option z.den
  | .d t, r => r.un t
  | .o t, r => r.unOwn t
  | .v i, r => r.unView i
  | .w i, r => r.unView0 i
  | .u i t, r => r.unUpd i t
def RK.toR : (z : RK) → z.den → R
  | .d t, x => .data t x
  | .o t, x => .own t x
  | .v i, x => .view i x.1 x.2
  | .w i, x => .view i 0 x
  | .u i t, x => .upd i t x
def Rs : List RK → Type
  | [] => Unit
  | [z] => z.den
  | z :: y :: zs => z.den × Rs (y :: zs)
def kR : (zs : List RK) → List R → Option (Rs zs)
  | [] => fun rs => match rs with
    | [] => some ()
    | _ => none
  | [z] => fun rs => match rs with
    | [r] => z.un r
    | _ => none
  | z :: y :: zs => fun rs => match rs with
    | r :: rs => (z.un r).bind fun x => (kR (y :: zs) rs).bind fun l => some (x, l)
    | [] => none
def rsR : (zs : List RK) → Rs zs → List R
  | [], _ => []
  | [z], x => [z.toR x]
  | z :: y :: zs, x => z.toR x.1 :: rsR (y :: zs) x.2

theorem RK.un_ok {z : RK} {r : R} {x : z.den} (h : z.un r = some x) : r = z.toR x := by
  have h' : (z.un r).bind some = some x := by rw [h]; rfl
  cases z with
  | d t => obtain ⟨y, rfl, h1⟩ := R.un_some h'; exact congrArg _ (inj h1)
  | o t => obtain ⟨y, rfl, h1⟩ := R.unOwn_some h'; exact congrArg _ (inj h1)
  | v i => obtain ⟨y, rfl, h1⟩ := R.unView_some h'; obtain rfl := inj h1; rfl
  | w i => obtain ⟨y, rfl, h1⟩ := R.unView0_some h'; exact congrArg _ (inj h1)
  | u i t => obtain ⟨y, rfl, h1⟩ := R.unUpd_some h'; exact congrArg _ (inj h1)
theorem kR_inv : ∀ {zs : List RK} {rs : List R} {r : Rs zs}, kR zs rs = some r → rs = rsR zs r
  | [], rs, r, h => by
    cases rs with
    | nil => rfl
    | cons x l => exact no h
  | [z], rs, r, h => by
    match rs, h with
    | [], h => exact no h
    | [x], h => exact congrArg (fun y => [y]) (RK.un_ok h)
    | _ :: _ :: _, h => exact no h
  | z :: y :: zs, rs, r, h => by
    cases rs with
    | nil => exact no h
    | cons x l =>
      obtain ⟨a, h1, h2⟩ := bnd h
      obtain ⟨b, h3, h4⟩ := bnd h2
      obtain rfl := inj h4
      show _ = z.toR a :: rsR (y :: zs) b
      rw [← RK.un_ok h1, ← kR_inv h3]

def Fn : List PK → Type → Type
  | [], γ => Option γ
  | p :: ps, γ => p.den → Fn ps γ
def cN {β γ : Type} : (ps : List PK) → (γ → List R) → Fn ps γ → Fun β
  | [], g, f => fun xs κ => match xs with
    | [] => f.bind fun r => κ (g r)
    | _ => none
  | p :: ps, g, f => fun xs κ => match xs with
    | a :: xs => (p.un a).bind fun x => cN ps g (f x) xs κ
    | [] => none
def EqN {γ : Type} : (E : List A → Option γ) → (ps : List PK) → Fn ps γ → Prop
  | E, [], f => E [] = f
  | E, p :: ps, f => ∀ x : p.den, EqN (fun l => E (p.toA x :: l)) ps (f x)

theorem PK.un_ok {p : PK} {a : A} {x : p.den} (h : p.un a = some x) : a = p.toA x := by
  have h' : (p.un a).bind some = some x := by rw [h]; rfl
  cases p with
  | d t => obtain ⟨y, rfl, h1⟩ := A.un_some h'; exact congrArg _ (inj h1)
  | m t => obtain ⟨y, rfl, h1⟩ := A.unMut_some h'; exact congrArg _ (inj h1)
theorem cN_ok {β γ : Type} {g : γ → List R} : ∀ {ps : List PK} {E : List A → Option γ} {f : Fn ps γ}, EqN E ps f → ∀ {xs : List A} {κ : List R → Option β} {r : β}, cN ps g f xs κ = some r → ∃ res, E xs = some res ∧ κ (g res) = some r
  | [], E, f, h, xs, κ, r, hr => by
    cases xs with
    | nil =>
      obtain ⟨a, h1, h2⟩ := bnd hr
      exact ⟨a, Eq.trans h h1, h2⟩
    | cons x l => exact no hr
  | p :: ps, E, f, h, xs, κ, r, hr => by
    cases xs with
    | nil => exact no hr
    | cons x l =>
      obtain ⟨a, h1, h2⟩ := bnd hr
      obtain rfl := PK.un_ok h1
      exact cN_ok (h a) h2

section
variable {P : Program} {c : Ctx} {β : Type}
abbrev orcNil {β : Type} : Oracle β := orcOf []
theorem orcNil_ok : Sound (fun g xs rs => CallOK P ((look c.muts g).getD []) g xs rs) (orcNil : Oracle β) := orc_sound orc_nil
theorem soundN {ps : List PK} {zs : List RK} {F : Fn ps (Rs zs)} {C : Oracle (Rs zs)} {f : FuncId} {fn : Func} {n : Note} {k : Nat} (hc : CtxOK P c) (hm : P.follows .mixedOrders = true) (hf : P.funcs[f]? = some fn) (hb : fnB c f fn n = true)
    (hC : Sound (fun g xs rs => CallOK P ((look c.muts g).getD []) g xs rs) C) (h : EqN (fun xs => evFunc c C k n fn xs (kR zs)) ps F) : FunOK P c f (cN ps (rsR zs) F : Fun β) := by
  intro xs κ r hr
  obtain ⟨res, h1, h2⟩ := cN_ok h hr
  exact ⟨rsR zs res, fun_ok' hc hm hf hb hC h1 (fun rs' h => kR_inv h), h2⟩

theorem run1 {γ S : Type} {C : Oracle γ} {n : Note} {fn : Func} {np : Nat} {κ : List R → Option γ} {s : Labels γ → S} {l : Nat → S} {b : S → S} (h0 : s (fun _ _ _ _ => none) = l 0)
    (hb : ∀ L, s (evLab c C L n fn np κ) = b (s L)) (hl : ∀ m, l (m + 1) = b (l m)) : ∀ m, s (evRun c C n fn np κ m) = l m := by
  intro m
  induction m with
  | zero => exact h0
  | succ m ih => exact (hb _).trans (by rw [ih, hl])
theorem run1' {γ S : Type} {C : Oracle γ} {n : Note} {fn : Func} {np : Nat} {κ : List R → Option γ} {s : Labels γ → S} {l : Nat → S} {b : S} (h0 : s (fun _ _ _ _ => none) = l 0)
    (hb : ∀ L, s (evLab c C L n fn np κ) = b) (hl : ∀ m, l (m + 1) = b) : ∀ m, s (evRun c C n fn np κ m) = l m := by
  intro m
  cases m with
  | zero => exact h0
  | succ m => exact (hb _).trans (hl m).symm
end
end Go.Proofs.YthghchjbomlpfaaGreat.Ev
