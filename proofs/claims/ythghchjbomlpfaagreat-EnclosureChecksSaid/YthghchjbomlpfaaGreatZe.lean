/- Part of the proof that an evaluator of the program's code, its soundness, the code's functions and plain mathematics make, part 5 of 6. -/
import Derived.Laws.Strings
import Derived.Test.YthghchjbomlpfaaGreatZd
/- exact: shiftUp. -/
namespace Go.Proofs.YthghchjbomlpfaaGreat.Ev
set_option linter.unusedVariables false

theorem or_add' (a b : Int) (s : Nat) (hs : s ≤ 64) (ha : 0 ≤ a) (ha' : a < 18446744073709551616) (hd : ∃ c, a = 2 ^ s * c) (hb : 0 ≤ b) (hb' : b < 2 ^ s) :
    ((BitVec.ofInt 64 b ||| BitVec.ofInt 64 a).toNat : Int) = a + b := by
  rw [BitVec.or_comm]; exact or_add a b s hs ha ha' hd hb hb'

/-- The limb at the end of a value. -/
theorem limb_top {l : List Int} (h : Lim_ B64 l) {i : Nat} (hi : i < l.length) {c : Int} (hv : wv B64 l < B64 ^ i * c) : l.getD i 0 < c := by
  have e := wv_split (B := B64) i (Nat.le_of_lt hi) (l := l)
  rw [wv_drop i hi] at e
  have h1 := wv_nonneg (by decide) (h.take i)
  have h2 := wv_nonneg (by decide) (h.drop (i + 1))
  have hP : 0 < B64 ^ i := Int.pow_pos (by decide)
  have h3 : B64 ^ i * (l.getD i 0 + B64 * wv B64 (l.drop (i + 1))) < B64 ^ i * c := by omega
  have h4 := Int.lt_of_mul_lt_mul_left h3 (by omega)
  have h5 := Int.mul_nonneg (show 0 ≤ B64 by decide) h2
  omega

theorem pow2_lt {s : Nat} (hs : s ≤ 63) : (2 : Int) ^ s < 18446744073709551616 := by
  have : (2 : Nat) ^ s ≤ 2 ^ 63 := Nat.pow_le_pow_right (by omega) hs
  have e : ((2 ^ s : Nat) : Int) = 2 ^ s := by push_cast; rfl
  omega

theorem shl_mult (x : Int) (s : Nat) (hs : s ≤ 63) : ∃ c, x * 2 ^ s % 18446744073709551616 = 2 ^ s * c := by
  have e : (18446744073709551616 : Int) = 2 ^ (64 - s) * 2 ^ s := by rw [← Int.pow_add, show 64 - s + s = 64 by omega]; rfl
  refine ⟨x % 2 ^ (64 - s), ?_⟩
  rw [e, Int.mul_comm x, Int.mul_comm (2 ^ (64 - s)), Int.mul_emod_mul_of_pos _ _ (Int.pow_pos (by omega))]

theorem shl_div (x : Int) (s : Nat) (hs : s ≤ 63) : x / 2 ^ (64 - s) = x * 2 ^ s / 18446744073709551616 := by
  have e : (18446744073709551616 : Int) = 2 ^ (64 - s) * 2 ^ s := by rw [← Int.pow_add, show 64 - s + s = 64 by omega]; rfl
  rw [e, Int.mul_ediv_mul_of_pos_left _ _ (Int.pow_pos (by omega))]

theorem shift_loop (w : List Int) (hw : Lim_ B64 w) (hl : w.length ≤ 17592186044416) (s : Nat) (hs : s ≤ 63) : ∀ (d i : Nat) (o : List Int), i + d = w.length → o.length = w.length + 1 → Lim_ B64 o → wv B64 o = wv B64 (w.take i) * 2 ^ s →
    Res (fun n => exact_shiftUp.l0 n s w.length i w o) fun o => o.length = w.length + 1 ∧ Lim_ B64 o ∧ wv B64 o = wv B64 w * 2 ^ s
  | 0, i, o, hd, ho, hL, hv => by
    refine Res.succ (g := fun _ => some o) (fun n => ?_) (Res.pure ⟨ho, hL, by rw [hv, List.take_of_length_le (by omega)]⟩)
    simp only [exact_shiftUp.l0, exact_shiftUp.b0]
    rw [bn (by omega)]
  | d + 1, i, o, hd, ho, hL, hv => by
    have hx := hw.get i (by omega)
    have hg := hL.get i (by omega)
    have hp : (0 : Int) < 2 ^ s := Int.pow_pos (by omega)
    have hp2 := pow2_lt hs
    have e1 : IntKind.wrap .i64 ((i : Int) + 1) = ((i + 1 : Nat) : Int) := by rw [wi _ (by omega) (by omega)]; omega
    have e2 : IntKind.wrap .i64 (64 - (s : Int)) = ((64 - s : Nat) : Int) := by rw [wi _ (by omega) (by omega)]; omega
    have m1 : min s 64 = s := by omega
    have m2 : min (64 - s) 64 = 64 - s := by omega
    have hP : 0 < B64 ^ i := Int.pow_pos (by decide)
    have h1 := wv_lt (by decide) (hw.take i)
    have h0 := wv_nonneg (by decide) (hw.take i)
    rw [List.length_take, Nat.min_eq_left (by omega)] at h1
    have hvlt : wv B64 o < B64 ^ i * 2 ^ s := by rw [hv]; exact Int.mul_lt_mul_of_pos_right h1 hp
    have htop := limb_top hL (by omega) hvlt
    have hz : o.getD (i + 1) 0 = 0 := limb_zero (by decide) hL (by
      rw [Int.pow_succ]
      have := Int.mul_lt_mul_of_pos_left hp2 hP
      simp only [B64] at *
      omega)
    have q0 := Int.emod_nonneg (w.getD i 0 * 2 ^ s) (show (18446744073709551616 : Int) ≠ 0 by omega)
    have q1 := Int.emod_lt_of_pos (w.getD i 0 * 2 ^ s) (show (0 : Int) < 18446744073709551616 by omega)
    have hor := or_add' (w.getD i 0 * 2 ^ s % 18446744073709551616) (o.getD i 0) s (by omega) q0 q1 (shl_mult _ s hs) hg.1 htop
    obtain ⟨c, hc⟩ := shl_mult (w.getD i 0) s hs
    have hsum : w.getD i 0 * 2 ^ s % 18446744073709551616 + o.getD i 0 < 18446744073709551616 := by
      have e : (18446744073709551616 : Int) = 2 ^ s * 2 ^ (64 - s) := by rw [← Int.pow_add, show s + (64 - s) = 64 by omega]; rfl
      have h2 : c < 2 ^ (64 - s) := by
        rw [hc, e] at q1
        exact Int.lt_of_mul_lt_mul_left q1 (by omega)
      have h3 := Int.mul_le_mul_of_nonneg_left (show c + 1 ≤ 2 ^ (64 - s) by omega) (show (0 : Int) ≤ 2 ^ s by omega)
      rw [← e, Int.mul_add, Int.mul_one] at h3
      omega
    have eo : IntKind.wrap .u64 (((BitVec.ofInt 64 (o.getD i 0) ||| BitVec.ofInt 64 (IntKind.wrap .u64 (w.getD i 0 * 2 ^ s))).toNat : Nat) : Int) = w.getD i 0 * 2 ^ s % 18446744073709551616 + o.getD i 0 := by
      rw [wu (w.getD i 0 * 2 ^ s), hor, ule (by omega) hsum]
    have hdv : w.getD i 0 / 2 ^ (64 - s) = w.getD i 0 * 2 ^ s / 18446744073709551616 := shl_div _ s hs
    have hq0 : 0 ≤ w.getD i 0 * 2 ^ s / 18446744073709551616 := Int.ediv_nonneg (Int.mul_nonneg hx.1 (by omega)) (by omega)
    have hq1 : w.getD i 0 * 2 ^ s / 18446744073709551616 < 18446744073709551616 := by
      rw [Int.ediv_lt_iff_lt_mul (by omega)]
      have a1 := Int.mul_lt_mul_of_pos_right hx.2 hp
      have a2 := Int.mul_lt_mul_of_pos_left hp2 (show (0 : Int) < 18446744073709551616 by omega)
      simp only [B64] at *
      omega
    have hsplit := Int.emod_add_mul_ediv (w.getD i 0 * 2 ^ s) 18446744073709551616
    have hval : wv B64 ((o.set i (w.getD i 0 * 2 ^ s % 18446744073709551616 + o.getD i 0)).set (i + 1) (w.getD i 0 * 2 ^ s / 18446744073709551616)) = wv B64 (w.take (i + 1)) * 2 ^ s := by
      rw [wv_set (by simp; omega), wv_set (by omega), getD_set_ne (by omega), hz, hv, wv_take_succ i (by omega), Int.pow_succ]
      generalize w.getD i 0 * 2 ^ s % 18446744073709551616 = r at *
      generalize w.getD i 0 * 2 ^ s / 18446744073709551616 = q at *
      simp only [B64] at *
      generalize (18446744073709551616 : Int) ^ i = p at *
      grind
    by_cases h0s : 0 < s
    · refine Res.succ (fun n => ?_) (shift_loop w hw hl s hs d (i + 1) _ (by omega) (by simpa using ho) ((hL.set i ⟨by omega, hsum⟩).set (i + 1) ⟨hq0, hq1⟩) hval)
      simp only [exact_shiftUp.l0, exact_shiftUp.b0, Int.toNat_natCast, e1, e2, m1, m2, eo, List.length_set]
      rw [bp (by omega), if_pos (by omega), if_pos (by omega), if_neg (by omega), if_pos (by omega), bp (by omega), if_neg (by omega), if_pos (by omega), fd _ _ (Int.pow_nonneg (by omega)), hdv]
    · obtain rfl : s = 0 := by omega
      have hq : w.getD i 0 * 2 ^ 0 / 18446744073709551616 = 0 := Int.ediv_eq_zero_of_lt (by simpa using hx.1) (by simpa using hx.2)
      rw [hq] at hval
      have hsame : (o.set i (w.getD i 0 * 2 ^ 0 % 18446744073709551616 + o.getD i 0)).set (i + 1) 0 = o.set i (w.getD i 0 * 2 ^ 0 % 18446744073709551616 + o.getD i 0) := by
        apply List.ext_getElem (by simp)
        intro j h1 h2
        rw [List.getElem_set]
        split
        · rename_i hj
          subst hj
          rw [List.getElem_set_ne (by omega)]
          have : o.getD (i + 1) 0 = o[i + 1]'(by simpa using h2) := by
            simp only [List.length_set] at h2
            simp [List.getD, h2]
          rw [← this, hz]
        · rfl
      rw [hsame] at hval
      refine Res.succ (fun n => ?_) (shift_loop w hw hl 0 hs d (i + 1) _ (by omega) (by simpa using ho) (hL.set i ⟨by omega, hsum⟩) hval)
      simp only [exact_shiftUp.l0, exact_shiftUp.b0, Int.toNat_natCast, e1, m1, eo]
      rw [bp (by omega), if_pos (by omega), if_pos (by omega), if_neg (by omega), if_pos (by omega), bn (by omega)]

theorem shift_ok (w : List Int) (hw : Lim_ B64 w) (hl : w.length ≤ 17592186044416) (s : Nat) (hs : s ≤ 63) : Res (fun k => exact_shiftUp k w s) fun o => o.length = w.length + 1 ∧ Lim_ B64 o ∧ wv B64 o = wv B64 w * 2 ^ s := by
  have e1 : IntKind.wrap .i64 ((w.length : Int) + 1) = ((w.length + 1 : Nat) : Int) := by rw [wi _ (by omega) (by omega)]; omega
  refine Res.of_eq (shift_loop w hw hl s hs w.length 0 (List.replicate (w.length + 1) 0) (by omega) (by simp) (Lim_.rep (by decide) _) (by simp [wv_rep, wv])) fun k => ?_
  simp only [exact_shiftUp, exact_shiftUp.top, e1, Int.toNat_natCast]
  rw [if_pos (by omega), if_pos (by omega)]
  rfl
end Go.Proofs.YthghchjbomlpfaaGreat.Ev

/- exact: step, one digit of a long division. -/
namespace Go.Proofs.YthghchjbomlpfaaGreat.Ev
set_option linter.unusedVariables false

theorem sub64_ok' {x y c : Int} (hx : 0 ≤ x ∧ x < 18446744073709551616) (hy : 0 ≤ y ∧ y < 18446744073709551616) (hc : 0 ≤ c ∧ c ≤ 1) :
    ∃ d b, sub64 x y c = some (d, b) ∧ (0 ≤ d ∧ d < B64) ∧ (0 ≤ b ∧ b ≤ 1) ∧ x - y - c = d - B64 * b := by
  refine ⟨_, _, by rw [sub64, if_pos ⟨hx.1, hx.2, hy.1, hy.2, hc.1, hc.2⟩], ?_⟩
  simp only [B64]
  split <;> omega

/-- The parts of a division's step. -/
structure KD (n : Nat) (u v : List Int) (u2 u1 u0 v1 v2 U V Q : Int) : Prop where
  n2 : 2 ≤ n
  nl : n ≤ 17592186044416
  ul : u.length = n + 1
  vl : v.length = n
  uL : Lim_ B64 u
  vL : Lim_ B64 v
  e2 : u.getD n 0 = u2
  e1 : u.getD (n - 1) 0 = u1
  e0 : u.getD (n - 2) 0 = u0
  f1 : v.getD (n - 1) 0 = v1
  f2 : v.getD (n - 2) 0 = v2
  eU : wv B64 u = U
  eV : wv B64 v = V
  v1p : 1 ≤ v1
  lt : U < V * B64
  Ql : 0 ≤ Q
  eQ : Q * V ≤ U
  eR : U < (Q + 1) * V

section
variable {n : Nat} {u v : List Int} {u2 u1 u0 v1 v2 U V Q : Int}

theorem KD.lims (h : KD n u v u2 u1 u0 v1 v2 U V Q) : (0 ≤ u2 ∧ u2 < B64) ∧ (0 ≤ u1 ∧ u1 < B64) ∧ (0 ≤ u0 ∧ u0 < B64) ∧ (1 ≤ v1 ∧ v1 < B64) ∧ (0 ≤ v2 ∧ v2 < B64) := by
  have hn := h.n2
  have hu := h.ul
  have hv := h.vl
  have a1 := h.uL.get n (by omega)
  have a2 := h.uL.get (n - 1) (by omega)
  have a3 := h.uL.get (n - 2) (by omega)
  have a4 := h.vL.get (n - 1) (by omega)
  have a5 := h.vL.get (n - 2) (by omega)
  rw [h.e2] at a1; rw [h.e1] at a2; rw [h.e0] at a3; rw [h.f1] at a4; rw [h.f2] at a5
  exact ⟨a1, a2, a3, ⟨h.v1p, a4.2⟩, a5⟩

/-- Both values, with their highest limbs told. -/
theorem KD.parts (h : KD n u v u2 u1 u0 v1 v2 U V Q) : ∃ P U' V' : Int, 0 < P ∧ (0 ≤ U' ∧ U' < P) ∧ (0 ≤ V' ∧ V' < P) ∧ U = U' + P * (u0 + B64 * (u1 + B64 * u2)) ∧ V = V' + P * (v2 + B64 * v1) := by
  have hn := h.n2
  have hu := h.ul
  have hv := h.vl
  refine ⟨B64 ^ (n - 2), wv B64 (u.take (n - 2)), wv B64 (v.take (n - 2)), Int.pow_pos (by decide), ⟨wv_nonneg (by decide) (h.uL.take _), ?_⟩, ⟨wv_nonneg (by decide) (h.vL.take _), ?_⟩, ?_, ?_⟩
  · have := wv_lt (by decide) (h.uL.take (n - 2)); rwa [List.length_take, Nat.min_eq_left (by omega)] at this
  · have := wv_lt (by decide) (h.vL.take (n - 2)); rwa [List.length_take, Nat.min_eq_left (by omega)] at this
  · rw [← h.eU, wv_split (B := B64) (n - 2) (by omega), wv_drop (n - 2) (by omega), wv_drop (n - 2 + 1) (by omega), wv_drop (n - 2 + 1 + 1) (by omega), List.drop_of_length_le (by omega), h.e0,
      show n - 2 + 1 = n - 1 by omega, h.e1, show n - 1 + 1 = n by omega, h.e2]
    simp [wv]
  · rw [← h.eV, wv_split (B := B64) (n - 2) (by omega), wv_drop (n - 2) (by omega), wv_drop (n - 2 + 1) (by omega), List.drop_of_length_le (by omega), h.f2,
      show n - 2 + 1 = n - 1 by omega, h.f1]
    simp [wv]

theorem KD.Vpos (h : KD n u v u2 u1 u0 v1 v2 U V Q) : 0 < V := by
  have h1 := h.eQ
  have h2 := h.eR
  rw [Int.add_mul, Int.one_mul] at h2
  omega

theorem KD.Qlt (h : KD n u v u2 u1 u0 v1 v2 U V Q) : Q < B64 := by
  have h1 := h.eQ
  have h2 := h.lt
  have h3 := h.Vpos
  have : Q * V < B64 * V := by rw [Int.mul_comm B64]; omega
  exact Int.lt_of_mul_lt_mul_right this (by omega)

/-- The two highest limbs of the divisor say no more than one too much. -/
theorem KD.up (h : KD n u v u2 u1 u0 v1 v2 U V Q) {q : Int} (hq : 0 ≤ q) (hq' : q < B64) (hc : q * (v1 * B64 + v2) ≤ (u2 * B64 + u1) * B64 + u0) : q ≤ Q + 1 := by
  obtain ⟨P, U', V', hP, hU, hV, eU, eV⟩ := h.parts
  have hl := h.lims
  have hVp := h.Vpos
  -- q V = q y P + q V' ≤ U + q V'
  have a1 := Int.mul_le_mul_of_nonneg_right hc (show 0 ≤ P by omega)
  have a2 : q * V' ≤ (B64 - 1) * P := Int.mul_le_mul (by omega) (by omega) hV.1 (by decide)
  have a3 : P * (1 * B64) ≤ P * (v2 + B64 * v1) := Int.mul_le_mul_of_nonneg_left (by have := hl.2.2.2.1.1; have := hl.2.2.2.2.1; simp only [B64] at *; omega) (by omega)
  have a4 : q * V = q * (v1 * B64 + v2) * P + q * V' := by rw [eV]; grind
  have a5 : ((u2 * B64 + u1) * B64 + u0) * P = U - U' := by rw [eU]; grind
  have a6 : q * V < U + V := by
    have : (B64 - 1) * P = P * (1 * B64) - P := by grind
    omega
  have a7 : q * V < (Q + 2) * V := by
    have := h.eR
    have e : (Q + 2) * V = (Q + 1) * V + V := by grind
    omega
  have := Int.lt_of_mul_lt_mul_right a7 (by omega)
  omega

theorem KD.low (h : KD n u v u2 u1 u0 v1 v2 U V Q) {q : Int} (hq : 0 ≤ q) (hc : (u2 * B64 + u1) * B64 + u0 < q * (v1 * B64 + v2)) : Q < q := by
  obtain ⟨P, U', V', hP, hU, hV, eU, eV⟩ := h.parts
  have hVp := h.Vpos
  have a1 := Int.mul_le_mul_of_nonneg_right (show (u2 * B64 + u1) * B64 + u0 + 1 ≤ q * (v1 * B64 + v2) by omega) (show 0 ≤ P by omega)
  have a2 := Int.mul_nonneg hq hV.1
  have a4 : q * V = q * (v1 * B64 + v2) * P + q * V' := by rw [eV]; grind
  have a5 : ((u2 * B64 + u1) * B64 + u0 + 1) * P = U - U' + P := by rw [eU]; grind
  have a6 : Q * V < q * V := by have := h.eQ; omega
  exact Int.lt_of_mul_lt_mul_right a6 (by omega)

/-- The highest limb of the divisor says no less. -/
theorem KD.first (h : KD n u v u2 u1 u0 v1 v2 U V Q) : Q * v1 ≤ u2 * B64 + u1 := by
  obtain ⟨P, U', V', hP, hU, hV, eU, eV⟩ := h.parts
  have hl := h.lims
  have a1 := h.eQ
  have a2 : Q * V = Q * v1 * (P * B64) + Q * (V' + P * v2) := by rw [eV]; grind
  have a3 : 0 ≤ Q * (V' + P * v2) := Int.mul_nonneg h.Ql (by have := Int.mul_nonneg (show 0 ≤ P by omega) hl.2.2.2.2.1; omega)
  have a4 : U < (u2 * B64 + u1 + 1) * (P * B64) := by
    have : P * (u0 + 1) ≤ P * B64 := Int.mul_le_mul_of_nonneg_left (by have := hl.2.2.1.2; omega) (by omega)
    have e : (u2 * B64 + u1 + 1) * (P * B64) = P * (B64 * (u1 + B64 * u2)) + P * B64 := by grind
    have e2 : U = U' + P * u0 + P * (B64 * (u1 + B64 * u2)) := by rw [eU]; grind
    have e3 : P * (u0 + 1) = P * u0 + P := by grind
    omega
  have a5 : Q * v1 * (P * B64) < (u2 * B64 + u1 + 1) * (P * B64) := by omega
  have := Int.lt_of_mul_lt_mul_right a5 (Int.mul_nonneg (by omega) (by decide))
  omega

theorem KD.top (h : KD n u v u2 u1 u0 v1 v2 U V Q) : u2 ≤ v1 := by
  obtain ⟨P, U', V', hP, hU, hV, eU, eV⟩ := h.parts
  have hl := h.lims
  have a1 := h.lt
  -- u2 P B B ≤ U < V B < (v1 + 1) P B B
  have a2 : u2 * (P * B64 * B64) ≤ U := by
    have e : U = u2 * (P * B64 * B64) + (U' + P * (u0 + B64 * u1)) := by rw [eU]; grind
    have : 0 ≤ P * (u0 + B64 * u1) := Int.mul_nonneg (by omega) (by have := hl.2.2.1.1; have := hl.2.1.1; simp only [B64]; omega)
    omega
  have a3 : V * B64 ≤ (v1 + 1) * (P * B64 * B64) := by
    have e : (v1 + 1) * (P * B64 * B64) - V * B64 = (P * (B64 - v2) - V') * B64 := by rw [eV]; grind
    have e2 : P * 1 ≤ P * (B64 - v2) := Int.mul_le_mul_of_nonneg_left (by have := hl.2.2.2.2.2; omega) (by omega)
    have : 0 ≤ (P * (B64 - v2) - V') * B64 := Int.mul_nonneg (by omega) (by decide)
    omega
  have a4 : u2 * (P * B64 * B64) < (v1 + 1) * (P * B64 * B64) := by omega
  have := Int.lt_of_mul_lt_mul_right a4 (Int.mul_nonneg (Int.mul_nonneg (by omega) (by decide)) (by decide))
  omega
end
end Go.Proofs.YthghchjbomlpfaaGreat.Ev

/- exact: step, its loops. -/
namespace Go.Proofs.YthghchjbomlpfaaGreat.Ev
set_option linter.unusedVariables false

section
variable {n : Nat} {u v : List Int} {u2 u1 u0 v1 v2 U V Q : Int}

theorem step_guess (h : KD n u v u2 u1 u0 v1 v2 U V Q) (P : Int × List Int → Prop) (hn : ∀ q, 0 ≤ q → Q ≤ q → q ≤ Q + 1 → q < B64 → Res2 (fun k m => exact_step.l3 k m n q u v) P) :
    ∀ (j : Nat) (q r : Int), q ≤ j → Q ≤ q → q < B64 → r = u2 * B64 + u1 - q * v1 → 0 ≤ r → r < 2 * B64 → Res2 (fun k m => exact_step.l1 k m n q (r % B64) (r / B64) u v) P := by
  intro j
  have hl := h.lims
  have hn2 := h.n2
  have hnl := h.nl
  have hul := h.ul
  have hvl := h.vl
  have hQ0 := h.Ql
  have e1 : IntKind.wrap .i64 ((n : Int) - 1) = ((n - 1 : Nat) : Int) := by rw [wi _ (by omega) (by omega)]; omega
  have e2 : IntKind.wrap .i64 ((n : Int) - 2) = ((n - 2 : Nat) : Int) := by rw [wi _ (by omega) (by omega)]; omega
  -- the test
  have tst : ∀ {q r : Int}, r = u2 * B64 + u1 - q * v1 → (q * (v1 * B64 + v2) ≤ (u2 * B64 + u1) * B64 + u0 ↔ q * v2 ≤ r * B64 + u0) := by
    intro q r hr
    have : (u2 * B64 + u1) * B64 + u0 - q * (v1 * B64 + v2) = r * B64 + u0 - q * v2 := by rw [hr]; grind
    omega
  -- the ends
  have done : ∀ {q r : Int}, 0 ≤ q → q < B64 → Q ≤ q → r = u2 * B64 + u1 - q * v1 → (B64 ≤ r ∨ q * v2 ≤ r * B64 + u0) → q ≤ Q + 1 := by
    intro q r hq hq' hle hr hc
    refine h.up hq hq' ((tst hr).2 ?_)
    rcases hc with hc | hc
    · have a1 : q * v2 ≤ (B64 - 1) * (B64 - 1) := Int.mul_le_mul (by omega) (by omega) hl.2.2.2.2.1 (by decide)
      have a2 := hl.2.2.1.1
      simp only [B64] at *
      omega
    · exact hc
  induction j with
  | zero =>
    intro q r hj hle hq' hr h0 hb
    obtain rfl : q = 0 := by omega
    have hQz : Q = 0 := by omega
    by_cases ho : r < B64
    · have m1 : r % B64 = r := Int.emod_eq_of_lt h0 ho
      have m2 : r / B64 = 0 := Int.ediv_eq_zero_of_lt h0 ho
      rw [m1, m2]
      refine Res2.succ (f := fun k m => exact_step.l1 k m n 0 r 0 u v) (g := fun k m => exact_step.l2 k m n 0 r true u v) (fun k m => ?_) (Res2.succ (fun k m => ?_) (hn 0 (by omega) (by omega) (by omega) (by decide)))
      · simp only [exact_step.l1, exact_step.b1, e2, Int.toNat_natCast, h.f2, h.e0]
        rw [bp trivial, if_pos (by omega), mul64_ok 0 v2 (by omega) (by omega) hl.2.2.2.2.1 hl.2.2.2.2.2]
        simp only [Option.bind_some, Int.zero_mul, Int.zero_ediv, Int.zero_emod]
        by_cases hr0 : 0 < r
        · rw [bp hr0]
        · rw [bn hr0, bp (by omega), if_pos (by omega)]
          simp only [hl.2.2.1.1, decide_true]
      · simp only [exact_step.l2, exact_step.b2, cond_true]
    · have m2 : r / B64 ≠ 0 := by simp only [B64] at *; omega
      refine Res2.succ (fun k m => ?_) (hn 0 (by omega) (by omega) (by omega) (by decide))
      simp only [exact_step.l1, exact_step.b1]
      rw [bn m2]
  | succ j ih =>
    intro q r hj hle hq' hr h0 hb
    have hq : 0 ≤ q := by omega
    by_cases ho : r < B64
    · have m1 : r % B64 = r := Int.emod_eq_of_lt h0 ho
      have m2 : r / B64 = 0 := Int.ediv_eq_zero_of_lt h0 ho
      rw [m1, m2]
      have hp0 := Int.mul_nonneg hq hl.2.2.2.2.1
      have hdiv : q * v2 = q * v2 / B64 * B64 + q * v2 % B64 := by have := Int.emod_add_mul_ediv (q * v2) B64; rw [Int.mul_comm B64] at this; omega
      have hm0 := Int.emod_nonneg (q * v2) (show B64 ≠ 0 by decide)
      have hm1 := Int.emod_lt_of_pos (q * v2) (show 0 < B64 by decide)
      by_cases hc : q * v2 ≤ r * B64 + u0
      · refine Res2.succ (f := fun k m => exact_step.l1 k m n q r 0 u v) (g := fun k m => exact_step.l2 k m n q r true u v) (fun k m => ?_) (Res2.succ (fun k m => ?_) (hn q hq hle (done hq hq' hle hr (.inr hc)) hq'))
        · simp only [exact_step.l1, exact_step.b1, e2, Int.toNat_natCast, h.f2, h.e0]
          rw [bp trivial, if_pos (by omega), mul64_ok q v2 hq hq' hl.2.2.2.2.1 hl.2.2.2.2.2]
          simp only [Option.bind_some]
          by_cases hr0 : q * v2 / B64 < r
          · rw [bp hr0]
          · have hu0 := hl.2.2.1.2
            have hre : q * v2 / B64 = r := by simp only [B64] at *; omega
            rw [bn hr0, bp hre, if_pos (by omega)]
            have : q * v2 % B64 ≤ u0 := by rw [hre] at hdiv; omega
            simp only [this, decide_true]
        · simp only [exact_step.l2, exact_step.b2, cond_true]
      · have hlow : Q < q := h.low hq (by
          have := (tst hr).1
          rcases Int.lt_or_le ((u2 * B64 + u1) * B64 + u0) (q * (v1 * B64 + v2)) with h1 | h1
          · exact h1
          · exact absurd (this h1) hc)
        have hv1 := hl.2.2.2.1
        refine Res2.succ (f := fun k m => exact_step.l1 k m n q r 0 u v) (g := fun k m => exact_step.l2 k m n q r false u v) (fun k m => ?_) (Res2.succ (fun k m => ?_) (ih (q - 1) (r + v1) (by omega) (by omega) (by omega) (by rw [hr]; grind) (by omega) (by omega)))
        · simp only [exact_step.l1, exact_step.b1, e2, Int.toNat_natCast, h.f2, h.e0]
          rw [bp trivial, if_pos (by omega), mul64_ok q v2 hq hq' hl.2.2.2.2.1 hl.2.2.2.2.2]
          simp only [Option.bind_some]
          have hu00 := hl.2.2.1.1
          rw [bn (show ¬ q * v2 / B64 < r by simp only [B64] at *; omega)]
          by_cases hre : q * v2 / B64 = r
          · rw [bp hre, if_pos (by omega)]
            have : ¬ q * v2 % B64 ≤ u0 := by rw [hre] at hdiv; omega
            simp only [this, decide_false]
          · rw [bn hre]
        · simp only [exact_step.l2, exact_step.b2, cond_false, e1, Int.toNat_natCast, h.f1]
          rw [if_pos (by omega), add64_ok' h0 (by omega) (by omega) (by omega), wu, Int.emod_eq_of_lt (by omega : 0 ≤ q - 1) (by simp only [B64] at *; omega)]
          simp only [Option.bind_some, Int.add_zero]
    · have m2 : r / B64 ≠ 0 := by simp only [B64] at *; omega
      refine Res2.succ (fun k m => ?_) (hn q hq hle (done hq hq' hle hr (.inl (by omega))) hq')
      simp only [exact_step.l1, exact_step.b1]
      rw [bn m2]
end

/-- The divisor is added back. -/
theorem step_back (v : List Int) (n : Nat) (hn : n ≤ 17592186044416) (hv : v.length = n) (vL : Lim_ B64 v) (q R : Int) (hq : 1 ≤ q) (hq' : q < B64) (hR : 0 ≤ R) (hR' : R < B64 ^ n) (S : Int) (hS : S + wv B64 v = R + B64 ^ (n + 1)) :
    ∀ (d i : Nat) (u : List Int) (c : Int), i + d = n → u.length = n + 1 → Lim_ B64 u → 0 ≤ c → c ≤ 1 → wv B64 u + c * B64 ^ i = S + wv B64 (v.take i) →
      Res2 (fun k m => exact_step.l5 k m n q c n i u v) fun x => x.1 = q - 1 ∧ x.2.length = n + 1 ∧ Lim_ B64 x.2 ∧ wv B64 x.2 = R
  | 0, i, u, c, hd, hu, uL, hc, hc', hw => by
    obtain rfl : i = n := by omega
    have hg := uL.get i (by omega)
    rw [List.take_of_length_le (by omega), hS] at hw
    have hP : 0 < B64 ^ i := Int.pow_pos (by decide)
    -- the highest limb
    have e := wv_split (B := B64) i (by omega) (l := u)
    rw [wv_drop i (by omega), List.drop_of_length_le (by omega)] at e
    simp only [wv, Int.mul_zero, Int.add_zero] at e
    have t0 := wv_nonneg (by decide) (uL.take i)
    have t1 := wv_lt (by decide) (uL.take i)
    rw [List.length_take, Nat.min_eq_left (by omega)] at t1
    rw [Int.pow_succ] at hw
    have hsum : u.getD i 0 + c = B64 := by
      have a1 : (u.getD i 0 + c - B64) * B64 ^ i = R - wv B64 (u.take i) := by grind
      rcases Int.lt_trichotomy (u.getD i 0 + c - B64) 0 with h1 | h1 | h1
      · have := Int.mul_le_mul_of_nonneg_right (show u.getD i 0 + c - B64 ≤ -1 by omega) (show 0 ≤ B64 ^ i by omega)
        omega
      · omega
      · have := Int.mul_le_mul_of_nonneg_right (show 1 ≤ u.getD i 0 + c - B64 by omega) (show 0 ≤ B64 ^ i by omega)
        omega
    have ez : IntKind.wrap .u64 (u.getD i 0 + c) = 0 := by rw [wu, hsum]; decide
    have eq' : IntKind.wrap .u64 (q - 1) = q - 1 := ule (by omega) (by simp only [B64] at *; omega)
    refine Res2.succ (g := fun _ _ => some (q - 1, u.set i 0)) (fun k m => ?_) (Res2.pure ⟨rfl, by simpa using hu, uL.set i (by decide), ?_⟩)
    · simp only [exact_step.l5, exact_step.b5, Int.toNat_natCast, ez, eq']
      rw [bn (by omega), if_pos (by omega), if_pos (by omega)]
    · rw [wv_set (by omega), e]
      grind
  | d + 1, i, u, c, hd, hu, uL, hc, hc', hw => by
    have hg := uL.get i (by omega)
    have hgv := vL.get i (by omega)
    have e1 : IntKind.wrap .i64 ((i : Int) + 1) = ((i + 1 : Nat) : Int) := by rw [wi _ (by omega) (by omega)]; omega
    refine Res2.succ (fun k m => ?_) (step_back v n hn hv vL q R hq hq' hR hR' S hS d (i + 1) (u.set i ((u.getD i 0 + v.getD i 0 + c) % B64)) ((u.getD i 0 + v.getD i 0 + c) / B64) (by omega) (by simpa using hu) (uL.set i (by simp only [B64]; omega)) (by simp only [B64] at *; omega) (by simp only [B64] at *; omega) ?_)
    · simp only [exact_step.l5, exact_step.b5, Int.toNat_natCast, e1]
      rw [bp (by omega), if_pos (by omega), if_pos (by omega), add64_ok' hg.1 hgv.1 hc hc']
      simp only [Option.bind_some]
      rw [if_pos (by omega)]
    · rw [wv_set (by omega), wv_take_succ i (by omega), Int.pow_succ]
      have := Int.emod_add_mul_ediv (u.getD i 0 + v.getD i 0 + c) B64
      grind

/-- The multiple is subtracted. -/
theorem step_sub {n : Nat} {u v : List Int} {u2 u1 u0 v1 v2 U V Q : Int} (h : KD n u v u2 u1 u0 v1 v2 U V Q) (q : Int) (hq : 0 ≤ q) (hq' : q < B64) (hQ : Q ≤ q) (hQ' : q ≤ Q + 1) :
    ∀ (d i : Nat) (w : List Int) (b c : Int), i + d = n → w.length = n + 1 → Lim_ B64 w → 0 ≤ b → b ≤ 1 → 0 ≤ c → c < B64 → wv B64 w = U - q * wv B64 (v.take i) + (c + b) * B64 ^ i →
      Res2 (fun k m => exact_step.l4 k m n q b c n i w v) fun x => x.1 = Q ∧ x.2.length = n + 1 ∧ Lim_ B64 x.2 ∧ wv B64 x.2 = U - Q * V
  | 0, i, w, b, c, hd, hw, wL, hb, hb', hc, hc', hv => by
    obtain rfl : i = n := by omega
    have hn2 := h.n2
    have hvl := h.vl
    have hnl := h.nl
    have hg := wL.get i (by omega)
    obtain ⟨d, b', hs, hd1, hb1, hsub⟩ := sub64_ok' hg ⟨hc, hc'⟩ ⟨hb, hb'⟩
    have hval : wv B64 (w.set i d) = U - q * V + B64 ^ (i + 1) * b' := by
      rw [wv_set (by omega), hv, List.take_of_length_le (by omega), h.eV, Int.pow_succ]
      grind
    have wL' : Lim_ B64 (w.set i d) := wL.set i hd1
    have t0 := wv_nonneg (by decide) wL'
    have t1 := wv_lt (by decide) wL'
    rw [List.length_set, hw] at t1
    have hVp := h.Vpos
    have hP : 0 < B64 ^ (i + 1) := Int.pow_pos (by decide)
    have hQ1 := h.eQ
    have hQ2 := h.eR
    rw [Int.add_mul, Int.one_mul] at hQ2
    have hVlt : V < B64 ^ i := by rw [← h.eV]; have := wv_lt (B := B64) (by decide) h.vL; rwa [h.vl] at this
    by_cases hz : b' = 0
    · subst hz
      rw [Int.mul_zero, Int.add_zero] at hval
      have hqQ : q = Q := by
        have : q * V < (Q + 1) * V := by rw [Int.add_mul, Int.one_mul]; omega
        have := Int.lt_of_mul_lt_mul_right this (by omega)
        omega
      subst hqQ
      refine Res2.succ (g := fun _ _ => some (q, w.set i d)) (fun k m => ?_) (Res2.pure ⟨rfl, by simpa using hw, wL', hval⟩)
      simp only [exact_step.l4, exact_step.b4, Int.toNat_natCast]
      rw [bn (by omega), if_pos (by omega), hs]
      simp only [Option.bind_some]
      rw [if_pos (by omega), bp trivial]
    · obtain rfl : b' = 1 := by omega
      rw [Int.mul_one] at hval
      have hqQ : q = Q + 1 := by
        rcases Int.lt_or_le Q q with h1 | h1
        · omega
        · have : q = Q := by omega
          subst this
          omega
      subst hqQ
      rw [Int.add_mul, Int.one_mul] at hval
      refine Res2.succ (fun k m => ?_) ((step_back v i hnl hvl h.vL (Q + 1) (U - Q * V) (by have := h.Ql; omega) hq' (by omega) (by omega) (wv B64 (w.set i d)) (by rw [hval, h.eV]; omega) i 0 (w.set i d) 0 (by omega) (by simpa using hw) wL' (by omega) (by omega) (by simp [wv])).mono fun x hx => ⟨by rw [hx.1]; omega, hx.2⟩)
      simp only [exact_step.l4, exact_step.b4, Int.toNat_natCast]
      rw [bn (by omega), if_pos (by omega), hs]
      simp only [Option.bind_some]
      rw [if_pos (by omega), bn (by omega)]
      rfl
  | d + 1, i, w, b, c, hd, hw, wL, hb, hb', hc, hc', hv => by
    have hn2 := h.n2
    have hvl := h.vl
    have hnl := h.nl
    have hg := wL.get i (by omega)
    have hgv := h.vL.get i (by omega)
    have e1 : IntKind.wrap .i64 ((i : Int) + 1) = ((i + 1 : Nat) : Int) := by rw [wi _ (by omega) (by omega)]; omega
    -- one product with what is carried
    have hp0 := Int.mul_nonneg hq hgv.1
    have hp1 : q * v.getD i 0 ≤ (B64 - 1) * (B64 - 1) := Int.mul_le_mul (by omega) (by omega) hgv.1 (by decide)
    have hlo : 0 ≤ (q * v.getD i 0 % B64 + c + 0) % B64 ∧ (q * v.getD i 0 % B64 + c + 0) % B64 < B64 := by simp only [B64]; omega
    have hcar : ∃ c', IntKind.wrap .u64 (q * v.getD i 0 / B64 + (q * v.getD i 0 % B64 + c + 0) / B64) = c' ∧ 0 ≤ c' ∧ c' < B64 ∧ q * v.getD i 0 + c = (q * v.getD i 0 % B64 + c + 0) % B64 + B64 * c' := by
      generalize q * v.getD i 0 = p at *
      refine ⟨_, rfl, ?_⟩
      rw [wu]
      simp only [B64] at *
      omega
    obtain ⟨c', ec, hc0, hc1, hmul⟩ := hcar
    obtain ⟨d', b', hs, hd1, hb1, hsub⟩ := sub64_ok' hg hlo ⟨hb, hb'⟩
    refine Res2.succ (fun k m => ?_) (step_sub h q hq hq' hQ hQ' d (i + 1) (w.set i d') b' c' (by omega) (by simpa using hw) (wL.set i hd1) hb1.1 hb1.2 hc0 hc1 ?_)
    · simp only [exact_step.l4, exact_step.b4, Int.toNat_natCast, e1, mul64_ok q _ hq hq' hgv.1 hgv.2, Option.bind_some]
      rw [bp (by omega), if_pos (by omega), add64_ok' (by have := Int.emod_nonneg (q * v.getD i 0) (show B64 ≠ 0 by decide); exact this) hc (by omega) (by omega)]
      simp only [Option.bind_some]
      rw [if_pos (by omega)]
      have hs' : sub64 (w.getD i 0) ((q * v.getD i 0 % 18446744073709551616 + c + 0) % 18446744073709551616) b = some (d', b') := hs
      rw [hs']
      simp only [Option.bind_some]
      have ec' : IntKind.wrap .u64 (q * v.getD i 0 / 18446744073709551616 + (q * v.getD i 0 % 18446744073709551616 + c + 0) / 18446744073709551616) = c' := ec
      rw [if_pos (by omega), ec']
    · rw [wv_set (by omega), hv, wv_take_succ i (by omega), Int.pow_succ]
      generalize v.getD i 0 = x at *
      generalize w.getD i 0 = y at *
      generalize (q * x % B64 + c + 0) % B64 = lo at *
      grind
end Go.Proofs.YthghchjbomlpfaaGreat.Ev

/- exact: step, whole; divide. -/
namespace Go.Proofs.YthghchjbomlpfaaGreat.Ev
set_option linter.unusedVariables false

theorem step_ok {n : Nat} {u v : List Int} {u2 u1 u0 v1 v2 U V Q : Int} (h : KD n u v u2 u1 u0 v1 v2 U V Q) :
    Res (fun k => exact_step k u v) fun x => x.1 = Q ∧ x.2.length = n + 1 ∧ Lim_ B64 x.2 ∧ wv B64 x.2 = U - Q * V := by
  have hl := h.lims
  have hn2 := h.n2
  have hnl := h.nl
  have hul := h.ul
  have hvl := h.vl
  have hQ0 := h.Ql
  have hQB := h.Qlt
  have e1 : IntKind.wrap .i64 ((v.length : Int) - 1) = ((n - 1 : Nat) : Int) := by rw [wi _ (by omega) (by omega)]; omega
  have h3 : ∀ q, 0 ≤ q → Q ≤ q → q ≤ Q + 1 → q < B64 → Res2 (fun k m => exact_step.l3 k m n q u v) fun x => x.1 = Q ∧ x.2.length = n + 1 ∧ Lim_ B64 x.2 ∧ wv B64 x.2 = U - Q * V := by
    intro q a1 a2 a3 a4
    refine Res2.succ (fun k m => ?_) (step_sub h q a1 a4 a2 a3 n 0 u 0 0 (by omega) hul h.uL (by omega) (by omega) (by omega) (by decide) (by simp [wv, h.eU]))
    simp only [exact_step.l3, exact_step.b3]
    rfl
  have hfirst := h.first
  have htop := h.top
  by_cases hc : v1 ≤ u2
  · have he : u2 = v1 := by omega
    have hg := step_guess h _ h3 (B64 - 1).toNat (B64 - 1) (u1 + v1) (by decide) (by omega) (by omega) (by rw [he]; grind) (by omega) (by omega)
    have hg0 : Res2 (fun k m => exact_step.l0 k m n (B64 - 1) ((u1 + v1) % B64) ((u1 + v1) / B64) u v) fun x => x.1 = Q ∧ x.2.length = n + 1 ∧ Lim_ B64 x.2 ∧ wv B64 x.2 = U - Q * V := Res2.succ (fun k m => by simp only [exact_step.l0, exact_step.b0]) hg
    refine Res.of_eq hg0.diag fun k => ?_
    simp only [exact_step, exact_step.top, e1, Int.toNat_natCast]
    rw [if_pos (by omega), if_pos (by omega), hvl, h.f1, h.e2, bp hc, if_pos (by omega), if_pos (by omega), h.e1, add64_ok' hl.2.1.1 (by omega) (by omega) (by omega)]
    simp only [Option.bind_some, Int.add_zero]
    rfl
  · obtain ⟨x, hx, rfl⟩ := div64_ok u2 u1 v1 hl.1.1 (by omega) hl.2.1.1 hl.2.1.2 hl.2.2.2.1.2
    have hN : (0 : Int) ≤ u2 * B64 + u1 := by have := hl.1.1; have := hl.2.1.1; simp only [B64] at *; omega
    have hv1 := hl.2.2.2.1
    have hdm := Int.emod_add_mul_ediv (u2 * B64 + u1) v1
    rw [Int.mul_comm v1] at hdm
    have m0 := Int.emod_nonneg (u2 * B64 + u1) (show v1 ≠ 0 by omega)
    have m1 := Int.emod_lt_of_pos (u2 * B64 + u1) (show 0 < v1 by omega)
    have hq0 : 0 ≤ (u2 * B64 + u1) / v1 := Int.ediv_nonneg hN (by omega)
    have hqB : (u2 * B64 + u1) / v1 < B64 := by
      rw [Int.ediv_lt_iff_lt_mul (by omega)]
      have := Int.mul_le_mul_of_nonneg_right (show u2 + 1 ≤ v1 by omega) (show (0 : Int) ≤ B64 by decide)
      rw [Int.mul_comm v1, Int.add_mul, Int.one_mul] at this
      have := hl.2.1.2
      omega
    have hQq : Q ≤ (u2 * B64 + u1) / v1 := by rw [Int.le_ediv_iff_mul_le (by omega)]; exact hfirst
    have hg := step_guess h _ h3 ((u2 * B64 + u1) / v1).toNat ((u2 * B64 + u1) / v1) ((u2 * B64 + u1) % v1) (by omega) hQq hqB (by omega) m0 (by omega)
    rw [Int.emod_eq_of_lt m0 (by omega), Int.ediv_eq_zero_of_lt m0 (by omega)] at hg
    have hg0 : Res2 (fun k m => exact_step.l0 k m n ((u2 * B64 + u1) / v1) ((u2 * B64 + u1) % v1) 0 u v) fun x => x.1 = Q ∧ x.2.length = n + 1 ∧ Lim_ B64 x.2 ∧ wv B64 x.2 = U - Q * V := Res2.succ (fun k m => by simp only [exact_step.l0, exact_step.b0]) hg
    refine Res.of_eq (g := fun k => (bits_Div64 k u2 u1 v1).bind fun pt17 => exact_step.l0 k k n pt17.1 pt17.2 0 u v) ?_ (fun k => ?_)
    · refine Res.bind (R := fun t => _ = t) ⟨_, hx, rfl⟩ ?_
      rintro _ rfl
      exact hg0.diag
    · simp only [exact_step, exact_step.top, e1, Int.toNat_natCast]
      rw [if_pos (by omega), if_pos (by omega), hvl, h.f1, h.e2, bn hc, if_pos (by omega), if_pos (by omega), if_pos (by omega), h.e1]

/-! ### One limb below -/
theorem div1_loop (a : List Int) (ha : Lim_ B64 a) (hla : a.length ≤ 17592186044416) (b : Int) (hb : 1 ≤ b) (hb' : b < B64) (Q : List Int × List Int → Prop)
    (hQ : ∀ q r : List Int, Lim_ B64 q → Lim_ B64 r → Can q → Can r → wv B64 q = wv B64 a / b → wv B64 r = wv B64 a % b → q.length ≤ a.length → r.length ≤ 1 → Q (q, r)) :
    ∀ (i : Nat) (rest : Int) (q : List Int), i ≤ a.length → q.length = a.length → Lim_ B64 q → 0 ≤ rest → rest < b → wv B64 (q.take i) = 0 → wv B64 a = wv B64 q * b + rest * B64 ^ i + wv B64 (a.take i) →
      Res2 (fun k m => exact_divide.l0 k m rest ((i : Int) - 1) a [b] q) Q
  | 0, rest, q, hi, hq, hL, hr0, hr, hz, hv => by
    obtain ⟨t, h1, h2, h3, h4⟩ := trim_ok q (by omega)
    obtain ⟨t', g1, g2, g3, g4⟩ := trim_ok [rest] (by simp)
    have hrL : Lim_ B64 [rest] := Lim_.cons ⟨hr0, by omega⟩ (fun _ h => by simp at h)
    simp only [List.take_zero, wv, Int.add_zero, Int.pow_zero, Int.mul_one] at hv
    have hd := div_uniq hv hr0 hr
    refine Res2.succ (g := fun k m => (exact_trim k q).bind fun t4 => (exact_trim k [rest]).bind fun t5 => some (List.take t4 (List.drop 0 q), List.take t5 (List.drop 0 [rest]))) (fun k m => ?_)
      (Res2.call (R := fun x => t = x) (g := fun k m t4 => (exact_trim k [rest]).bind fun t5 => some (List.take t4 (List.drop 0 q), List.take t5 (List.drop 0 [rest]))) ⟨t, h2, rfl⟩ ?_)
    · simp only [exact_divide.l0, exact_divide.b0]
      rw [bn (by omega)]
    · rintro t rfl
      refine Res2.call (R := fun x => t' = x) (g := fun k m t5 => some (List.take t (List.drop 0 q), List.take t5 (List.drop 0 [rest]))) ⟨t', g2, rfl⟩ ?_
      rintro t' rfl
      refine Res2.pure (hQ _ _ (hL.take t) (hrL.take t') h3 g3 ?_ ?_ ?_ ?_)
      · rw [List.drop_zero, h4, hd.1]
      · rw [List.drop_zero, g4, hd.2]; simp [wv]
      · rw [List.length_take]; simp; omega
      · rw [List.length_take]; simp; omega
  | i + 1, rest, q, hi, hq, hL, hr0, hr, hz, hv => by
    have hg := ha.get i (by omega)
    have e1 : IntKind.wrap .i64 (((i + 1 : Nat) : Int) - 1 - 1) = (i : Int) - 1 := by rw [wi _ (by omega) (by omega)]; omega
    have e0 : ((i + 1 : Nat) : Int) - 1 = (i : Int) := by omega
    have hP : 0 < B64 ^ i := Int.pow_pos (by decide)
    obtain ⟨x, hx, rfl⟩ := div64_ok rest (a.getD i 0) b hr0 hr hg.1 hg.2 hb'
    have hdm := Int.emod_add_mul_ediv (rest * B64 + a.getD i 0) b
    rw [Int.mul_comm b] at hdm
    have m0 := Int.emod_nonneg (rest * B64 + a.getD i 0) (show b ≠ 0 by omega)
    have m1 := Int.emod_lt_of_pos (rest * B64 + a.getD i 0) (show 0 < b by omega)
    have hN : 0 ≤ rest * B64 + a.getD i 0 := by have := Int.mul_nonneg hr0 (show (0 : Int) ≤ B64 by decide); omega
    have hq0 : 0 ≤ (rest * B64 + a.getD i 0) / b := Int.ediv_nonneg hN (by omega)
    have hqB : (rest * B64 + a.getD i 0) / b < B64 := by
      rw [Int.ediv_lt_iff_lt_mul (by omega)]
      have := Int.mul_le_mul_of_nonneg_right (show rest + 1 ≤ b by omega) (show (0 : Int) ≤ B64 by decide)
      rw [Int.mul_comm b, Int.add_mul, Int.one_mul] at this
      omega
    -- the limb was zero
    rw [wv_take_succ i (by omega)] at hz
    have z0 := wv_nonneg (by decide) (hL.take i)
    have z1 := Int.mul_nonneg (show 0 ≤ B64 ^ i by omega) (hL.get i (by omega)).1
    have z2 : q.getD i 0 = 0 := by
      have : B64 ^ i * q.getD i 0 = B64 ^ i * 0 := by omega
      exact Int.eq_of_mul_eq_mul_left (by omega) this
    refine Res2.succ (g := fun k m => (bits_Div64 k rest (a.getD i 0) b).bind fun pt2 => if 0 ≤ (i : Int) ∧ (i : Int) < (q.length : Int) then (exact_divide.l0 k m pt2.2 ((i : Int) - 1) a [b] (List.set q i pt2.1)) else none) (fun k m => ?_)
      (Res2.call (R := fun t => _ = t) (g := fun k m pt2 => if 0 ≤ (i : Int) ∧ (i : Int) < (q.length : Int) then (exact_divide.l0 k m pt2.2 ((i : Int) - 1) a [b] (List.set q i pt2.1)) else none) ⟨_, hx, rfl⟩ ?_)
    · simp only [exact_divide.l0, exact_divide.b0, e1]
      simp only [e0, Int.toNat_natCast]
      rw [bp (by omega), if_pos (by omega), if_pos (by simp)]
      rfl
    · rintro _ rfl
      refine Res2.of_eq (div1_loop a ha hla b hb hb' Q hQ i ((rest * B64 + a.getD i 0) % b) (q.set i ((rest * B64 + a.getD i 0) / b)) (by omega) (by simpa using hq) (hL.set i ⟨hq0, hqB⟩) m0 m1 ?_ ?_) (fun k m => by rw [if_pos (by omega)])
      · rw [List.take_set_of_le (Nat.le_refl i)]; omega
      · rw [wv_set (by omega), hv, z2, wv_take_succ i (by omega), Int.pow_succ]
        grind
end Go.Proofs.YthghchjbomlpfaaGreat.Ev

/- exact: divide. -/
namespace Go.Proofs.YthghchjbomlpfaaGreat.Ev
set_option linter.unusedVariables false

/-- What division answers. -/
def DivP (a b : List Int) (x : List Int × List Int) : Prop :=
  Lim_ B64 x.1 ∧ Lim_ B64 x.2 ∧ Can x.1 ∧ Can x.2 ∧ wv B64 x.1 = wv B64 a / wv B64 b ∧ wv B64 x.2 = wv B64 a % wv B64 b ∧ x.1.length ≤ a.length ∧ x.2.length ≤ a.length

theorem getD_drop (l : List Int) (i j : Nat) : (l.drop i).getD j 0 = l.getD (i + j) 0 := by simp [List.getD, List.getElem?_drop]
theorem getD_take (l : List Int) (i j : Nat) (h : j < i) : (l.take i).getD j 0 = l.getD j 0 := by simp [List.getD, List.getElem?_take, h]

theorem set_drop_ge (l : List Int) (i : Nat) (x : Int) : (l.set i x).drop (i + 1) = l.drop (i + 1) := by
  rw [List.drop_set]; simp

/-- The rest, shifted back. -/
theorem div_back (s : Nat) (hs : s ≤ 63) (n : Nat) (hn : n ≤ 17592186044416) (q : List Int) (hql : q.length ≤ 17592186044417) (R : Int) (P : List Int × List Int → Prop)
    (hP : ∀ w : List Int, n < w.length → Lim_ B64 w → wv B64 (w.take n) = R / 2 ^ s → Res2 (fun k m => exact_divide.l2 k m s n n n w q) P) :
    ∀ (d i : Nat) (w : List Int), i + d = n → n < w.length → Lim_ B64 w → wv B64 (w.drop n) = 0 → wv B64 (w.take i) + B64 ^ i * (wv B64 (w.drop i) / 2 ^ s) = R / 2 ^ s → Res2 (fun k m => exact_divide.l2 k m s n n i w q) P
  | 0, i, w, hd, hw, wL, hz, hv => by
    obtain rfl : i = n := by omega
    rw [hz] at hv
    exact hP w hw wL (by simpa using hv)
  | d + 1, i, w, hd, hw, wL, hz, hv => by
    have hx := wL.get i (by omega)
    have hy := wL.get (i + 1) (by omega)
    have hp : (0 : Int) < 2 ^ s := Int.pow_pos (by omega)
    have hp4 : (0 : Int) < 2 ^ (64 - s) := Int.pow_pos (by omega)
    have e64 : (18446744073709551616 : Int) = 2 ^ s * 2 ^ (64 - s) := by rw [← Int.pow_add, show s + (64 - s) = 64 by omega]; rfl
    have e1 : IntKind.wrap .i64 ((i : Int) + 1) = ((i + 1 : Nat) : Int) := by rw [wi _ (by omega) (by omega)]; omega
    have e2 : IntKind.wrap .i64 (64 - (s : Int)) = ((64 - s : Nat) : Int) := by rw [wi _ (by omega) (by omega)]; omega
    have m1 : min s 64 = s := by omega
    have m2 : min (64 - s) 64 = 64 - s := by omega
    have hf : Int.fdiv (w.getD i 0) (2 ^ s) = w.getD i 0 / 2 ^ s := fd _ _ (by omega)
    have hx0 : 0 ≤ w.getD i 0 / 2 ^ s := Int.ediv_nonneg hx.1 (by omega)
    have hx1 : w.getD i 0 / 2 ^ s < 2 ^ (64 - s) := by rw [Int.ediv_lt_iff_lt_mul hp, Int.mul_comm, ← e64]; exact hx.2
    have hg : ∀ z, (w.set i z).getD i 0 = z := fun z => by simp [List.getD, show i < w.length by omega]
    -- what is above
    have hdr : wv B64 (w.drop i) = w.getD i 0 + B64 * wv B64 (w.drop (i + 1)) := wv_drop i (by omega)
    have hD0 := wv_nonneg (by decide) (wL.drop (i + 1))
    have hsh : (w.getD i 0 + B64 * wv B64 (w.drop (i + 1))) / 2 ^ s = w.getD i 0 / 2 ^ s + 2 ^ (64 - s) * wv B64 (w.drop (i + 1)) := by
      have : w.getD i 0 + B64 * wv B64 (w.drop (i + 1)) = w.getD i 0 + 2 ^ s * (2 ^ (64 - s) * wv B64 (w.drop (i + 1))) := by rw [← Int.mul_assoc, ← e64]
      rw [this, Int.add_mul_ediv_left _ _ (by omega)]
    by_cases h0s : 0 < s
    · have q0 := Int.emod_nonneg (w.getD (i + 1) 0 * 2 ^ (64 - s)) (show (18446744073709551616 : Int) ≠ 0 by omega)
      have q1 := Int.emod_lt_of_pos (w.getD (i + 1) 0 * 2 ^ (64 - s)) (show (0 : Int) < 18446744073709551616 by omega)
      obtain ⟨c, hc⟩ := shl_mult (w.getD (i + 1) 0) (64 - s) (by omega)
      have hor := or_add' (w.getD (i + 1) 0 * 2 ^ (64 - s) % 18446744073709551616) (w.getD i 0 / 2 ^ s) (64 - s) (by omega) q0 q1 ⟨c, hc⟩ hx0 hx1
      have hsum : w.getD (i + 1) 0 * 2 ^ (64 - s) % 18446744073709551616 + w.getD i 0 / 2 ^ s < 18446744073709551616 := by
        have h2 : c < 2 ^ s := by
          rw [hc, e64, Int.mul_comm (2 ^ s)] at q1
          exact Int.lt_of_mul_lt_mul_left q1 (by omega)
        have h3 := Int.mul_le_mul_of_nonneg_left (show c + 1 ≤ 2 ^ s by omega) (show (0 : Int) ≤ 2 ^ (64 - s) by omega)
        rw [Int.mul_comm (2 ^ (64 - s)) (2 ^ s), ← e64, Int.mul_add, Int.mul_one] at h3
        omega
      have eo : IntKind.wrap .u64 (((BitVec.ofInt 64 (w.getD i 0 / 2 ^ s) ||| BitVec.ofInt 64 (IntKind.wrap .u64 (w.getD (i + 1) 0 * 2 ^ (64 - s)))).toNat : Nat) : Int) = w.getD (i + 1) 0 * 2 ^ (64 - s) % 18446744073709551616 + w.getD i 0 / 2 ^ s := by
        rw [wu (w.getD (i + 1) 0 * 2 ^ (64 - s)), hor, ule (by omega) hsum]
      refine Res2.succ (fun k m => ?_) (div_back s hs n hn q hql R P hP d (i + 1) (w.set i (w.getD (i + 1) 0 * 2 ^ (64 - s) % 18446744073709551616 + w.getD i 0 / 2 ^ s)) (by omega) (by simpa using hw) (wL.set i ⟨by omega, hsum⟩) ?_ ?_)
      · simp only [exact_divide.l2, exact_divide.b2, Int.toNat_natCast, e1, e2, m1, m2, hf, List.length_set, hg]
        rw [bp (by omega), if_pos (by omega), if_neg (by omega), if_pos (by omega), bp (by omega), bp (by omega), if_pos (by omega), if_pos (by omega), if_neg (by omega), if_pos (by omega), getD_set_ne (by omega), eo, List.set_set]
      · rw [List.drop_set, if_pos (by omega)]; exact hz
      · rw [wv_take_succ i (by simp; omega), List.take_set_of_le (Nat.le_refl i), hg, set_drop_ge, ← hv, hdr, hsh, Int.pow_succ]
        have hD : wv B64 (w.drop (i + 1)) = w.getD (i + 1) 0 + B64 * wv B64 (w.drop (i + 1 + 1)) := wv_drop (i + 1) (by omega)
        have h5 : 2 ^ (64 - s) * wv B64 (w.drop (i + 1)) = w.getD (i + 1) 0 * 2 ^ (64 - s) % 18446744073709551616 + 18446744073709551616 * (wv B64 (w.drop (i + 1)) / 2 ^ s) := by
          have a1 := Int.emod_add_mul_ediv (2 ^ (64 - s) * wv B64 (w.drop (i + 1))) 18446744073709551616
          have a2 : 2 ^ (64 - s) * wv B64 (w.drop (i + 1)) % 18446744073709551616 = w.getD (i + 1) 0 * 2 ^ (64 - s) % 18446744073709551616 := by
            rw [hD, Int.mul_add, show 2 ^ (64 - s) * (B64 * wv B64 (w.drop (i + 1 + 1))) = 18446744073709551616 * (2 ^ (64 - s) * wv B64 (w.drop (i + 1 + 1))) by simp only [B64]; grind, Int.add_mul_emod_self_left, Int.mul_comm]
          have a3 : 2 ^ (64 - s) * wv B64 (w.drop (i + 1)) / 18446744073709551616 = wv B64 (w.drop (i + 1)) / 2 ^ s := by
            rw [e64, Int.mul_comm (2 ^ s), Int.mul_ediv_mul_of_pos _ _ hp4]
          rw [a2, a3] at a1
          exact a1.symm
        rw [h5]
        simp only [B64]
        grind
    · obtain rfl : s = 0 := by omega
      refine Res2.succ (fun k m => ?_) (div_back 0 hs n hn q hql R P hP d (i + 1) (w.set i (w.getD i 0 / 2 ^ 0)) (by omega) (by simpa using hw) (wL.set i ⟨hx0, by simpa using hx.2⟩) ?_ ?_)
      · simp only [exact_divide.l2, exact_divide.b2, Int.toNat_natCast, e1, m1, hf, List.length_set]
        rw [bp (by omega), if_pos (by omega), if_neg (by omega), if_pos (by omega), bn (by omega)]
      · rw [List.drop_set, if_pos (by omega)]; exact hz
      · rw [wv_take_succ i (by simp; omega), List.take_set_of_le (Nat.le_refl i), hg, set_drop_ge, ← hv, hdr, Int.pow_succ]
        simp only [Int.pow_zero, Int.ediv_one]
        grind

/-- The digits of a quotient. -/
theorem div_steps (s : Nat) (hs : s ≤ 63) (t7 v : List Int) (n : Nat) (hn2 : 2 ≤ n) (hn : n ≤ 17592186044416) (hv : v = (t7.drop 0).take n) (hvl : v.length = n) (vL : Lim_ B64 v) (V A : Int) (eV : wv B64 v = V) (hVp : 1 ≤ v.getD (n - 1) 0) (la : Nat) (hla : la ≤ 17592186044416) (P : List Int × List Int → Prop)
    (hP : ∀ w q : List Int, w.length = la + 1 → Lim_ B64 w → q.length + n = la + 1 → Lim_ B64 q → 0 ≤ wv B64 w → wv B64 w < V → A = wv B64 w + V * wv B64 q → Res2 (fun k m => exact_divide.l2 k m s n n 0 w q) P) :
    ∀ (j : Nat) (w q : List Int), j + n ≤ la + 1 → w.length = la + 1 → Lim_ B64 w → q.length + n = la + 1 → Lim_ B64 q → wv B64 (q.take j) = 0 → wv B64 (w.drop j) < V → A = wv B64 w + V * wv B64 q →
      Res2 (fun k m => exact_divide.l1 k m s n n ((j : Int) - 1) t7 w q) P
  | 0, w, q, hj, hw, wL, hq, qL, hz, hlt, hA => by
    refine Res2.succ (fun k m => ?_) (hP w q hw wL hq qL (wv_nonneg (by decide) wL) (by simpa using hlt) hA)
    simp only [exact_divide.l1, exact_divide.b1]
    rw [bn (by omega)]
  | j + 1, w, q, hj, hw, wL, hq, qL, hz, hlt, hA => by
    have hjl : j < w.length := by omega
    have hg := wL.get j hjl
    have hDn := wv_nonneg (by decide) (wL.drop (j + 1))
    -- what is divided now
    have hdr : wv B64 (w.drop j) = w.getD j 0 + B64 * wv B64 (w.drop (j + 1)) := wv_drop j (by omega)
    have hUlt : wv B64 (w.drop j) < V * B64 := by
      have := Int.mul_le_mul_of_nonneg_left (show wv B64 (w.drop (j + 1)) + 1 ≤ V by omega) (show (0 : Int) ≤ B64 by decide)
      rw [Int.mul_add, Int.mul_one] at this
      rw [Int.mul_comm V, hdr]
      omega
    have hVlt : V < B64 ^ n := by rw [← eV]; have := wv_lt (B := B64) (by decide) vL; rwa [hvl] at this
    have hU0 := wv_nonneg (by decide) (wL.drop j)
    have hVpos : 0 < V := by omega
    -- its part
    have hsp := wv_split (B := B64) (n + 1) (l := w.drop j) (by simp; omega)
    rw [List.drop_drop] at hsp
    have hPn : (0 : Int) < B64 ^ (n + 1) := Int.pow_pos (by decide)
    have hX0 := wv_nonneg (by decide) ((wL.drop j).take (n + 1))
    have hY0 := wv_nonneg (by decide) (wL.drop (j + (n + 1)))
    have hrest : wv B64 (w.drop (j + (n + 1))) = 0 := by
      have h1 : V * B64 ≤ B64 ^ (n + 1) := by rw [Int.pow_succ]; exact Int.mul_le_mul_of_nonneg_right (by omega) (by decide)
      rcases Int.lt_or_le 0 (wv B64 (w.drop (j + (n + 1)))) with h2 | h2
      · have := Int.mul_le_mul_of_nonneg_left (show 1 ≤ wv B64 (w.drop (j + (n + 1))) by omega) (show 0 ≤ B64 ^ (n + 1) by omega)
        omega
      · omega
    rw [hrest, Int.mul_zero, Int.add_zero] at hsp
    have hdm := Int.emod_add_mul_ediv (wv B64 (w.drop j)) V
    have hm0 := Int.emod_nonneg (wv B64 (w.drop j)) (show V ≠ 0 by omega)
    have hm1 := Int.emod_lt_of_pos (wv B64 (w.drop j)) hVpos
    have hQ0 : 0 ≤ wv B64 (w.drop j) / V := Int.ediv_nonneg hU0 (by omega)
    have hKD : KD n ((w.drop j).take (n + 1)) v _ _ _ _ _ (wv B64 (w.drop j)) V (wv B64 (w.drop j) / V) :=
      ⟨hn2, hn, by rw [List.length_take, List.length_drop]; omega, hvl, (wL.drop j).take _, vL, rfl, rfl, rfl, rfl, rfl, hsp.symm, eV, hVp, hUlt, hQ0, by rw [Int.mul_comm]; omega, by rw [Int.add_mul, Int.one_mul, Int.mul_comm]; omega⟩
    have hst := step_ok hKD
    have hQB := hKD.Qlt
    have e1 : IntKind.wrap .i64 ((j : Int) + (n : Int)) = ((j + n : Nat) : Int) := by rw [wi _ (by omega) (by omega)]; omega
    have e2 : IntKind.wrap .i64 (((j + n : Nat) : Int) + 1) = ((j + n + 1 : Nat) : Int) := by rw [wi _ (by omega) (by omega)]; omega
    have e3 : IntKind.wrap .i64 ((j : Int) - 1) = (j : Int) - 1 := by rw [wi _ (by omega) (by omega)]
    have e0 : ((j + 1 : Nat) : Int) - 1 = (j : Int) := by omega
    have e4 : j + n + 1 - j = n + 1 := by omega
    -- the quotient's limb was zero
    rw [wv_take_succ j (by omega)] at hz
    have hPj : 0 < B64 ^ j := Int.pow_pos (by decide)
    have z0 := wv_nonneg (by decide) (qL.take j)
    have z1 := Int.mul_nonneg (show 0 ≤ B64 ^ j by omega) (qL.get j (by omega)).1
    have z2 : q.getD j 0 = 0 := by
      have : B64 ^ j * q.getD j 0 = B64 ^ j * 0 := by omega
      exact Int.eq_of_mul_eq_mul_left (by omega) this
    refine Res2.succ (g := fun k m => (exact_step k ((w.drop j).take (n + 1)) v).bind fun pt10 => exact_divide.l1 k m s n n ((j : Int) - 1) t7 (w.take j ++ (pt10.2 ++ w.drop (j + (n + 1)))) (q.set j pt10.1)) (fun k m => ?_)
      (Res2.call (g := fun k m pt10 => exact_divide.l1 k m s n n ((j : Int) - 1) t7 (w.take j ++ (pt10.2 ++ w.drop (j + (n + 1)))) (q.set j pt10.1)) hst ?_)
    · simp only [exact_divide.l1, exact_divide.b1, e0]
      simp only [Int.toNat_natCast, e1, e2, e3, e4, ← hv]
      rw [bp (by omega), if_pos (by omega), if_pos (by omega)]
      congr 1
      funext pt
      rw [if_pos (by omega)]
    · rintro ⟨x1, x2⟩ ⟨hx1, hx2, hx3, hx4⟩
      simp only at hx1 hx2 hx3 hx4
      subst hx1
      have hsw := wv_split (B := B64) j (l := w) (by omega)
      have hnl : (w.take j).length = j := by rw [List.length_take]; omega
      refine div_steps s hs t7 v n hn2 hn hv hvl vL V A eV hVp la hla P hP j (w.take j ++ (x2 ++ w.drop (j + (n + 1)))) (q.set j (wv B64 (w.drop j) / V)) (by omega) ?_ ((wL.take j).append (hx3.append (wL.drop _))) (by simpa using hq) (qL.set j ⟨hQ0, hQB⟩) ?_ ?_ ?_
      · rw [List.length_append, List.length_append, hnl, hx2, List.length_drop]; omega
      · rw [List.take_set_of_le (Nat.le_refl j)]; omega
      · rw [List.drop_left' hnl, wv_append, hrest, hx4, Int.mul_zero, Int.add_zero, Int.mul_comm]; omega
      · rw [wv_append, hnl, wv_append, hrest, hx4, wv_set (by omega), z2, hA, hsw]
        grind
end Go.Proofs.YthghchjbomlpfaaGreat.Ev

/- exact: divide, whole; NatDivMod, NatGcd. -/
namespace Go.Proofs.YthghchjbomlpfaaGreat.Ev
set_option linter.unusedVariables false

theorem pow_le_iff {a b : Nat} (h : (B64 : Int) ^ a < B64 ^ b) : a < b := by
  rcases Nat.lt_or_ge a b with h1 | h1
  · exact h1
  · obtain ⟨d, rfl⟩ := Nat.exists_eq_add_of_le h1
    rw [Int.pow_add] at h
    have h2 : (0 : Int) < B64 ^ d := Int.pow_pos (by decide)
    have h3 : (0 : Int) < B64 ^ b := Int.pow_pos (by decide)
    have := Int.mul_le_mul_of_nonneg_left (show (1 : Int) ≤ B64 ^ d by omega) (show (0 : Int) ≤ B64 ^ b by omega)
    omega

theorem can_top {l : List Int} (hL : Lim_ B64 l) (hc : Can l) (hn : l ≠ []) : 1 ≤ l.getD (l.length - 1) 0 := by
  obtain ⟨m, x, rfl⟩ : ∃ m x, l = m ++ [x] := ⟨l.dropLast, l.getLast hn, (List.dropLast_concat_getLast hn).symm⟩
  have h1 := hL x (by simp)
  have h2 : x ≠ 0 := fun e => by subst e; exact hc (by simp)
  have : (m ++ [x]).getD ((m ++ [x]).length - 1) 0 = x := by simp [List.getD]
  rw [this]; omega

theorem can_wv {l : List Int} (hL : Lim_ B64 l) (hc : Can l) : l = [] ∨ 0 < wv B64 l := by
  by_cases hn : l = []
  · exact .inl hn
  · have := can_lower (B := B64) (by decide) hL hc hn
    have h2 : (0 : Int) < B64 ^ (l.length - 1) := Int.pow_pos (by decide)
    exact .inr (by omega)

theorem divide_ok (a b : List Int) (hla : a.length ≤ 17592186044415) (hlb : b.length ≤ 17592186044415) (ha : Lim_ B64 a) (hb : Lim_ B64 b) (hca : Can a) (hcb : Can b) (hbn : b ≠ []) : Res (fun k => exact_divide k a b) (DivP a b) := by
  have hbl := can_lower (B := B64) (by decide) hb hcb hbn
  have hP0 : (0 : Int) < B64 ^ (b.length - 1) := Int.pow_pos (by decide)
  have hA0 := wv_nonneg (by decide) ha
  have hAlt := wv_lt (by decide) ha
  have hBlt := wv_lt (by decide) hb
  have hbl0 : 0 < b.length := List.length_pos_iff.2 hbn
  refine Res.of_eq (g := fun k => (exact_compareWords k a b).bind fun t1 => bif decide (t1 < 0) then (some (([] : List Int), a)) else (bif decide ((b.length : Int) = 1) then (if 0 ≤ (a.length : Int) then (if (Int.toNat (a.length : Int)) ≤ 281474976710656 / 8 then (exact_divide.l0 k k 0 (IntKind.wrap .i64 ((a.length : Int) - 1)) a b (List.replicate (Int.toNat (a.length : Int)) 0 : List Int)) else none) else none) else (if 0 ≤ (IntKind.wrap .i64 ((b.length : Int) - 1)) ∧ (IntKind.wrap .i64 ((b.length : Int) - 1)) < (b.length : Int) then ((bits_LeadingZeros64 k (List.getD b (Int.toNat (IntKind.wrap .i64 ((b.length : Int) - 1))) 0)).bind fun t6 => (exact_shiftUp k b t6).bind fun t7 => (exact_trim k t7).bind fun t8 => (exact_shiftUp k a t6).bind fun t9 => if 0 ≤ (IntKind.wrap .i64 ((IntKind.wrap .i64 ((a.length : Int) - (t8 : Int))) + 1)) then (if (Int.toNat (IntKind.wrap .i64 ((IntKind.wrap .i64 ((a.length : Int) - (t8 : Int))) + 1))) ≤ 281474976710656 / 8 then (exact_divide.l1 k k t6 t8 (t8 : Int) (IntKind.wrap .i64 ((a.length : Int) - (t8 : Int))) t7 t9 (List.replicate (Int.toNat (IntKind.wrap .i64 ((IntKind.wrap .i64 ((a.length : Int) - (t8 : Int))) + 1))) 0 : List Int)) else none) else none) else none))) ?_ (fun k => rfl)
  refine Res.bind (R := fun t => cmp (wv B64 a) (wv B64 b) = t) ⟨_, cmpW_ok a b (by omega) (by omega) (by decide) ha hb hca hcb, rfl⟩ ?_
  rintro _ rfl
  have e1 : IntKind.wrap .i64 ((a.length : Int) - 1) = (a.length : Int) - 1 := by rw [wi _ (by omega) (by omega)]
  have e2 : IntKind.wrap .i64 ((b.length : Int) - 1) = ((b.length - 1 : Nat) : Int) := by rw [wi _ (by omega) (by omega)]; omega
  by_cases hc : wv B64 a < wv B64 b
  · have hcmp : cmp (wv B64 a) (wv B64 b) = -1 := by rw [cmp, if_pos hc]
    refine Res.of_eq (Res.pure (r := (([] : List Int), a)) ⟨(fun _ h => by simp at h), ha, can_nil, hca, ?_, ?_, by simp, Nat.le_refl _⟩) (fun k => by rw [hcmp, bp (by omega)])
    · show (0 : Int) = _
      rw [Int.ediv_eq_zero_of_lt hA0 hc]
    · exact (Int.emod_eq_of_lt hA0 hc).symm
  · have hcmp : ¬ cmp (wv B64 a) (wv B64 b) < 0 := by rw [cmp, if_neg hc]; split <;> omega
    have hlen : b.length ≤ a.length := by
      have : b.length - 1 < a.length := pow_le_iff (by omega)
      omega
    by_cases h1 : b.length = 1
    · obtain ⟨b0, rfl⟩ : ∃ b0, b = [b0] := by
        match b, h1 with
        | [x], _ => exact ⟨x, rfl⟩
      have hb0 := hb b0 (by simp)
      have eb : wv B64 [b0] = b0 := by simp [wv]
      have hbt := can_top hb hcb (by simp)
      simp only [List.length_singleton, Nat.sub_self, List.getD_cons_zero] at hbt
      refine Res.of_eq (div1_loop a ha (by omega) b0 hbt hb0.2 (DivP a [b0]) (fun q r a1 a2 a3 a4 a5 a6 a7 a8 => ⟨a1, a2, a3, a4, by rw [eb]; exact a5, by rw [eb]; exact a6, a7, Nat.le_trans a8 hlen⟩) a.length 0 (List.replicate a.length 0) (Nat.le_refl _) (by simp) (Lim_.rep (by decide) _) (by omega) (by omega) ?_ ?_).diag (fun k => ?_)
      · rw [List.take_replicate, wv_rep]
      · rw [wv_rep, List.take_of_length_le (Nat.le_refl _)]; simp
      · rw [bn hcmp, bp (by simp), if_pos (by omega), if_pos (by omega), e1, Int.toNat_natCast]
    · -- at least two limbs
      have hbt := can_top hb hcb hbn
      have hbg := hb.get (b.length - 1) (by omega)
      obtain ⟨bt, hbt'⟩ := Int.eq_ofNat_of_zero_le hbg.1
      obtain ⟨s, hs, hlead, hS1, hS2⟩ := lead_ok bt (by omega) (by simp only [B64] at *; omega)
      have hp : (0 : Int) < 2 ^ s := Int.pow_pos (by omega)
      have hcast : ((bt * 2 ^ s : Nat) : Int) = (bt : Int) * 2 ^ s := by push_cast; rfl
      have hS1' : (9223372036854775808 : Int) ≤ (bt : Int) * 2 ^ s := by omega
      have hS2' : (bt : Int) * 2 ^ s < 18446744073709551616 := by omega
      refine Res.of_eq (g := fun k => (bits_LeadingZeros64 k (bt : Int)).bind fun t6 => (exact_shiftUp k b t6).bind fun t7 => (exact_trim k t7).bind fun t8 => (exact_shiftUp k a t6).bind fun t9 => if 0 ≤ (IntKind.wrap .i64 ((IntKind.wrap .i64 ((a.length : Int) - (t8 : Int))) + 1)) then (if (Int.toNat (IntKind.wrap .i64 ((IntKind.wrap .i64 ((a.length : Int) - (t8 : Int))) + 1))) ≤ 281474976710656 / 8 then (exact_divide.l1 k k t6 t8 (t8 : Int) (IntKind.wrap .i64 ((a.length : Int) - (t8 : Int))) t7 t9 (List.replicate (Int.toNat (IntKind.wrap .i64 ((IntKind.wrap .i64 ((a.length : Int) - (t8 : Int))) + 1))) 0 : List Int)) else none) else none) ?_ (fun k => by
        rw [bn hcmp, bn (by omega), e2, if_pos (by omega), Int.toNat_natCast, hbt'])
      refine Res.bind (R := fun t => (s : Int) = t) ⟨_, hlead, rfl⟩ ?_
      rintro _ rfl
      refine Res.bind (shift_ok b hb (by omega) s hs) ?_
      rintro t7 ⟨v1, v2, v3⟩
      obtain ⟨t, w1, w2, w3, w4⟩ := trim_ok t7 (by omega)
      refine Res.bind (R := fun x => t = x) ⟨_, w2, rfl⟩ ?_
      rintro _ rfl
      refine Res.bind (shift_ok a ha (by omega) s hs) ?_
      rintro t9 ⟨u1, u2, u3⟩
      have w5 := w4 B64
      rw [v3] at w5
      -- the divisor: its length, its highest limb
      have hbsplit : wv B64 b = wv B64 (b.take (b.length - 1)) + B64 ^ (b.length - 1) * (bt : Int) := by
        have := wv_take_succ (B := B64) (l := b) (b.length - 1) (by omega)
        rw [show b.length - 1 + 1 = b.length by omega, List.take_of_length_le (Nat.le_refl _), hbt'] at this
        exact this
      have hbt0 := wv_nonneg (by decide) (hb.take (b.length - 1))
      have hbt1 := wv_lt (by decide) (hb.take (b.length - 1))
      rw [List.length_take, Nat.min_eq_left (by omega)] at hbt1
      have hVlow : B64 ^ (b.length - 1) * 9223372036854775808 ≤ wv B64 b * 2 ^ s := by
        have h3 := Int.mul_le_mul_of_nonneg_left hS1' (show (0 : Int) ≤ B64 ^ (b.length - 1) by omega)
        have h4 := Int.mul_nonneg hbt0 (show (0 : Int) ≤ 2 ^ s by omega)
        have : wv B64 b * 2 ^ s = wv B64 (b.take (b.length - 1)) * 2 ^ s + B64 ^ (b.length - 1) * ((bt : Int) * 2 ^ s) := by rw [hbsplit]; grind
        omega
      have hVup : wv B64 b * 2 ^ s < B64 ^ b.length := by
        -- (bt + 1) 2^s ≤ B
        have h3 : ((bt : Int) + 1) * 2 ^ s ≤ B64 := by
          have e64 : (B64 : Int) = 2 ^ (64 - s) * 2 ^ s := by rw [← Int.pow_add, show 64 - s + s = 64 by omega]; rfl
          have h5 : (bt : Int) < 2 ^ (64 - s) := by
            have : (bt : Int) * 2 ^ s < 2 ^ (64 - s) * 2 ^ s := by rw [← e64]; exact hS2'
            exact Int.lt_of_mul_lt_mul_right this (by omega)
          rw [e64]
          exact Int.mul_le_mul_of_nonneg_right (by omega) (by omega)
        have h4 : wv B64 b < B64 ^ (b.length - 1) * ((bt : Int) + 1) := by rw [Int.mul_add, Int.mul_one]; omega
        have h5 := Int.mul_lt_mul_of_pos_right h4 hp
        have h6 := Int.mul_le_mul_of_nonneg_left h3 (show (0 : Int) ≤ B64 ^ (b.length - 1) by omega)
        have h7 : B64 ^ b.length = B64 ^ (b.length - 1) * B64 := by rw [← Int.pow_succ, show (b.length - 1).succ = b.length by omega]
        have h8 : B64 ^ (b.length - 1) * ((bt : Int) + 1) * 2 ^ s = B64 ^ (b.length - 1) * (((bt : Int) + 1) * 2 ^ s) := Int.mul_assoc _ _ _
        omega
      have vL : Lim_ B64 (t7.take t) := v2.take t
      have hvl : (t7.take t).length = t := by rw [List.length_take]; omega
      have ht : t = b.length := by
        have g1 := wv_lt (B := B64) (by decide) vL
        rw [hvl, w5] at g1
        have g2 : b.length - 1 < t := pow_le_iff (by omega)
        have hne : t7.take t ≠ [] := fun e => by rw [e] at hvl; simp at hvl; omega
        have g3 := can_lower (B := B64) (by decide) vL w3 hne
        rw [hvl, w5] at g3
        have g4 : t - 1 < b.length := pow_le_iff (by omega)
        omega
      subst ht
      have hne : t7.take b.length ≠ [] := fun e => by rw [e] at hvl; simp at hvl; omega
      have hvtop := can_top vL w3 hne
      rw [hvl] at hvtop
      have e3 : IntKind.wrap .i64 ((a.length : Int) - (b.length : Int)) = ((a.length - b.length : Nat) : Int) := by rw [wi _ (by omega) (by omega)]; omega
      have e4 : IntKind.wrap .i64 (((a.length - b.length : Nat) : Int) + 1) = ((a.length - b.length + 1 : Nat) : Int) := by rw [wi _ (by omega) (by omega)]; omega
      -- the highest limbs of the dividend
      have hwsplit := wv_split (B := B64) (a.length - b.length + 1) (l := t9) (by omega)
      have hw0 := wv_nonneg (by decide) (u2.take (a.length - b.length + 1))
      have htopl : wv B64 (t9.drop (a.length - b.length + 1)) < wv B64 b * 2 ^ s := by
        have hPd : (0 : Int) < B64 ^ (a.length - b.length + 1) := Int.pow_pos (by decide)
        have h3 : wv B64 a * 2 ^ s < B64 ^ a.length * 9223372036854775808 := by
          have : (2 : Int) ^ s ≤ 9223372036854775808 := by
            have h4 : (2 : Nat) ^ s ≤ 2 ^ 63 := Nat.pow_le_pow_right (by omega) hs
            have e : ((2 ^ s : Nat) : Int) = 2 ^ s := by push_cast; rfl
            omega
          have h5 := Int.mul_lt_mul_of_pos_right hAlt hp
          have h6 := Int.mul_le_mul_of_nonneg_left this (show (0 : Int) ≤ B64 ^ a.length from Int.pow_nonneg (by decide))
          omega
        have h4 : B64 ^ a.length = B64 ^ (a.length - b.length + 1) * B64 ^ (b.length - 1) := by rw [← Int.pow_add]; congr 1; omega
        have h5 : B64 ^ (a.length - b.length + 1) * wv B64 (t9.drop (a.length - b.length + 1)) < B64 ^ (a.length - b.length + 1) * (wv B64 b * 2 ^ s) := by
          have h6 := Int.mul_le_mul_of_nonneg_left hVlow (show (0 : Int) ≤ B64 ^ (a.length - b.length + 1) by omega)
          rw [← Int.mul_assoc, ← h4] at h6
          omega
        exact Int.lt_of_mul_lt_mul_left h5 (by omega)
      have hVpos : 0 < wv B64 b := by omega
      have hfin := div_steps s hs t7 (t7.take b.length) b.length (by omega) (by omega) (by simp) hvl vL (wv B64 b * 2 ^ s) (wv B64 a * 2 ^ s) w5 hvtop a.length (by omega) (DivP a b) (fun w q c1 c2 c3 c4 c5 c6 c7 => by
        have hqv : wv B64 a * 2 ^ s = wv B64 q * (wv B64 b * 2 ^ s) + wv B64 w := by rw [c7, Int.mul_comm (wv B64 b * 2 ^ s)]; omega
        -- the same without the shift
        have hwm : wv B64 w = (wv B64 a - wv B64 q * wv B64 b) * 2 ^ s := by grind
        have hwd : wv B64 w / 2 ^ s = wv B64 a - wv B64 q * wv B64 b := by rw [hwm, Int.mul_ediv_cancel _ (by omega)]
        have hr0 : 0 ≤ wv B64 w / 2 ^ s := Int.ediv_nonneg c5 (by omega)
        have hr1 : wv B64 w / 2 ^ s < wv B64 b := by rw [Int.ediv_lt_iff_lt_mul hp]; exact c6
        have hu := div_uniq (a := wv B64 a) (y := wv B64 b) (q := wv B64 q) (r := wv B64 w / 2 ^ s) (by omega) hr0 hr1
        refine div_back s hs b.length (by omega) q (by omega) (wv B64 w) _ (fun w' d1 d2 d3 => ?_) b.length 0 w (by omega) (by omega) c2 ?_ (by simp [wv])
        · obtain ⟨t', k1, k2, k3, k4⟩ := trim_ok q (by omega)
          obtain ⟨t'', m1, m2, m3, m4⟩ := trim_ok (w'.take b.length) (by rw [List.length_take]; omega)
          refine Res2.succ (g := fun k m => (exact_trim k q).bind fun t12 => (exact_trim k (w'.take b.length)).bind fun t13 => some (List.take t12 (List.drop 0 q), List.take t13 (List.drop 0 w'))) (fun k m => ?_)
            (Res2.call (R := fun x => t' = x) (g := fun k m t12 => (exact_trim k (w'.take b.length)).bind fun t13 => some (List.take t12 (List.drop 0 q), List.take t13 (List.drop 0 w'))) ⟨_, k2, rfl⟩ ?_)
          · simp only [exact_divide.l2, exact_divide.b2, Int.toNat_natCast, Nat.sub_zero, List.drop_zero]
            rw [bn (by omega)]
            congr 1
            funext t12
            rw [if_pos (by omega)]
          · rintro _ rfl
            refine Res2.call (R := fun x => t'' = x) (g := fun k m t13 => some (List.take t' (List.drop 0 q), List.take t13 (List.drop 0 w'))) ⟨_, m2, rfl⟩ ?_
            rintro _ rfl
            rw [List.length_take] at m1
            have htt : (w'.take b.length).take t'' = w'.take t'' := by rw [List.take_take, Nat.min_eq_left (by omega)]
            rw [htt] at m3 m4
            refine Res2.pure ⟨c4.take t', d2.take t'', k3, m3, ?_, ?_, ?_, ?_⟩
            · show wv B64 (q.take t') = _
              rw [k4, hu.1]
            · show wv B64 (w'.take t'') = _
              rw [m4, d3, hu.2]
            · show (q.take t').length ≤ _
              rw [List.length_take]; omega
            · show (w'.take t'').length ≤ _
              rw [List.length_take]; omega
        · -- above it nothing is left
          have hs1 := wv_split (B := B64) b.length (l := w) (by omega)
          have hs2 := wv_nonneg (by decide) (c2.take b.length)
          have hs3 := wv_nonneg (by decide) (c2.drop b.length)
          have hPb : (0 : Int) < B64 ^ b.length := Int.pow_pos (by decide)
          rcases Int.lt_or_le 0 (wv B64 (w.drop b.length)) with h2 | h2
          · have := Int.mul_le_mul_of_nonneg_left (show 1 ≤ wv B64 (w.drop b.length) by omega) (show 0 ≤ B64 ^ b.length by omega)
            omega
          · omega) (a.length - b.length + 1) t9 (List.replicate (a.length - b.length + 1) 0) (by omega) u1 u2 (by simp; omega) (Lim_.rep (by decide) _) (by rw [List.take_replicate, wv_rep]) htopl (by rw [wv_rep, u3]; simp)
      refine Res.of_eq hfin.diag (fun k => ?_)
      rw [e3, e4, if_pos (by omega), if_pos (by omega), Int.toNat_natCast, show (((a.length - b.length + 1 : Nat) : Int) - 1) = ((a.length - b.length : Nat) : Int) by omega]

/-! ### The greatest common divisor -/
theorem gcd_loop : ∀ (m : Nat) (x y : List Int), wv B64 y < m → x.length ≤ 17592186044415 → y.length ≤ 17592186044415 → Lim_ B64 x → Lim_ B64 y → Can x → Can y →
    Res2 (fun k n => exact_NatGcd.l0 k n x y) fun c => Nat_ c ∧ nv c = Int.gcd (wv B64 x) (wv B64 y)
  | 0, x, y, hm, _, _, _, hy, _, _ => by have := wv_nonneg (by decide) hy; omega
  | m + 1, x, y, hm, hlx, hly, hx, hy, hcx, hcy => by
    rcases can_wv hy hcy with h0 | h0
    · subst h0
      refine Res2.succ (g := fun k n => (exact_pack k x).bind fun t5 => some t5) (fun k n => ?_) (Res2.call (g := fun k n t5 => some t5) (pack_ok x hx (by omega)) ?_)
      · simp only [exact_NatGcd.l0, exact_NatGcd.b0]
        rw [bn (by simp)]
      · rintro c ⟨c1, c2, c3⟩
        refine Res2.pure ⟨c1, ?_⟩
        have := wv_nonneg (by decide) hx
        rw [nv, c2]
        simp only [wv, Int.gcd_zero_right]
        omega
    · have hne : y ≠ [] := fun e => by rw [e] at h0; simp [wv] at h0
      have hlen : 0 < y.length := List.length_pos_iff.2 hne
      refine Res2.succ (g := fun k n => (exact_divide k x y).bind fun pt3 => exact_NatGcd.l0 k n y pt3.2) (fun k n => ?_) (Res2.call (g := fun k n pt3 => exact_NatGcd.l0 k n y pt3.2) (divide_ok x y hlx hly hx hy hcx hcy hne) ?_)
      · simp only [exact_NatGcd.l0, exact_NatGcd.b0]
        rw [bp (by omega)]
      · rintro ⟨q, r⟩ ⟨d1, d2, d3, d4, d5, d6, d7, d8⟩
        simp only at d1 d2 d3 d4 d5 d6 d7 d8
        have hm1 := Int.emod_lt_of_pos (wv B64 x) h0
        refine (gcd_loop m y r (by omega) hly (by omega) hy d2 hcy d4).mono fun c hc => ⟨hc.1, ?_⟩
        have hdm := Int.emod_add_mul_ediv (wv B64 x) (wv B64 y)
        rw [hc.2, d6, Int.gcd_comm (wv B64 x), ← Int.gcd_add_mul_right_right (wv B64 y) (wv B64 x % wv B64 y) (wv B64 x / wv B64 y), Int.mul_comm (wv B64 x / wv B64 y), hdm]

theorem natGcd_ok (a b : ByteArray) (hla : a.size ≤ 1099511627776) (hlb : b.size ≤ 1099511627776) : Res (fun k => exact_NatGcd k a b) fun c => Nat_ c ∧ nv c = Int.gcd (nv a) (nv b) := by
  obtain ⟨x, h1, h2, h3, h4, h5⟩ := words_ok a (by omega)
  obtain ⟨y, g1, g2, g3, g4, g5⟩ := words_ok b (by omega)
  unfold exact_NatGcd
  refine Res.bind (R := fun t => x = t) (f := fun k => exact_words k a) (g := fun k t1 => (exact_words k b).bind fun t2 => exact_NatGcd.l0 k k t1 t2) ⟨x, h1, rfl⟩ ?_
  rintro x rfl
  refine Res.bind (R := fun t => y = t) ⟨y, g1, rfl⟩ ?_
  rintro y rfl
  have := (gcd_loop ((wv B64 y).toNat + 1) x y (by omega) (by omega) (by omega) h2 g2 h3 g3).diag
  rw [h4, g4] at this
  exact this

theorem natDivMod_ok (a b : ByteArray) (hla : a.size ≤ 1099511627776) (hlb : b.size ≤ 1099511627776) (hb : nv b ≠ 0) : Res (fun k => exact_NatDivMod k a b) fun c => Nat_ c.1 ∧ Nat_ c.2 ∧ nv c.1 = nv a / nv b ∧ nv c.2 = nv a % nv b := by
  obtain ⟨x, h1, h2, h3, h4, h5⟩ := words_ok a (by omega)
  obtain ⟨y, g1, g2, g3, g4, g5⟩ := words_ok b (by omega)
  have hne : y ≠ [] := fun e => by rw [e] at g4; simp only [wv] at g4; exact hb g4.symm
  unfold exact_NatDivMod
  refine Res.bind (R := fun t => x = t) ⟨x, h1, rfl⟩ ?_
  rintro x rfl
  refine Res.bind (R := fun t => y = t) ⟨y, g1, rfl⟩ ?_
  rintro y rfl
  refine Res.bind (divide_ok x y (by omega) (by omega) h2 g2 h3 g3 hne) ?_
  rintro ⟨q, r⟩ ⟨d1, d2, d3, d4, d5, d6, d7, d8⟩
  simp only at d1 d2 d3 d4 d5 d6 d7 d8
  refine Res.bind (pack_ok q d1 (by omega)) ?_
  rintro c ⟨c1, c2, c3⟩
  refine Res.bind (pack_ok r d2 (by omega)) ?_
  rintro e ⟨e1, e2, e3⟩
  exact Res.pure ⟨c1, e1, by rw [nv, c2, d5, h4, g4]; rfl, by rw [nv, e2, d6, h4, g4]; rfl⟩
end Go.Proofs.YthghchjbomlpfaaGreat.Ev

/- The reference: limbs of 32 bits. -/
namespace Go.Proofs.YthghchjbomlpfaaGreat.Ev
set_option linter.unusedVariables false

abbrev B32 : Int := 4294967296
theorem p32 : (4294967296 : Int) = 256 ^ 4 := by decide

theorem rtrim_loop (l : List Int) (hl : l.length < 4611686018427387904) : ∀ i : Nat, i ≤ l.length → ∃ m, m ≤ i ∧ Evt (fun n => galoisref01_trim.l0 n i l) m ∧ Can (l.take m) ∧ ∀ B, wv B (l.take m) = wv B (l.take i)
  | 0, _ => ⟨0, Nat.le_refl _, Evt.succ (g := fun _ => some 0) (fun n => by simp [galoisref01_trim.l0, galoisref01_trim.b0]) Evt.pure, by simpa using can_nil, fun _ => rfl⟩
  | i + 1, hi => by
    have e : IntKind.wrap .i64 (((i + 1 : Nat) : Int) - 1) = (i : Int) := by rw [wi _ (by omega) (by omega)]; omega
    by_cases hz : l.getD i 0 = 0
    · obtain ⟨m, h1, h2, h3, h4⟩ := rtrim_loop l hl i (by omega)
      refine ⟨m, by omega, Evt.succ (fun n => ?_) h2, h3, fun B => ?_⟩
      · simp only [galoisref01_trim.l0, galoisref01_trim.b0, e, Int.toNat_natCast, Nat.zero_add, Nat.sub_zero]
        rw [bp (by omega), if_pos (by omega), bp hz, if_pos (by omega)]
      · rw [h4, wv_take_succ i (by omega), hz]; simp
    · refine ⟨i + 1, Nat.le_refl _, Evt.succ (g := fun _ => some (i + 1)) (fun n => ?_) Evt.pure, can_take (by omega) hz, fun _ => rfl⟩
      simp only [galoisref01_trim.l0, galoisref01_trim.b0, e, Int.toNat_natCast, Nat.zero_add]
      rw [bp (by omega), if_pos (by omega), bn hz]

theorem rtrim_ok (l : List Int) (hl : l.length < 4611686018427387904) : ∃ m, m ≤ l.length ∧ Evt (fun k => galoisref01_trim k l) m ∧ Can (l.take m) ∧ ∀ B, wv B (l.take m) = wv B l := by
  obtain ⟨m, h1, h2, h3, h4⟩ := rtrim_loop l hl l.length (Nat.le_refl _)
  refine ⟨m, h1, h2, h3, fun B => ?_⟩
  rw [h4, List.take_of_length_le (Nat.le_refl _)]

/-! ### limbs -/
theorem limb_in (b : ByteArray) (hs : b.size ≤ 1099511627776) (o : List Int) (ho : o.length ≤ 1099511627776) (st en : Nat) (hse : st ≤ en) (hen : en ≤ b.size) (h4 : en ≤ st + 4) (Q : List Int → Prop)
    (hn : ∀ x : Int, 0 ≤ x → x < 256 ^ (en - st) → x + bz (b.data.toList.take st) * 256 ^ (en - st) = bz (b.data.toList.take en) → Res2 (fun k n => galoisref01_limbs.l0 k n b ((en : Int) - 4) (o ++ [x])) Q) :
    ∀ (d i : Nat) (x : Int), i + d = en → st ≤ i → 0 ≤ x → x < 256 ^ (i - st) → x + bz (b.data.toList.take st) * 256 ^ (i - st) = bz (b.data.toList.take i) → Res2 (fun k n => galoisref01_limbs.l1 k n b en x i o) Q
  | 0, i, x, hd, hi, h0, h1, hv => by
    obtain rfl : i = en := by omega
    have e1 : IntKind.wrap .i64 ((i : Int) - 4) = (i : Int) - 4 := by rw [wi _ (by omega) (by omega)]
    refine Res2.succ (fun k n => ?_) (hn x h0 h1 hv)
    simp only [galoisref01_limbs.l1, galoisref01_limbs.b1, e1]
    rw [bn (by omega), if_pos (by simp; omega)]
  | d + 1, i, x, hd, hi, h0, h1, hv => by
    have e1 : IntKind.wrap .i64 ((i : Int) + 1) = ((i + 1 : Nat) : Int) := by rw [wi _ (by omega) (by omega)]; omega
    have hx := u8_lt (b.data.toList.getD i 0)
    have hbl : b.data.toList.length = b.size := by simp
    have hxs : x < 16777216 := by
      have h5 : (256 : Int) ^ (i - st) ≤ 16777216 := by
        have : i - st = 0 ∨ i - st = 1 ∨ i - st = 2 ∨ i - st = 3 := by omega
        rcases this with h | h | h | h <;> rw [h] <;> decide
      omega
    have e2 : IntKind.wrap .u64 (IntKind.wrap .u64 (x * 256) + IntKind.wrap .u64 (((b.data.toList.getD i 0).toNat : Nat) : Int)) = x * 256 + ((b.data.toList.getD i 0).toNat : Int) := by
      rw [wu, wu, wu]; omega
    have e3 : i + 1 - st = i - st + 1 := by omega
    refine Res2.succ (fun k n => ?_) (limb_in b hs o ho st en hse hen h4 Q hn d (i + 1) (x * 256 + ((b.data.toList.getD i 0).toNat : Int)) (by omega) (by omega) (by omega) ?_ ?_)
    · simp only [galoisref01_limbs.l1, galoisref01_limbs.b1, e1, Int.toNat_natCast, e2]
      rw [bp (by omega), if_pos (by omega)]
    · rw [e3, Int.pow_succ]; omega
    · rw [e3, Int.pow_succ, bz_take _ _ (by omega), ← hv]; grind

theorem limbs_loop (b : ByteArray) (hs : b.size ≤ 1099511627776) : ∀ (m : Nat) (en : Int) (o : List Int), en ≤ m → en ≤ b.size → -3 ≤ en → 4 * (o.length : Int) + en ≤ b.size + 4 → Lim_ B32 o → wv B32 o + B32 ^ o.length * bz (b.data.toList.take en.toNat) = bz b.data.toList →
    Res2 (fun k n => galoisref01_limbs.l0 k n b en o) fun l => Lim_ B32 l ∧ Can l ∧ wv B32 l = bz b.data.toList ∧ 4 * l.length ≤ b.size + 7
  | 0, en, o, hm, hb, h4, hl, hL, hv => by
    obtain ⟨t, h1, h2, h3, h5⟩ := rtrim_ok o (by omega)
    have e0 : en.toNat = 0 := by omega
    rw [e0, List.take_zero, bz_nil, Int.mul_zero, Int.add_zero] at hv
    refine Res2.succ (g := fun k n => (galoisref01_trim k o).bind fun t1 => some (List.take t1 (List.drop 0 o))) (fun k n => ?_) (Res2.call (R := fun x => t = x) (g := fun k n t1 => some (List.take t1 (List.drop 0 o))) ⟨_, h2, rfl⟩ ?_)
    · simp only [galoisref01_limbs.l0, galoisref01_limbs.b0]
      rw [bn (by omega)]
    · rintro _ rfl
      refine Res2.pure ⟨hL.take t, h3, ?_, ?_⟩
      · rw [List.drop_zero, h5, hv]
      · rw [List.length_take]; simp; omega
  | m + 1, en, o, hm, hb, h4, hl, hL, hv => by
    by_cases h0 : 0 < en
    · obtain ⟨e, rfl⟩ := Int.eq_ofNat_of_zero_le (show 0 ≤ en by omega)
      rw [Int.toNat_natCast] at hv
      have e1 : IntKind.wrap .i64 ((e : Int) - 4) = (e : Int) - 4 := by rw [wi _ (by omega) (by omega)]
      have e2 : (if (e : Int) - 4 > 0 then (e : Int) - 4 else 0) = ((e - 4 : Nat) : Int) := by split <;> omega
      have hP : (0 : Int) < B32 ^ o.length := Int.pow_pos (by decide)
      refine Res2.succ (fun k n => ?_) (limb_in b hs o (by omega) (e - 4) e (by omega) (by omega) (by omega) _ (fun x x0 x1 x2 => ?_) (e - (e - 4)) (e - 4) 0 (by omega) (by omega) (by omega) (by simp) (by simp))
      · simp only [galoisref01_limbs.l0, galoisref01_limbs.b0, e1, e2]
        rw [bp (by omega)]
      · have hx : x < B32 := by
          have h5 : (256 : Int) ^ (e - (e - 4)) ≤ 4294967296 := by
            have : e - (e - 4) = 1 ∨ e - (e - 4) = 2 ∨ e - (e - 4) = 3 ∨ e - (e - 4) = 4 := by omega
            rcases this with h | h | h | h <;> rw [h] <;> decide
          simp only [B32]; omega
        refine limbs_loop b hs m ((e : Int) - 4) (o ++ [x]) (by omega) (by omega) (by omega) (by simp; omega) (hL.append (Lim_.cons ⟨x0, hx⟩ (fun _ h => by simp at h))) ?_
        rw [wv_append, List.length_append, List.length_singleton, Int.pow_succ, ← hv, ← x2]
        have : ((e : Int) - 4).toNat = e - 4 := by omega
        rw [this]
        simp only [wv]
        rcases Nat.lt_or_ge e 4 with h6 | h6
        · have e0 : e - 4 = 0 := by omega
          rw [e0]; simp [bz_nil]
        · have e4 : e - (e - 4) = 4 := by omega
          rw [e4]
          simp only [B32]
          grind
    · exact limbs_loop b hs m en o (by omega) hb h4 hl hL hv

theorem limbs_ok (b : ByteArray) (hs : b.size ≤ 1099511627776) : Res (fun k => galoisref01_limbs k b) fun l => Lim_ B32 l ∧ Can l ∧ wv B32 l = bz b.data.toList ∧ 4 * l.length ≤ b.size + 7 := by
  refine Res.of_eq (limbs_loop b hs b.size b.size [] (by omega) (by omega) (by omega) (by simp; omega) (fun _ h => by simp at h) ?_).diag (fun k => rfl)
  rw [Int.toNat_natCast, List.take_of_length_le (by simp)]
  simp [wv]

/-! ### pack -/
theorem rpack_limb (l : List Int) (hl : l.length ≤ 17592186044416) (i : Nat) (hi : i < l.length) (hx : 0 ≤ l.getD i 0 ∧ l.getD i 0 < B32) (V : Int) (Q : ByteArray → Prop)
    (hn : ∀ o : List Int, Lim_ 256 o → o.head? ≠ some 0 → o.length ≤ 4 * (l.length - i) → wv 256 o.reverse = V * 256 ^ 4 + l.getD i 0 → Res (fun n => galoisref01_pack.l0 n ((i : Int) - 1) l o) Q) :
    ∀ (t : Nat) (o : List Int), t ≤ 4 → Lim_ 256 o → o.head? ≠ some 0 → o.length ≤ 4 * (l.length - i) - t → wv 256 o.reverse = V * 256 ^ (4 - t) + l.getD i 0 / 256 ^ t → Res (fun n => galoisref01_pack.l1 n i (8 * (t : Int) - 8) l o) Q
  | 0, o, ht, hL, hh, hol, hv => by
    have e1 : IntKind.wrap .i64 ((i : Int) - 1) = (i : Int) - 1 := by rw [wi _ (by omega) (by omega)]
    refine Res.succ (fun n => ?_) (hn o hL hh (by omega) (by simpa using hv))
    simp only [galoisref01_pack.l1, galoisref01_pack.b1, e1]
    rw [bn (by omega)]
  | t + 1, o, ht, hL, hh, hol, hv => by
    have e1 : IntKind.wrap .i64 (8 * ((t + 1 : Nat) : Int) - 8 - 8) = 8 * (t : Int) - 8 := by rw [wi _ (by omega) (by omega)]; omega
    have e0 : 8 * ((t + 1 : Nat) : Int) - 8 = ((8 * t : Nat) : Int) := by omega
    have m1 : min (8 * t) 64 = 8 * t := by omega
    have e2 : IntKind.wrap .u8 (Int.fdiv (l.getD i 0) (2 ^ (8 * t))) = l.getD i 0 / 256 ^ t % 256 := by rw [p2, wb, fd _ _ (Int.pow_nonneg (by omega))]
    have b0 := Int.emod_nonneg (l.getD i 0 / 256 ^ t) (show (256 : Int) ≠ 0 by omega)
    have b1 := Int.emod_lt_of_pos (l.getD i 0 / 256 ^ t) (show (0 : Int) < 256 by omega)
    have hval : wv 256 o.reverse * 256 + l.getD i 0 / 256 ^ t % 256 = V * 256 ^ (4 - t) + l.getD i 0 / 256 ^ t := by
      have h1 : 4 - t = 4 - (t + 1) + 1 := by omega
      have h2 : l.getD i 0 / 256 ^ (t + 1) = l.getD i 0 / 256 ^ t / 256 := by
        rw [Int.pow_succ, Int.ediv_ediv_of_nonneg (Int.pow_nonneg (by omega))]
      have h3 := Int.emod_add_mul_ediv (l.getD i 0 / 256 ^ t) 256
      rw [hv, h1, h2, Int.pow_succ]
      grind
    have hgo : ∀ c : Int, 0 ≤ c → c < 256 → c = l.getD i 0 / 256 ^ t % 256 → (o ≠ [] ∨ 0 < c) → Res (fun n => galoisref01_pack.l1 n i (8 * (t : Int) - 8) l (o ++ [c])) Q := by
      intro c c0 c1 hc hne
      refine rpack_limb l hl i hi hx V Q hn t (o ++ [c]) (by omega) (hL.append (Lim_.cons ⟨c0, c1⟩ (fun _ h => by simp at h))) ?_ (by simp; omega) ?_
      · cases o with
        | nil =>
          rcases hne with h | h
          · simp at h
          · simp; omega
        | cons z o => simpa using hh
      · rw [List.reverse_append]
        simp only [List.reverse_cons, List.reverse_nil, List.nil_append, List.singleton_append, wv]
        rw [hc]; omega
    by_cases ho : o = []
    · subst ho
      by_cases hc : 0 < l.getD i 0 / 256 ^ t % 256
      · refine Res.succ (fun n => ?_) (hgo _ b0 b1 rfl (.inr hc))
        simp only [galoisref01_pack.l1, galoisref01_pack.b1, e1]
        simp only [e0, Int.toNat_natCast, m1, e2]
        rw [bp (by omega), if_pos (by omega), if_neg (by omega), bn (by simp), bp hc, if_pos (by simp)]
      · have hz : l.getD i 0 / 256 ^ t % 256 = 0 := by omega
        refine Res.succ (fun n => ?_) (rpack_limb l hl i hi hx V Q hn t [] (by omega) hL hh (by omega) ?_)
        · simp only [galoisref01_pack.l1, galoisref01_pack.b1, e1]
          simp only [e0, Int.toNat_natCast, m1, e2]
          rw [bp (by omega), if_pos (by omega), if_neg (by omega), bn (by simp), bn hc]
        · rw [hz] at hval
          simp only [List.reverse_nil, wv] at hval ⊢
          omega
    · have hpos : 0 < o.length := List.length_pos_iff.2 ho
      refine Res.succ (fun n => ?_) (hgo _ b0 b1 rfl (.inl ho))
      simp only [galoisref01_pack.l1, galoisref01_pack.b1, e1]
      simp only [e0, Int.toNat_natCast, m1, e2]
      rw [bp (by omega), if_pos (by omega), if_neg (by omega), bp (by omega), if_pos (by simp; omega)]

theorem rpack_loop (l : List Int) (hl : l.length ≤ 17592186044416) (hL0 : Lim_ B32 l) : ∀ (i : Nat) (o : List Int), i ≤ l.length → Lim_ 256 o → o.head? ≠ some 0 → o.length ≤ 4 * (l.length - i) → wv 256 o.reverse = wv B32 (l.drop i) →
    Res (fun n => galoisref01_pack.l0 n ((i : Int) - 1) l o) fun b => Nat_ b ∧ nv b = wv B32 l ∧ b.size ≤ 4 * l.length
  | 0, o, hi, hL, hh, hol, hv => by
    refine Res.succ (g := fun _ => some (strOf o)) (fun n => ?_) (Res.pure ⟨?_, ?_, ?_⟩)
    · simp only [galoisref01_pack.l0, galoisref01_pack.b0]
      rw [bn (by omega)]
    · cases o with
      | nil => simp [Nat_, Nrm, strOf]
      | cons z o =>
        have hz := hL z (by simp)
        have hz0 : z ≠ 0 := fun e => by subst e; simp at hh
        have h3 : (UInt8.ofNat z.toNat).toNat = z.toNat := by rw [UInt8.toNat_ofNat']; omega
        intro h
        have h4 : UInt8.ofNat z.toNat = 0 := by simpa [strOf] using h
        rw [h4] at h3
        have : (0 : UInt8).toNat = 0 := rfl
        omega
    · rw [nv, bz_strOf o hL, hv]; simp
    · have : (strOf o).size = o.length := by simp [strOf, ByteArray.size]
      rw [this]; omega
  | i + 1, o, hi, hL, hh, hol, hv => by
    have hg := hL0.get i (by omega)
    have e0 : ((i + 1 : Nat) : Int) - 1 = (i : Int) := by omega
    refine Res.succ (fun n => ?_) (rpack_limb l hl i (by omega) hg (wv B32 (l.drop (i + 1))) _ (fun o' a1 a2 a3 a4 => ?_) 4 o (by omega) hL hh (by omega) ?_)
    · simp only [galoisref01_pack.l0, galoisref01_pack.b0, e0]
      rw [bp (by omega)]
      rfl
    · refine rpack_loop l hl hL0 i o' (by omega) a1 a2 a3 ?_
      rw [a4, wv_drop i (by omega), ← p32]
      simp only [B32]; omega
    · rw [hv, show 4 - 4 = 0 from rfl, ← p32, Int.ediv_eq_zero_of_lt hg.1 hg.2]; simp

theorem rpack_ok (l : List Int) (hl : l.length ≤ 17592186044416) (hL : Lim_ B32 l) : Res (fun k => galoisref01_pack k l) fun b => Nat_ b ∧ nv b = wv B32 l ∧ b.size ≤ 4 * l.length := by
  have e1 : IntKind.wrap .i64 ((l.length : Int) - 1) = (l.length : Int) - 1 := by rw [wi _ (by omega) (by omega)]
  refine Res.of_eq (rpack_loop l hl hL l.length [] (Nat.le_refl _) (fun _ h => by simp at h) (by simp) (by simp) (by simp [wv])) (fun k => ?_)
  simp only [galoisref01_pack, galoisref01_pack.top, e1]
end Go.Proofs.YthghchjbomlpfaaGreat.Ev

/- The reference: comparison, products, division. -/
namespace Go.Proofs.YthghchjbomlpfaaGreat.Ev
set_option linter.unusedVariables false

section
variable {B : Int}
theorem rbelow_loop (x y : List Int) (t : Nat) (htx : t ≤ x.length) (hty : t = y.length) (hs : t < 4611686018427387904) (hB : 0 < B) (hx : Lim_ B x) (hy : Lim_ B y) : ∀ i : Nat, i ≤ t →
    Evt2 (fun k n => galoisref01_below.l0 k n t ((i : Int) - 1) x y) (decide (wv B (x.take i) < wv B (y.take i)))
  | 0, _ => Evt2.succ (g := fun _ _ => some false) (fun k n => by simp [galoisref01_below.l0, galoisref01_below.b0]) (by simpa [wv] using Evt2.pure)
  | i + 1, hi => by
    have e0 : ((i + 1 : Nat) : Int) - 1 = (i : Int) := by omega
    have e : IntKind.wrap .i64 ((i : Int) - 1) = (i : Int) - 1 := wi _ (by omega) (by omega)
    rw [wv_take_succ i (by omega), wv_take_succ i (by omega)]
    have h1 := wv_lt hB (hx.take i)
    have h2 := wv_lt hB (hy.take i)
    have h3 := wv_nonneg (by omega) (hx.take i)
    have h4 := wv_nonneg (by omega) (hy.take i)
    rw [List.length_take, Nat.min_eq_left (by omega)] at h1 h2
    have hP : 0 < B ^ i := Int.pow_pos hB
    by_cases hz : x.getD i 0 = y.getD i 0
    · have := rbelow_loop x y t htx hty hs hB hx hy i (by omega)
      have ec : decide (wv B (x.take i) + B ^ i * x.getD i 0 < wv B (y.take i) + B ^ i * y.getD i 0) = decide (wv B (x.take i) < wv B (y.take i)) := by
        rw [hz]; exact decide_eq_decide.2 (by omega)
      rw [ec]
      refine Evt2.succ (fun k n => ?_) this
      simp only [galoisref01_below.l0, galoisref01_below.b0, e0, e, Int.toNat_natCast, Nat.zero_add]
      rw [bp (by omega), if_pos (by omega), if_pos (by omega), bnp hz]
    · have ec : decide (wv B (x.take i) + B ^ i * x.getD i 0 < wv B (y.take i) + B ^ i * y.getD i 0) = decide (x.getD i 0 < y.getD i 0) := by
        refine decide_eq_decide.2 ⟨fun h => ?_, fun h => ?_⟩
        · rcases Int.lt_or_le (x.getD i 0) (y.getD i 0) with h5 | h5
          · exact h5
          · have hm := Int.mul_le_mul_of_nonneg_left (show y.getD i 0 + 1 ≤ x.getD i 0 by omega) (show 0 ≤ B ^ i by omega)
            rw [Int.mul_add, Int.mul_one] at hm
            omega
        · have hm := Int.mul_le_mul_of_nonneg_left (show x.getD i 0 + 1 ≤ y.getD i 0 by omega) (show 0 ≤ B ^ i by omega)
          rw [Int.mul_add, Int.mul_one] at hm
          omega
      rw [ec]
      refine Evt2.succ (fun k n => ?_) Evt2.pure
      simp only [galoisref01_below.l0, galoisref01_below.b0, e0, e, Int.toNat_natCast, Nat.zero_add]
      rw [bp (by omega), if_pos (by omega), if_pos (by omega), bnn hz, if_pos (by omega), if_pos (by omega)]

theorem can_len_lt (hB : 0 < B) {x y : List Int} (hx : Lim_ B x) (hy : Lim_ B y) (hc : Can y) (h : x.length < y.length) : wv B x < wv B y := by
  have h1 := wv_lt hB hx
  have h2 := can_lower hB hy hc (fun e => by rw [e] at h; simp at h)
  have h3 : B ^ x.length ≤ B ^ (y.length - 1) := by
    obtain ⟨d, hd⟩ : ∃ d, y.length - 1 = x.length + d := ⟨y.length - 1 - x.length, by omega⟩
    rw [hd, Int.pow_add]
    have h5 : 0 < B ^ d := Int.pow_pos hB
    have h4 : 0 < B ^ x.length := Int.pow_pos hB
    have := Int.mul_le_mul_of_nonneg_left (show (1 : Int) ≤ B ^ d by omega) (show 0 ≤ B ^ x.length by omega)
    omega
  omega

theorem rbelow_ok (x y : List Int) (hsx : x.length < 4611686018427387904) (hsy : y.length < 4611686018427387904) (hB : 0 < B) (hx : Lim_ B x) (hy : Lim_ B y) (hcy : Can y) : Evt (fun k => galoisref01_below k x y) (decide (wv B x < wv B y)) := by
  obtain ⟨t, h1, h2, h3, h4⟩ := rtrim_ok x hsx
  have h5 := h4 B
  refine Evt.of_eq (g := fun k => (galoisref01_trim k x).bind fun (t1 : Nat) => bif !decide ((t1 : Int) = (y.length : Int)) then (some (decide ((t1 : Int) < (y.length : Int)))) else (galoisref01_below.l0 k k t1 (IntKind.wrap .i64 ((t1 : Int) - 1)) x y)) (Evt.bind (g := fun k (t1 : Nat) => bif !decide ((t1 : Int) = (y.length : Int)) then (some (decide ((t1 : Int) < (y.length : Int)))) else (galoisref01_below.l0 k k t1 (IntKind.wrap .i64 ((t1 : Int) - 1)) x y)) h2 ?_) (fun k => rfl)
  have htl : (x.take t).length = t := by rw [List.length_take]; omega
  by_cases hl : t = y.length
  · have := (rbelow_loop x y t h1 hl (by omega) hB hx hy t (Nat.le_refl _)).diag
    rw [h5, List.take_of_length_le (by omega : y.length ≤ t)] at this
    refine Evt.of_eq this fun k => ?_
    rw [bnp (by omega), wi _ (by omega) (by omega)]
  · refine Evt.of_eq (g := fun _ => some (decide (wv B x < wv B y))) Evt.pure fun k => ?_
    rw [bnn (by omega)]
    congr 1
    refine decide_eq_decide.2 ⟨fun h => ?_, fun h => ?_⟩
    · rw [← h5]; exact can_len_lt hB (hx.take t) hy hcy (by omega)
    · rcases Nat.lt_or_gt_of_ne hl with h6 | h6
      · omega
      · have := can_len_lt hB hy (hx.take t) h3 (by omega)
        omega
end

/-! ### Products -/
theorem rmul_in (a b : List Int) (hla : a.length ≤ 17592186044416) (hlb : b.length ≤ 17592186044416) (ha : Lim_ B32 a) (hb : Lim_ B32 b) (i : Nat) (hi : i < a.length) (v : Int) (Q : ByteArray → Prop)
    (hn : ∀ o : List Int, o.length = a.length + b.length → Lim_ B32 o → wv B32 o = v + a.getD i 0 * wv B32 b * B32 ^ i → Res2 (fun k n => galoisref01_Mul.l0 k n ((i + 1 : Nat) : Int) a b o) Q) :
    ∀ (d j : Nat) (o : List Int) (c : Int), j + d = b.length → o.length = a.length + b.length → Lim_ B32 o → (0 ≤ c ∧ c < B32) → o.getD (i + b.length) 0 = 0 → wv B32 o + c * B32 ^ (i + j) = v + a.getD i 0 * wv B32 (b.take j) * B32 ^ i →
      Res2 (fun k n => galoisref01_Mul.l1 k n i c j a b o) Q
  | 0, j, o, c, hd, hl, hL, hc, hz, hv => by
    obtain rfl : j = b.length := by omega
    have e1 : IntKind.wrap .i64 ((i : Int) + (b.length : Int)) = ((i + b.length : Nat) : Int) := by rw [wi _ (by omega) (by omega)]; omega
    have e2 : IntKind.wrap .i64 ((i : Int) + 1) = ((i + 1 : Nat) : Int) := by rw [wi _ (by omega) (by omega)]; omega
    refine Res2.succ (fun k n => ?_) (hn (o.set (i + b.length) c) (by simpa using hl) (hL.set _ hc) ?_)
    · simp only [galoisref01_Mul.l1, galoisref01_Mul.b1, e1, e2, Int.toNat_natCast]
      rw [bn (by omega), if_pos (by omega)]
    · rw [wv_set (by omega), hz, Int.sub_zero, hv, List.take_of_length_le (Nat.le_refl _)]
  | d + 1, j, o, c, hd, hl, hL, hc, hz, hv => by
    have e1 : IntKind.wrap .i64 ((i : Int) + (j : Int)) = ((i + j : Nat) : Int) := by rw [wi _ (by omega) (by omega)]; omega
    have e2 : IntKind.wrap .i64 ((j : Int) + 1) = ((j + 1 : Nat) : Int) := by rw [wi _ (by omega) (by omega)]; omega
    have hai := ha.get i hi
    have hbj := hb.get j (by omega)
    have hoj := hL.get (i + j) (by omega)
    have h2 := Int.mul_nonneg hai.1 hbj.1
    have h1 : a.getD i 0 * b.getD j 0 ≤ (B32 - 1) * (B32 - 1) := Int.mul_le_mul (by omega) (by omega) hbj.1 (by decide)
    have es : IntKind.wrap .u64 (IntKind.wrap .u64 (o.getD (i + j) 0 + IntKind.wrap .u64 (a.getD i 0 * b.getD j 0)) + c) = o.getD (i + j) 0 + a.getD i 0 * b.getD j 0 + c := by
      generalize a.getD i 0 * b.getD j 0 = p at *
      simp only [B32] at *
      rw [ule (x := p) (by omega) (by omega), ule (x := o.getD (i + j) 0 + p) (by omega) (by omega), ule (by omega) (by omega)]
    have hS0 : 0 ≤ o.getD (i + j) 0 + a.getD i 0 * b.getD j 0 + c := by omega
    have hS1 : o.getD (i + j) 0 + a.getD i 0 * b.getD j 0 + c < 18446744073709551616 := by simp only [B32] at *; omega
    have hsum : o.getD (i + j) 0 + a.getD i 0 * b.getD j 0 + c = (o.getD (i + j) 0 + a.getD i 0 * b.getD j 0 + c) % 4294967296 + 4294967296 * ((o.getD (i + j) 0 + a.getD i 0 * b.getD j 0 + c) / 4294967296) := (Int.emod_add_mul_ediv _ _).symm
    have hq0 : 0 ≤ (o.getD (i + j) 0 + a.getD i 0 * b.getD j 0 + c) % 4294967296 ∧ (o.getD (i + j) 0 + a.getD i 0 * b.getD j 0 + c) % 4294967296 < B32 := by simp only [B32]; omega
    have hq1 : 0 ≤ (o.getD (i + j) 0 + a.getD i 0 * b.getD j 0 + c) / 4294967296 ∧ (o.getD (i + j) 0 + a.getD i 0 * b.getD j 0 + c) / 4294967296 < B32 := by simp only [B32]; omega
    refine Res2.succ (fun k n => ?_) (rmul_in a b hla hlb ha hb i hi v Q hn d (j + 1) (o.set (i + j) ((o.getD (i + j) 0 + a.getD i 0 * b.getD j 0 + c) % 4294967296)) ((o.getD (i + j) 0 + a.getD i 0 * b.getD j 0 + c) / 4294967296) (by omega) (by simpa using hl) (hL.set _ hq0) hq1 ?_ ?_)
    · simp only [galoisref01_Mul.l1, galoisref01_Mul.b1, e1, e2, Int.toNat_natCast, es]
      rw [bp (by omega), if_pos (by omega), if_pos (by omega), if_pos (by omega), if_pos (by omega), and32 _ hS0 hS1, fd _ _ (by omega)]
    · rw [getD_set_ne (by omega)]; exact hz
    · rw [wv_set (by omega), wv_take_succ j (by omega)]
      have e3 : B32 ^ (i + (j + 1)) = B32 ^ (i + j) * B32 := by rw [← Nat.add_assoc, Int.pow_succ]
      have e4 : B32 ^ (i + j) = B32 ^ i * B32 ^ j := Int.pow_add _ _ _
      rw [e3]
      generalize (o.getD (i + j) 0 + a.getD i 0 * b.getD j 0 + c) % 4294967296 = lo at *
      generalize (o.getD (i + j) 0 + a.getD i 0 * b.getD j 0 + c) / 4294967296 = hi' at *
      generalize o.getD (i + j) 0 = oj at *
      generalize b.getD j 0 = bj at *
      simp only [B32] at *
      grind

theorem rmul_out (a b : List Int) (hla : a.length ≤ 1099511627776) (hlb : b.length ≤ 1099511627776) (ha : Lim_ B32 a) (hb : Lim_ B32 b) : ∀ (d i : Nat) (o : List Int), i + d = a.length → o.length = a.length + b.length → Lim_ B32 o → wv B32 o = wv B32 (a.take i) * wv B32 b →
    Res2 (fun k n => galoisref01_Mul.l0 k n i a b o) fun c => Nat_ c ∧ nv c = wv B32 a * wv B32 b ∧ c.size ≤ 4 * (a.length + b.length)
  | 0, i, o, hd, hl, hL, hv => by
    obtain rfl : i = a.length := by omega
    refine Res2.succ (g := fun k n => (galoisref01_pack k o).bind fun t3 => some t3) (fun k n => ?_) (Res2.call (g := fun k n t3 => some t3) (rpack_ok o (by omega) hL) ?_)
    · simp only [galoisref01_Mul.l0, galoisref01_Mul.b0]
      rw [bn (by omega)]
    · rintro c ⟨c1, c2, c3⟩
      refine Res2.pure ⟨c1, ?_, by omega⟩
      rw [c2, hv, List.take_of_length_le (Nat.le_refl _)]
  | d + 1, i, o, hd, hl, hL, hv => by
    refine Res2.succ (fun k n => ?_) (rmul_in a b (by omega) (by omega) ha hb i (by omega) (wv B32 o) _ (fun o' a1 a2 a3 => ?_) b.length 0 o 0 (by omega) hl hL (by decide) ?_ (by simp [wv]))
    · simp only [galoisref01_Mul.l0, galoisref01_Mul.b0]
      rw [bp (by omega)]
      rfl
    · refine rmul_out a b hla hlb ha hb d (i + 1) o' (by omega) a1 a2 ?_
      rw [a3, wv_take_succ i (by omega), hv]
      grind
    · refine limb_zero (by decide) hL (p := i + b.length) ?_
      rw [hv, Int.pow_add]
      have h1 := wv_nonneg (by decide) (ha.take i)
      have h2 := wv_lt (by decide) (ha.take i)
      have h3 := wv_nonneg (by decide) hb
      have h4 := wv_lt (by decide) hb
      rw [List.length_take, Nat.min_eq_left (by omega)] at h2
      have hP : 0 < B32 ^ i := Int.pow_pos (by decide)
      calc wv B32 (a.take i) * wv B32 b ≤ B32 ^ i * wv B32 b := Int.mul_le_mul_of_nonneg_right (by omega) h3
        _ < B32 ^ i * B32 ^ b.length := Int.mul_lt_mul_of_pos_left h4 hP

theorem rmul_ok (a b : ByteArray) (hla : a.size ≤ 1099511627776) (hlb : b.size ≤ 1099511627776) : Res (fun k => galoisref01_Mul k a b) fun c => Nat_ c ∧ nv c = nv a * nv b := by
  refine Res.of_eq (g := fun k => (galoisref01_limbs k a).bind fun t1 => (galoisref01_limbs k b).bind fun t2 => if 0 ≤ (IntKind.wrap .i64 ((t1.length : Int) + (t2.length : Int))) then (if (Int.toNat (IntKind.wrap .i64 ((t1.length : Int) + (t2.length : Int)))) ≤ 281474976710656 / 8 then (galoisref01_Mul.l0 k k 0 t1 t2 (List.replicate (Int.toNat (IntKind.wrap .i64 ((t1.length : Int) + (t2.length : Int)))) 0 : List Int)) else none) else none) ?_ (fun k => rfl)
  refine Res.bind (limbs_ok a hla) ?_
  rintro x ⟨x1, x2, x3, x4⟩
  refine Res.bind (limbs_ok b hlb) ?_
  rintro y ⟨y1, y2, y3, y4⟩
  have e1 : IntKind.wrap .i64 ((x.length : Int) + (y.length : Int)) = ((x.length + y.length : Nat) : Int) := by rw [wi _ (by omega) (by omega)]; omega
  have := (rmul_out x y (by omega) (by omega) x1 y1 x.length 0 (List.replicate (x.length + y.length) 0) (by omega) (by simp) (Lim_.rep (by decide) _) (by simp [wv_rep, wv])).diag
  refine Res.of_eq (this.mono fun c hc => ⟨hc.1, by rw [hc.2.1, x3, y3]; rfl⟩) fun k => ?_
  rw [e1, Int.toNat_natCast, if_pos (by omega), if_pos (by omega)]
  rfl
end Go.Proofs.YthghchjbomlpfaaGreat.Ev

/- The reference: division, greatest common divisors. -/
namespace Go.Proofs.YthghchjbomlpfaaGreat.Ev
set_option linter.unusedVariables false

/-- What the division knows all along. -/
structure RD (y : List Int) (n : Nat) (V y1 : Int) : Prop where
  n1 : 1 ≤ n
  nl : n ≤ 1099511627776
  yl : y.length = n
  yL : Lim_ B32 y
  yC : Can y
  eV : wv B32 y = V
  ey : y.getD (n - 1) 0 = y1

section
variable {y : List Int} {n : Nat} {V y1 : Int}

theorem RD.Vlt (h : RD y n V y1) : V < (y1 + 1) * B32 ^ (n - 1) := by
  have h1 := wv_take_succ (B := B32) (l := y) (n - 1) (by have := h.yl; have := h.n1; omega)
  rw [show n - 1 + 1 = n by have := h.n1; omega, List.take_of_length_le (by rw [h.yl]; exact Nat.le_refl _), h.eV, h.ey] at h1
  have h2 := wv_lt (B := B32) (by decide) (h.yL.take (n - 1))
  rw [List.length_take, h.yl, Nat.min_eq_left (by omega)] at h2
  rw [h1, Int.add_mul, Int.one_mul, Int.mul_comm]
  omega
theorem RD.Vtop (h : RD y n V y1) : y1 * B32 ^ (n - 1) ≤ V := by
  have h1 := wv_take_succ (B := B32) (l := y) (n - 1) (by have := h.yl; have := h.n1; omega)
  rw [show n - 1 + 1 = n by have := h.n1; omega, List.take_of_length_le (by rw [h.yl]; exact Nat.le_refl _), h.eV, h.ey] at h1
  have h2 := wv_nonneg (B := B32) (by decide) (h.yL.take (n - 1))
  rw [h1, Int.mul_comm]
  omega
theorem RD.y1p (h : RD y n V y1) : 1 ≤ y1 ∧ y1 < B32 := by
  have hn := h.n1
  have hl := h.yl
  have h1 := h.yL.get (n - 1) (by omega)
  rw [h.ey] at h1
  refine ⟨?_, h1.2⟩
  obtain ⟨m, x, rfl⟩ : ∃ m x, y = m ++ [x] := ⟨y.dropLast, y.getLast (fun e => by rw [e] at hl; simp at hl; omega), (List.dropLast_concat_getLast _).symm⟩
  have h2 : x ≠ 0 := fun e => by subst e; exact h.yC (by simp)
  have h3 : (m ++ [x]).getD (n - 1) 0 = x := by
    have : n - 1 = m.length := by simp at hl; omega
    rw [this]; simp [List.getD]
  rw [← h.ey, h3] at h1 ⊢
  omega
theorem RD.V1 (h : RD y n V y1) : B32 ^ (n - 1) ≤ V := by
  have h1 := h.Vtop
  have h2 := h.y1p
  have h3 : (0 : Int) ≤ B32 ^ (n - 1) := Int.pow_nonneg (by decide)
  have := Int.mul_le_mul_of_nonneg_right h2.1 h3
  omega
theorem RD.Vpos (h : RD y n V y1) : 1 ≤ V := by
  have h1 := h.V1
  have h3 : (0 : Int) < B32 ^ (n - 1) := Int.pow_pos (by decide)
  omega

/-- A multiple is subtracted. -/
theorem rdiv_sub (h : RD y n V y1) (kx : Nat) (hk : kx ≤ 1099511627776) (g : Int) (g0 : 0 ≤ g) (g1 : g < B32) (q T0 : List Int) (N : Nat) (hN : kx + n < N) (W : Int) (hW : g * V ≤ W) (hWlt : W < B32 ^ (n + 1)) (Q : ByteArray × ByteArray → Prop)
    (hn : ∀ r : List Int, r.length = N → Lim_ B32 r → r.take kx = T0 → wv B32 (r.drop kx) = W - g * V → Res2 (fun k m => galoisref01_DivMod.l1 k m n kx y r q) Q) :
    ∀ (d i : Nat) (b : Int) (r : List Int), i + d = n → r.length = N → Lim_ B32 r → 0 ≤ b → b < B32 → r.take kx = T0 → wv B32 (r.drop kx) = W - g * wv B32 (y.take i) + b * B32 ^ i → wv B32 (r.drop (kx + (n + 1))) = 0 →
      Res2 (fun k m => galoisref01_DivMod.l2 k m n kx g b i y r q) Q
  | 0, i, b, r, hd, hr, rL, hb, hb', hT, hv, hz => by
    obtain rfl : i = n := by omega
    have hnl := h.nl
    have e1 : IntKind.wrap .i64 ((kx : Int) + (i : Int)) = ((kx + i : Nat) : Int) := by rw [wi _ (by omega) (by omega)]; omega
    rw [List.take_of_length_le (by rw [h.yl]; exact Nat.le_refl _), h.eV] at hv
    have hg := rL.get (kx + i) (by omega)
    -- the highest limb is not below what is borrowed
    have hs := wv_split (B := B32) i (l := r.drop kx) (by simp; omega)
    have ht0 := wv_nonneg (B := B32) (by decide) ((rL.drop kx).take i)
    have ht1 := wv_lt (B := B32) (by decide) ((rL.drop kx).take i)
    rw [List.length_take, List.length_drop, Nat.min_eq_left (by omega)] at ht1
    rw [wv_drop i (by simp; omega), List.drop_drop, getD_drop, hz, Int.mul_zero, Int.add_zero] at hs
    have hP : (0 : Int) < B32 ^ i := Int.pow_pos (by decide)
    have hle : b ≤ r.getD (kx + i) 0 := by
      rcases Int.lt_or_le (r.getD (kx + i) 0) b with h1 | h1
      · have := Int.mul_le_mul_of_nonneg_left (show r.getD (kx + i) 0 + 1 ≤ b by omega) (show (0 : Int) ≤ B32 ^ i by omega)
        rw [Int.mul_add, Int.mul_one, Int.mul_comm _ b] at this
        omega
      · exact h1
    have e2 : IntKind.wrap .u64 (r.getD (kx + i) 0 - b) = r.getD (kx + i) 0 - b := ule (by omega) (by simp only [B32] at *; omega)
    refine Res2.succ (fun k m => ?_) (hn (r.set (kx + i) (r.getD (kx + i) 0 - b)) (by simpa using hr) (rL.set _ (by omega)) (by rw [List.take_set_of_le (by omega)]; exact hT) ?_)
    · simp only [galoisref01_DivMod.l2, galoisref01_DivMod.b2, e1, Int.toNat_natCast, e2]
      rw [bn (by omega), if_pos (by omega), if_pos (by omega)]
    · rw [List.drop_set, if_neg (by omega), show kx + i - kx = i by omega, wv_set (by simp; omega), getD_drop, hv]
      grind
  | d + 1, i, b, r, hd, hr, rL, hb, hb', hT, hv, hz => by
    have hnl := h.nl
    have hyl := h.yl
    have e1 : IntKind.wrap .i64 ((kx : Int) + (i : Int)) = ((kx + i : Nat) : Int) := by rw [wi _ (by omega) (by omega)]; omega
    have e2 : IntKind.wrap .i64 ((i : Int) + 1) = ((i + 1 : Nat) : Int) := by rw [wi _ (by omega) (by omega)]; omega
    have hy := h.yL.get i (by omega)
    have hg := rL.get (kx + i) (by omega)
    have hp0 := Int.mul_nonneg hy.1 g0
    have hp1 : y.getD i 0 * g ≤ (B32 - 1) * (B32 - 1) := Int.mul_le_mul (by omega) (by omega) g0 (by decide)
    have ep : IntKind.wrap .u64 (IntKind.wrap .u64 (y.getD i 0 * g) + b) = y.getD i 0 * g + b := by
      generalize y.getD i 0 * g = p at *
      simp only [B32] at *
      rw [ule (x := p) (by omega) (by omega), ule (by omega) (by omega)]
    have hpb0 : 0 ≤ y.getD i 0 * g + b := by omega
    have hpb1 : y.getD i 0 * g + b < 18446744073709551616 := by simp only [B32] at *; omega
    -- the new limb and what is borrowed
    have key : ∀ (x b' : Int), (0 ≤ x ∧ x < B32) → 0 ≤ b' → b' < B32 → r.getD (kx + i) 0 - (y.getD i 0 * g + b) = x - B32 * b' → Res2 (fun k m => galoisref01_DivMod.l2 k m n kx g b' ((i + 1 : Nat) : Int) y (r.set (kx + i) x) q) Q := by
      intro x b' hx hb0 hb1 hxe
      refine rdiv_sub h kx hk g g0 g1 q T0 N hN W hW hWlt Q hn d (i + 1) b' (r.set (kx + i) x) (by omega) (by simpa using hr) (rL.set _ hx) hb0 hb1 (by rw [List.take_set_of_le (by omega)]; exact hT) ?_ ?_
      · rw [List.drop_set, if_neg (by omega), show kx + i - kx = i by omega, wv_set (by simp; omega), getD_drop, hv, wv_take_succ i (by omega), Int.pow_succ]
        grind
      · rw [List.drop_set, if_pos (by omega)]; exact hz
    by_cases hlt : r.getD (kx + i) 0 < (y.getD i 0 * g + b) % 4294967296
    · have e3 : IntKind.wrap .u64 (r.getD (kx + i) 0 + 4294967296) = r.getD (kx + i) 0 + 4294967296 := ule (by omega) (by simp only [B32] at *; omega)
      have e4 : (r.set (kx + i) (r.getD (kx + i) 0 + 4294967296)).getD (kx + i) 0 = r.getD (kx + i) 0 + 4294967296 := by simp [List.getD, show kx + i < r.length by omega]
      have e5 : IntKind.wrap .u64 (r.getD (kx + i) 0 + 4294967296 - (y.getD i 0 * g + b) % 4294967296) = r.getD (kx + i) 0 + 4294967296 - (y.getD i 0 * g + b) % 4294967296 := ule (by omega) (by simp only [B32] at *; omega)
      have e6 : IntKind.wrap .u64 ((y.getD i 0 * g + b) / 4294967296 + 1) = (y.getD i 0 * g + b) / 4294967296 + 1 := ule (by omega) (by omega)
      refine Res2.succ (fun k m => ?_) (key (r.getD (kx + i) 0 + 4294967296 - (y.getD i 0 * g + b) % 4294967296) ((y.getD i 0 * g + b) / 4294967296 + 1) ?_ ?_ ?_ ?_)
      · simp only [galoisref01_DivMod.l2, galoisref01_DivMod.b2, e1, e2, Int.toNat_natCast, ep, and32 _ hpb0 hpb1, e3, e4, fd _ 4294967296 (show (0 : Int) ≤ 4294967296 by omega), e5, e6, List.set_set, List.length_set]
        rw [bp (by omega), if_pos (by omega), if_pos (by omega), bp hlt, if_pos (by omega), if_pos (by omega), if_pos (by omega), if_pos (by omega)]
      · simp only [B32] at *; omega
      · omega
      · simp only [B32] at *; omega
      · simp only [B32] at *; omega
    · have e5 : IntKind.wrap .u64 (r.getD (kx + i) 0 - (y.getD i 0 * g + b) % 4294967296) = r.getD (kx + i) 0 - (y.getD i 0 * g + b) % 4294967296 := ule (by omega) (by simp only [B32] at *; omega)
      refine Res2.succ (fun k m => ?_) (key (r.getD (kx + i) 0 - (y.getD i 0 * g + b) % 4294967296) ((y.getD i 0 * g + b) / 4294967296) ?_ ?_ ?_ ?_)
      · simp only [galoisref01_DivMod.l2, galoisref01_DivMod.b2, e1, e2, Int.toNat_natCast, ep, and32 _ hpb0 hpb1, fd _ 4294967296 (show (0 : Int) ≤ 4294967296 by omega), e5]
        rw [bp (by omega), if_pos (by omega), if_pos (by omega), bn hlt, if_pos (by omega), if_pos (by omega)]
      · simp only [B32] at *; omega
      · omega
      · simp only [B32] at *; omega
      · simp only [B32] at *; omega

/-- The guess is no more than the quotient. -/
theorem RD.guess (h : RD y n V y1) {r : List Int} {kx : Nat} (rL : Lim_ B32 r) (hk : kx + n < r.length) (hge : V ≤ wv B32 (r.drop kx)) (hlt : wv B32 (r.drop kx) < V * B32) :
    ∃ g, (if IntKind.wrap .u64 (Int.tdiv (IntKind.wrap .u64 (IntKind.wrap .u64 (r.getD (kx + n) 0 * 4294967296) + r.getD (kx + n - 1) 0)) (IntKind.wrap .u64 (y1 + 1))) > 1 then IntKind.wrap .u64 (Int.tdiv (IntKind.wrap .u64 (IntKind.wrap .u64 (r.getD (kx + n) 0 * 4294967296) + r.getD (kx + n - 1) 0)) (IntKind.wrap .u64 (y1 + 1))) else 1) = g ∧
      1 ≤ g ∧ g < B32 ∧ g * V ≤ wv B32 (r.drop kx) ∧ wv B32 (r.drop (kx + (n + 1))) = 0 ∧ wv B32 (r.drop kx) < B32 ^ (n + 1) := by
  have hn := h.n1
  have hy1 := h.y1p
  have hVp := h.Vpos
  have hVl := h.Vlt
  have hVt := h.Vtop
  have a1 := rL.get (kx + n) hk
  have a2 := rL.get (kx + n - 1) (by omega)
  have hP : (0 : Int) < B32 ^ (n - 1) := Int.pow_pos (by decide)
  have en : B32 ^ n = B32 ^ (n - 1) * B32 := by rw [← Int.pow_succ, show (n - 1).succ = n by omega]
  have en1 : B32 ^ (n + 1) = B32 ^ (n - 1) * B32 * B32 := by rw [Int.pow_succ, en]
  have hVn : V < B32 ^ n := by rw [← h.eV, ← h.yl]; exact wv_lt (by decide) h.yL
  have hWn : wv B32 (r.drop kx) < B32 ^ (n + 1) := by
    rw [Int.pow_succ]
    have := Int.mul_le_mul_of_nonneg_right (show V ≤ B32 ^ n by omega) (show (0 : Int) ≤ B32 by decide)
    omega
  -- the parts
  have hs := wv_split (B := B32) (n - 1) (l := r.drop kx) (by simp; omega)
  have ht0 := wv_nonneg (B := B32) (by decide) ((rL.drop kx).take (n - 1))
  have ht1 := wv_lt (B := B32) (by decide) ((rL.drop kx).take (n - 1))
  rw [List.length_take, List.length_drop, Nat.min_eq_left (by omega)] at ht1
  have hz0 := wv_nonneg (B := B32) (by decide) (rL.drop (kx + (n + 1)))
  rw [wv_drop (n - 1) (by simp; omega), getD_drop, show kx + (n - 1) = kx + n - 1 by omega, show n - 1 + 1 = n by omega, wv_drop n (by simp; omega), getD_drop, List.drop_drop] at hs
  have hz : wv B32 (r.drop (kx + (n + 1))) = 0 := by
    rcases Int.lt_or_le 0 (wv B32 (r.drop (kx + (n + 1)))) with h1 | h1
    · have h2 : B32 ^ (n - 1) * (B32 * (B32 * 1)) ≤ B32 ^ (n - 1) * (r.getD (kx + n - 1) 0 + B32 * (r.getD (kx + n) 0 + B32 * wv B32 (r.drop (kx + (n + 1))))) := Int.mul_le_mul_of_nonneg_left (by simp only [B32] at *; omega) (by omega)
      have h3 : B32 ^ (n - 1) * (B32 * (B32 * 1)) = B32 ^ (n - 1) * B32 * B32 := by grind
      omega
    · omega
  rw [hz, Int.mul_zero, Int.add_zero] at hs
  have e1 : IntKind.wrap .u64 (IntKind.wrap .u64 (r.getD (kx + n) 0 * 4294967296) + r.getD (kx + n - 1) 0) = r.getD (kx + n) 0 * 4294967296 + r.getD (kx + n - 1) 0 := by
    simp only [B32] at *
    rw [ule (x := r.getD (kx + n) 0 * 4294967296) (by omega) (by omega), ule (by omega) (by omega)]
  have e2 : IntKind.wrap .u64 (y1 + 1) = y1 + 1 := ule (by omega) (by simp only [B32] at *; omega)
  have hN0 : 0 ≤ r.getD (kx + n) 0 * 4294967296 + r.getD (kx + n - 1) 0 := by omega
  have hd0 : 0 ≤ (r.getD (kx + n) 0 * 4294967296 + r.getD (kx + n - 1) 0) / (y1 + 1) := Int.ediv_nonneg hN0 (by omega)
  have hd1 : (r.getD (kx + n) 0 * 4294967296 + r.getD (kx + n - 1) 0) / (y1 + 1) < 4294967296 := by
    rw [Int.ediv_lt_iff_lt_mul (by omega)]
    -- w_n ≤ y1
    have h1 : r.getD (kx + n) 0 ≤ y1 := by
      have h2 : r.getD (kx + n) 0 * (B32 ^ (n - 1) * B32) < (y1 + 1) * (B32 ^ (n - 1) * B32) := by
        have h3 : B32 ^ (n - 1) * (r.getD (kx + n - 1) 0 + B32 * r.getD (kx + n) 0) = B32 ^ (n - 1) * r.getD (kx + n - 1) 0 + r.getD (kx + n) 0 * (B32 ^ (n - 1) * B32) := by grind
        have h4 := Int.mul_nonneg (show 0 ≤ B32 ^ (n - 1) by omega) a2.1
        have h5 := Int.mul_lt_mul_of_pos_right hVl (show (0 : Int) < B32 by decide)
        have h6 : (y1 + 1) * B32 ^ (n - 1) * B32 = (y1 + 1) * (B32 ^ (n - 1) * B32) := Int.mul_assoc _ _ _
        omega
      have := Int.lt_of_mul_lt_mul_right h2 (Int.mul_nonneg (by omega) (by decide))
      omega
    have h7 := Int.mul_le_mul_of_nonneg_right (show r.getD (kx + n) 0 + 1 ≤ y1 + 1 by omega) (show (0 : Int) ≤ 4294967296 by decide)
    simp only [B32] at *
    omega
  have hgV : (r.getD (kx + n) 0 * 4294967296 + r.getD (kx + n - 1) 0) / (y1 + 1) * V ≤ wv B32 (r.drop kx) := by
    have h1 : (r.getD (kx + n) 0 * 4294967296 + r.getD (kx + n - 1) 0) / (y1 + 1) * (y1 + 1) ≤ r.getD (kx + n) 0 * 4294967296 + r.getD (kx + n - 1) 0 := Int.ediv_mul_le _ (by omega)
    have h2 := Int.mul_le_mul_of_nonneg_left (show V ≤ (y1 + 1) * B32 ^ (n - 1) by omega) hd0
    have h3 := Int.mul_le_mul_of_nonneg_right h1 (show 0 ≤ B32 ^ (n - 1) by omega)
    rw [Int.mul_assoc] at h3
    have h4 : (r.getD (kx + n) 0 * 4294967296 + r.getD (kx + n - 1) 0) * B32 ^ (n - 1) = B32 ^ (n - 1) * (r.getD (kx + n - 1) 0 + B32 * r.getD (kx + n) 0) := by simp only [B32]; grind
    omega
  rw [e1, e2, td _ _ hN0, ule hd0 (by omega)]
  refine ⟨_, rfl, ?_⟩
  split
  · exact ⟨by omega, hd1, hgV, hz, hWn⟩
  · exact ⟨by omega, by decide, by rw [Int.one_mul]; exact hge, hz, hWn⟩

/-- One digit. -/
theorem rdiv_digit (h : RD y n V y1) (kx : Nat) (hk : kx ≤ 1099511627776) (T0 : List Int) (N : Nat) (hN : kx + n < N) (hN' : N ≤ 1099511627777) (M : Nat) (hM : kx < M) (A : Int) (Q : ByteArray × ByteArray → Prop)
    (hn : ∀ (r q : List Int), r.length = N → Lim_ B32 r → q.length = M → Lim_ B32 q → wv B32 (q.take kx) = 0 → wv B32 (r.drop kx) < V → A = wv B32 r + V * wv B32 q → Res2 (fun k m => galoisref01_DivMod.l0 k m n ((kx : Int) - 1) y r q) Q) :
    ∀ (j : Nat) (r q : List Int), wv B32 (r.drop kx) ≤ j → r.length = N → Lim_ B32 r → q.length = M → Lim_ B32 q → wv B32 (q.take kx) = 0 → q.getD kx 0 * V + wv B32 (r.drop kx) < V * B32 → A = wv B32 r + V * wv B32 q →
      Res2 (fun k m => galoisref01_DivMod.l1 k m n kx y r q) Q := by
  intro j
  have hn1 := h.n1
  have hnl := h.nl
  have hyl := h.yl
  have hVp := h.Vpos
  have e1 : IntKind.wrap .i64 ((kx : Int) + (n : Int)) = ((kx + n : Nat) : Int) := by rw [wi _ (by omega) (by omega)]; omega
  have e2 : IntKind.wrap .i64 (((kx + n : Nat) : Int) - 1) = ((kx + n - 1 : Nat) : Int) := by rw [wi _ (by omega) (by omega)]; omega
  have e3 : IntKind.wrap .i64 ((n : Int) - 1) = ((n - 1 : Nat) : Int) := by rw [wi _ (by omega) (by omega)]; omega
  have e4 : IntKind.wrap .i64 ((kx : Int) - 1) = (kx : Int) - 1 := by rw [wi _ (by omega) (by omega)]
  have stop : ∀ r q : List Int, r.length = N → Lim_ B32 r → q.length = M → Lim_ B32 q → wv B32 (q.take kx) = 0 → wv B32 (r.drop kx) < V → A = wv B32 r + V * wv B32 q → Res2 (fun k m => galoisref01_DivMod.l1 k m n kx y r q) Q := by
    intro r q hr rL hq qL hz hlt hA
    have hbel := rbelow_ok (B := B32) (r.drop kx) y (by simp; omega) (by omega) (by decide) (rL.drop kx) h.yL h.yC
    rw [h.eV, decide_eq_true hlt] at hbel
    refine Res2.succ (g := fun k m => (galoisref01_below k (r.drop kx) y).bind fun t3 => bif t3 then galoisref01_DivMod.l0 k m n ((kx : Int) - 1) y r q else galoisref01_DivMod.l1 k (m + 1) n kx y r q) (fun k m => ?_) (Res2.call (R := fun x => true = x) (g := fun k m t3 => bif t3 then galoisref01_DivMod.l0 k m n ((kx : Int) - 1) y r q else galoisref01_DivMod.l1 k (m + 1) n kx y r q) ⟨_, hbel, rfl⟩ ?_)
    · have hl : List.take (r.length - kx) (List.drop kx r) = r.drop kx := List.take_of_length_le (by simp)
      simp only [galoisref01_DivMod.l1, galoisref01_DivMod.b1, Int.toNat_natCast, hl, e4]
      rw [if_pos (by omega)]
      cases hb : galoisref01_below k (r.drop kx) y with
      | none => rfl
      | some t =>
        cases t with
        | true => rfl
        | false => simp only [Option.bind_some, Bool.not_false, cond_true, cond_false]
    · rintro _ rfl
      exact hn r q hr rL hq qL hz hlt hA
  induction j with
  | zero =>
    intro r q hj hr rL hq qL hz hlt hA
    exact stop r q hr rL hq qL hz (by omega) hA
  | succ j ih =>
    intro r q hj hr rL hq qL hz hlt hA
    by_cases hc : wv B32 (r.drop kx) < V
    · exact stop r q hr rL hq qL hz hc hA
    · have hqg := qL.get kx (by omega)
      have hqV := Int.mul_nonneg hqg.1 (show 0 ≤ V by omega)
      obtain ⟨g, eg, g0, g1, g2, g3, g4⟩ := h.guess rL (by omega) (by omega : V ≤ wv B32 (r.drop kx)) (by omega)
      have hbel := rbelow_ok (B := B32) (r.drop kx) y (by simp; omega) (by omega) (by decide) (rL.drop kx) h.yL h.yC
      rw [h.eV, decide_eq_false hc] at hbel
      -- the digit stays one
      have hqb : q.getD kx 0 + g < B32 := by
        have h1 : (q.getD kx 0 + g) * V < B32 * V := by rw [Int.add_mul, Int.mul_comm B32]; omega
        exact Int.lt_of_mul_lt_mul_right h1 (by omega)
      have e5 : IntKind.wrap .u64 (q.getD kx 0 + g) = q.getD kx 0 + g := ule (by omega) (by simp only [B32] at *; omega)
      have e6 : IntKind.wrap .u64 (y1 + 1) = y1 + 1 := by have := h.y1p; exact ule (by omega) (by simp only [B32] at *; omega)
      have hsub := rdiv_sub h kx hk g (by omega) g1 (q.set kx (q.getD kx 0 + g)) (r.take kx) N hN (wv B32 (r.drop kx)) g2 g4 Q (fun r' b1 b2 b3 b4 => by
        have hgV := Int.mul_le_mul_of_nonneg_right g0 (show 0 ≤ V by omega)
        refine ih r' (q.set kx (q.getD kx 0 + g)) (by rw [b4]; omega) b1 b2 (by simpa using hq) (qL.set _ ⟨by omega, hqb⟩) (by rw [List.take_set_of_le (Nat.le_refl _)]; exact hz) ?_ ?_
        · have : (q.set kx (q.getD kx 0 + g)).getD kx 0 = q.getD kx 0 + g := by simp [List.getD, show kx < q.length by omega]
          rw [this, b4, Int.add_mul]; omega
        · have s1 := wv_split (B := B32) kx (l := r) (by omega)
          have s2 := wv_split (B := B32) kx (l := r') (by omega)
          rw [b3, b4] at s2
          rw [wv_set (by omega), hA, s2, s1]
          grind) n 0 0 r (by omega) hr rL (by omega) (by decide) rfl (by simp [wv]) g3
      refine Res2.succ (g := fun k m => (galoisref01_below k (r.drop kx) y).bind fun t3 => bif t3 then galoisref01_DivMod.l0 k m n ((kx : Int) - 1) y r q else galoisref01_DivMod.l2 k m n kx g 0 0 y r (q.set kx (q.getD kx 0 + g))) (fun k m => ?_) (Res2.call (R := fun x => false = x) (g := fun k m t3 => bif t3 then galoisref01_DivMod.l0 k m n ((kx : Int) - 1) y r q else galoisref01_DivMod.l2 k m n kx g 0 0 y r (q.set kx (q.getD kx 0 + g))) ⟨_, hbel, rfl⟩ ?_)
      · have hl : List.take (r.length - kx) (List.drop kx r) = r.drop kx := List.take_of_length_le (by simp)
        have hy1 := h.y1p
        simp only [galoisref01_DivMod.l1, galoisref01_DivMod.b1, Int.toNat_natCast, hl, e1, e2, e3, e4, h.ey, eg, e5]
        rw [if_pos (by omega)]
        congr 1
        funext t3
        cases t3 with
        | true => rfl
        | false =>
          simp only [Bool.not_false, cond_true, cond_false]
          rw [if_pos (by omega), if_pos (by omega), if_pos (by omega), e6, if_neg (by omega), if_pos (by omega), if_pos (by omega)]
      · rintro _ rfl
        exact hsub
end
end Go.Proofs.YthghchjbomlpfaaGreat.Ev

/- The reference: division, whole; greatest common divisors; comparison. -/
namespace Go.Proofs.YthghchjbomlpfaaGreat.Ev
set_option linter.unusedVariables false

theorem rdiv_loop {y : List Int} {n : Nat} {V y1 : Int} (h : RD y n V y1) (N : Nat) (hN' : N ≤ 1099511627777) (M : Nat) (hMN : M = 0 ∨ M + n = N) (A : Int) :
    ∀ (kx : Nat) (r q : List Int), kx ≤ M → r.length = N → Lim_ B32 r → q.length = M → Lim_ B32 q → wv B32 (q.take kx) = 0 → wv B32 (r.drop kx) < V → A = wv B32 r + V * wv B32 q →
      Res2 (fun k m => galoisref01_DivMod.l0 k m n ((kx : Int) - 1) y r q) fun x => Nat_ x.1 ∧ Nat_ x.2 ∧ nv x.1 = A / V ∧ nv x.2 = A % V
  | 0, r, q, hk, hr, rL, hq, qL, hz, hlt, hA => by
    rw [List.drop_zero] at hlt
    have hr0 := wv_nonneg (B := B32) (by decide) rL
    have hu := div_uniq (a := A) (y := V) (q := wv B32 q) (r := wv B32 r) (by rw [hA, Int.mul_comm]; omega) hr0 hlt
    refine Res2.succ (g := fun k m => (galoisref01_pack k q).bind fun t4 => (galoisref01_pack k r).bind fun t5 => some (t4, t5)) (fun k m => ?_) (Res2.call (g := fun k m t4 => (galoisref01_pack k r).bind fun t5 => some (t4, t5)) (rpack_ok q (by omega) qL) ?_)
    · simp only [galoisref01_DivMod.l0, galoisref01_DivMod.b0]
      rw [bn (by omega)]
    · rintro c ⟨c1, c2, c3⟩
      refine Res2.call (g := fun k m t5 => some (c, t5)) (rpack_ok r (by omega) rL) ?_
      rintro e ⟨e1, e2, e3⟩
      exact Res2.pure ⟨c1, e1, by rw [c2, hu.1], by rw [e2, hu.2]⟩
  | kx + 1, r, q, hk, hr, rL, hq, qL, hz, hlt, hA => by
    have hn := h.n1
    have hg := rL.get kx (by omega)
    have hqg := qL.get kx (by omega)
    have hP : (0 : Int) < B32 ^ kx := Int.pow_pos (by decide)
    rw [wv_take_succ kx (by omega)] at hz
    have z0 := wv_nonneg (B := B32) (by decide) (qL.take kx)
    have z1 := Int.mul_nonneg (show 0 ≤ B32 ^ kx by omega) hqg.1
    have z2 : q.getD kx 0 = 0 := by
      have : B32 ^ kx * q.getD kx 0 = B32 ^ kx * 0 := by omega
      exact Int.eq_of_mul_eq_mul_left (by omega) this
    have e0 : ((kx + 1 : Nat) : Int) - 1 = (kx : Int) := by omega
    have hd := rdiv_digit h kx (by omega) [] N (by omega) hN' M (by omega) A _ (fun r' q' a1 a2 a3 a4 a5 a6 a7 => rdiv_loop h N hN' M hMN A kx r' q' (by omega) a1 a2 a3 a4 a5 a6 a7) (wv B32 (r.drop kx)).toNat r q (by have := wv_nonneg (B := B32) (by decide) (rL.drop kx); omega) hr rL hq qL (by omega) ?_ hA
    · refine Res2.succ (fun k m => ?_) hd
      simp only [galoisref01_DivMod.l0, galoisref01_DivMod.b0, e0]
      rw [bp (by omega)]
    · rw [z2, wv_drop kx (by omega)]
      have := Int.mul_le_mul_of_nonneg_left (show wv B32 (r.drop (kx + 1)) + 1 ≤ V by omega) (show (0 : Int) ≤ B32 by decide)
      rw [Int.mul_add, Int.mul_one, Int.mul_comm _ V] at this
      omega

theorem nat_ne {b : ByteArray} (h : Nat_ b) : b.data.toList = [] ↔ nv b = 0 := by
  constructor
  · intro e; rw [nv, e]; rfl
  · intro e
    by_cases hn : b.data.toList = []
    · exact hn
    · have := bz_low h hn
      have h5 : (0 : Int) < 256 ^ (b.data.toList.length - 1) := Int.pow_pos (by omega)
      rw [nv] at e; omega

theorem toList_data (b : ByteArray) : b.toList = b.data.toList := by
  exact ByteArray.toList_eq b

theorem beq_nil (b : ByteArray) : (b.toList == (⟨#[]⟩ : ByteArray).toList) = decide (b.data.toList = []) := by
  rw [toList_data, toList_data]
  cases h : b.data.toList with
  | nil => rfl
  | cons x l => rfl

theorem rdivmod_ok (a b : ByteArray) (hla : a.size ≤ 1099511627776) (hlb : b.size ≤ 1099511627776) (hb : nv b ≠ 0) : Res (fun k => galoisref01_DivMod k a b) fun c => Nat_ c.1 ∧ Nat_ c.2 ∧ nv c.1 = nv a / nv b ∧ nv c.2 = nv a % nv b := by
  have hne : b.data.toList ≠ [] := fun e => hb (by rw [nv, e]; rfl)
  refine Res.of_eq (g := fun k => (galoisref01_limbs k a).bind fun t1 => (galoisref01_limbs k b).bind fun t2 => if t1.length + ([0] : List Int).length < 140737488355328 / 8 then (if 0 ≤ (if (IntKind.wrap .i64 ((IntKind.wrap .i64 ((t1.length : Int) - (t2.length : Int))) + 1)) > 0 then (IntKind.wrap .i64 ((IntKind.wrap .i64 ((t1.length : Int) - (t2.length : Int))) + 1)) else 0) then (if (Int.toNat (if (IntKind.wrap .i64 ((IntKind.wrap .i64 ((t1.length : Int) - (t2.length : Int))) + 1)) > 0 then (IntKind.wrap .i64 ((IntKind.wrap .i64 ((t1.length : Int) - (t2.length : Int))) + 1)) else 0)) ≤ 281474976710656 / 8 then (galoisref01_DivMod.l0 k k (t2.length : Int) (IntKind.wrap .i64 (((List.replicate (Int.toNat (if (IntKind.wrap .i64 ((IntKind.wrap .i64 ((t1.length : Int) - (t2.length : Int))) + 1)) > 0 then (IntKind.wrap .i64 ((IntKind.wrap .i64 ((t1.length : Int) - (t2.length : Int))) + 1)) else 0)) 0 : List Int).length : Int) - 1)) t2 (t1 ++ ([0] : List Int)) (List.replicate (Int.toNat (if (IntKind.wrap .i64 ((IntKind.wrap .i64 ((t1.length : Int) - (t2.length : Int))) + 1)) > 0 then (IntKind.wrap .i64 ((IntKind.wrap .i64 ((t1.length : Int) - (t2.length : Int))) + 1)) else 0)) 0 : List Int)) else none) else none) else none) ?_ (fun k => by
    simp only [galoisref01_DivMod, galoisref01_DivMod.top, beq_nil, decide_eq_false hne, cond_false])
  refine Res.bind (limbs_ok a hla) ?_
  rintro x ⟨x1, x2, x3, x4⟩
  refine Res.bind (limbs_ok b hlb) ?_
  rintro y ⟨y1, y2, y3, y4⟩
  have hyv : wv B32 y = nv b := y3
  have hxv : wv B32 x = nv a := x3
  have hyn : 1 ≤ y.length := by
    cases y with
    | nil => simp only [wv] at hyv; omega
    | cons => simp
  have hRD : RD y y.length (wv B32 y) (y.getD (y.length - 1) 0) := ⟨hyn, by omega, rfl, y1, y2, rfl, rfl⟩
  have e1 : IntKind.wrap .i64 ((x.length : Int) - (y.length : Int)) = (x.length : Int) - (y.length : Int) := by rw [wi _ (by omega) (by omega)]
  have e2 : IntKind.wrap .i64 ((x.length : Int) - (y.length : Int) + 1) = (x.length : Int) - (y.length : Int) + 1 := by rw [wi _ (by omega) (by omega)]
  have e3 : (if (x.length : Int) - (y.length : Int) + 1 > 0 then (x.length : Int) - (y.length : Int) + 1 else 0) = ((x.length + 1 - y.length : Nat) : Int) := by split <;> omega
  have e4 : IntKind.wrap .i64 (((x.length + 1 - y.length : Nat) : Int) - 1) = ((x.length + 1 - y.length : Nat) : Int) - 1 := by rw [wi _ (by omega) (by omega)]
  have hdr : wv B32 ((x ++ [0]).drop (x.length + 1 - y.length)) < wv B32 y := by
    have h1 : (x ++ [0]).drop (x.length + 1 - y.length) = x.drop (x.length + 1 - y.length) ++ [0] := List.drop_append_of_le_length (by omega)
    rw [h1, wv_append]
    simp only [wv, Int.mul_zero, Int.add_zero]
    have h2 := wv_lt (B := B32) (by decide) (x1.drop (x.length + 1 - y.length))
    rw [List.length_drop] at h2
    have h3 := hRD.V1
    have h4 : B32 ^ (x.length - (x.length + 1 - y.length)) ≤ B32 ^ (y.length - 1) := by
      obtain ⟨d, hd⟩ : ∃ d, y.length - 1 = x.length - (x.length + 1 - y.length) + d := ⟨y.length - 1 - (x.length - (x.length + 1 - y.length)), by omega⟩
      rw [hd, Int.pow_add]
      have h5 : (0 : Int) < B32 ^ d := Int.pow_pos (by decide)
      have h6 : (0 : Int) < B32 ^ (x.length - (x.length + 1 - y.length)) := Int.pow_pos (by decide)
      have := Int.mul_le_mul_of_nonneg_left (show (1 : Int) ≤ B32 ^ d by omega) (show 0 ≤ B32 ^ (x.length - (x.length + 1 - y.length)) by omega)
      omega
    omega
  have := (rdiv_loop hRD (x.length + 1) (by omega) (x.length + 1 - y.length) (by omega) (nv a) (x.length + 1 - y.length) (x ++ [0]) (List.replicate (x.length + 1 - y.length) 0) (Nat.le_refl _) (by simp) (x1.append (Lim_.cons (by decide) (fun _ h => by simp at h))) (by simp) (Lim_.rep (by decide) _) (by rw [List.take_replicate, wv_rep]) hdr (by rw [wv_rep, wv_append]; simp [wv, hxv])).diag
  rw [hyv] at this
  refine Res.of_eq this fun k => ?_
  rw [e1, e2, e3, Int.toNat_natCast, List.length_replicate, e4, if_pos (by simp; omega), if_pos (by omega), if_pos (by omega)]

theorem rgcd_loop : ∀ (m : Nat) (a b : ByteArray), nv b < m → a.size ≤ 1099511627776 → b.size ≤ 1099511627776 → Nat_ a → Nat_ b →
    Res2 (fun k n => galoisref01_Gcd.l0 k n a b) fun c => Nat_ c ∧ nv c = Int.gcd (nv a) (nv b)
  | 0, a, b, hm, _, _, _, _ => by have := nv_nonneg b; omega
  | m + 1, a, b, hm, hla, hlb, ha, hb => by
    by_cases h0 : nv b = 0
    · refine Res2.succ (g := fun _ _ => some a) (fun k n => ?_) (Res2.pure ⟨ha, ?_⟩)
      · simp only [galoisref01_Gcd.l0, galoisref01_Gcd.b0, beq_nil]
        rw [decide_eq_true ((nat_ne hb).2 h0)]; rfl
      · have := nv_nonneg a
        rw [h0, Int.gcd_zero_right]; omega
    · have hne : b.data.toList ≠ [] := fun e => h0 ((nat_ne hb).1 e)
      have hb0 := nv_nonneg b
      refine Res2.succ (g := fun k n => (galoisref01_DivMod k a b).bind fun pt1 => galoisref01_Gcd.l0 k n b pt1.2) (fun k n => ?_) (Res2.call (g := fun k n pt1 => galoisref01_Gcd.l0 k n b pt1.2) (rdivmod_ok a b hla hlb h0) ?_)
      · simp only [galoisref01_Gcd.l0, galoisref01_Gcd.b0, beq_nil]
        rw [decide_eq_false hne]; rfl
      · rintro ⟨q, r⟩ ⟨d1, d2, d3, d4⟩
        simp only at d1 d2 d3 d4
        have hm1 := Int.emod_lt_of_pos (nv a) (show 0 < nv b by omega)
        have hrs : r.size ≤ 1099511627776 := by
          -- the remainder is no longer than the divisor
          by_cases hr : r.data.toList = []
          · have : r.size = r.data.toList.length := by simp
            rw [this, hr]; simp
          · have h1 := bz_low d2 hr
            have h2 := (bz_bounds b.data.toList).2
            have h3 : (256 : Int) ^ (r.data.toList.length - 1) < 256 ^ b.data.toList.length := by
              have : bz r.data.toList = nv r := rfl
              have : bz b.data.toList = nv b := rfl
              omega
            have h4 : r.data.toList.length - 1 < b.data.toList.length := by
              rcases Nat.lt_or_ge (r.data.toList.length - 1) b.data.toList.length with h5 | h5
              · exact h5
              · obtain ⟨d, hd⟩ := Nat.exists_eq_add_of_le h5
                rw [hd, Int.pow_add] at h3
                have h6 : (0 : Int) < 256 ^ d := Int.pow_pos (by omega)
                have h7 : (0 : Int) < 256 ^ b.data.toList.length := Int.pow_pos (by omega)
                have := Int.mul_le_mul_of_nonneg_left (show (1 : Int) ≤ 256 ^ d by omega) (show (0 : Int) ≤ 256 ^ b.data.toList.length by omega)
                omega
            have e1 : r.size = r.data.toList.length := by simp
            have e2 : b.size = b.data.toList.length := by simp
            omega
        refine (rgcd_loop m b r (by omega) hlb hrs hb d2).mono fun c hc => ⟨hc.1, ?_⟩
        have hdm := Int.emod_add_mul_ediv (nv a) (nv b)
        rw [hc.2, d4, Int.gcd_comm (nv a), ← Int.gcd_add_mul_right_right (nv b) (nv a % nv b) (nv a / nv b), Int.mul_comm (nv a / nv b), hdm]

theorem rgcd_ok (a b : ByteArray) (hla : a.size ≤ 1099511627776) (hlb : b.size ≤ 1099511627776) (ha : Nat_ a) (hb : Nat_ b) : Res (fun k => galoisref01_Gcd k a b) fun c => Nat_ c ∧ nv c = Int.gcd (nv a) (nv b) :=
  Res.of_eq (rgcd_loop ((nv b).toNat + 1) a b (by omega) hla hlb ha hb).diag fun k => rfl
end Go.Proofs.YthghchjbomlpfaaGreat.Ev

/- Checks of numbers. -/
namespace Go.Proofs.YthghchjbomlpfaaGreat.Ev
set_option linter.unusedVariables false

theorem beq_bytes (a b : ByteArray) : (a.toList == b.toList) = decide (a.data.toList = b.data.toList) := by
  rw [toList_data, toList_data]
  by_cases h : a.data.toList = b.data.toList
  · rw [h]; simp
  · rw [decide_eq_false h]
    exact beq_eq_false_iff_ne.2 h
theorem bytes_eq {a b : ByteArray} : a.data.toList = b.data.toList ↔ a = b := by
  constructor
  · intro h; cases a; cases b; congr 1; exact Array.toList_inj.1 h
  · intro h; rw [h]
theorem beq_nv {a b : ByteArray} (ha : Nat_ a) (hb : Nat_ b) : (a.toList == b.toList) = decide (nv a = nv b) := by
  rw [beq_bytes]
  exact decide_eq_decide.2 ⟨fun h => by rw [nv, nv, h], fun h => by rw [nv_inj ha hb h]⟩
theorem one_nat : Nat_ (⟨#[1]⟩ : ByteArray) ∧ nv (⟨#[1]⟩ : ByteArray) = 1 := by
  constructor
  · simp [Nat_, Nrm]
  · rfl
theorem nil_nat : Nat_ (⟨#[]⟩ : ByteArray) ∧ nv (⟨#[]⟩ : ByteArray) = 0 := by
  constructor
  · simp [Nat_, Nrm]
  · rfl
theorem size_len (b : ByteArray) : b.size = b.data.toList.length := by simp

/-- The error of a number. -/
def natE (b : ByteArray) : Int := if b.data.toList.head? = some 0 then 1 else if 1024 < b.size then 4 else 0
/-- Of an integer. -/
def intE (n : Bool × ByteArray) : Int := if natE n.2 = 1 then 1 else if n.1 = true ∧ n.2.data.toList = [] then 1 else natE n.2
/-- Of a fraction. -/
def ratE (x : (Bool × ByteArray) × ByteArray) : Int :=
  if intE x.1 = 1 ∨ natE x.2 = 1 ∨ x.2.data.toList = [] then 1 else if intE x.1 ≠ 0 then intE x.1 else if natE x.2 ≠ 0 then natE x.2 else if Int.gcd (nv x.1.2) (nv x.2) = 1 then 0 else 1

theorem natE_one {b : ByteArray} : natE b = 1 ↔ b.data.toList.head? = some 0 := by
  unfold natE; split
  · simp [*]
  · split <;> simp [*]
theorem natE_zero {b : ByteArray} : natE b = 0 ↔ Nat_ b ∧ b.size ≤ 1024 := by
  unfold natE Nat_ Nrm; split
  · simp [*]
  · split <;> simp [*] <;> omega
theorem natE_cases (b : ByteArray) : natE b = 0 ∨ natE b = 1 ∨ natE b = 4 := by unfold natE; split <;> (try split) <;> simp

theorem head_zero (x : UInt8) : ((x.toNat : Int) = 0) ↔ x = 0 := by
  constructor
  · intro h
    exact UInt8.toNat_inj.1 (show x.toNat = (0 : UInt8).toNat by have : (0 : UInt8).toNat = 0 := rfl; omega)
  · intro h; rw [h]; rfl

theorem natural_Check_ok (b : ByteArray) : Evt (fun k => natural_Check k b) (natE b) := by
  refine Evt.succ (fun n => ?_) Evt.pure
  have hsz := size_len b
  cases hl : b.data.toList with
  | nil =>
    rw [hl] at hsz
    simp only [List.length_nil] at hsz
    simp only [natural_Check, natural_Check.top, natural_Check.l0, natural_Check.b0, natE, hl, hsz]
    rfl
  | cons x l =>
    rw [hl] at hsz
    simp only [List.length_cons] at hsz
    simp only [natural_Check, natural_Check.top, natural_Check.l0, natural_Check.b0, natE, hl]
    rw [bp (by omega), if_pos (by omega)]
    simp only [List.getD_cons_zero, List.head?_cons, Option.some.injEq, head_zero]
    by_cases hx : x = 0
    · rw [bp hx, if_pos hx]
    · rw [bn hx, if_neg hx]
      by_cases hs : 1024 < b.size
      · rw [bp (by omega), if_pos hs]
      · rw [bn (by omega), if_neg hs]

theorem integer_Check_ok (n : Bool × ByteArray) : Evt (fun k => integer_Check k n) (intE n) := by
  obtain ⟨s, b⟩ := n
  unfold integer_Check
  refine Evt.bind (g := fun k t1 => bif decide (t1 = 1) then (some t1) else ((integer_zero).bind fun t2 => bif !(Ty.eqb (.pair .bool .str) (s, b) t2) then (bif b.toList == (⟨#[]⟩ : ByteArray).toList then (some 1) else (some t1)) else (some t1))) (natural_Check_ok b) ?_
  refine Evt.of_eq (g := fun _ => some (intE (s, b))) Evt.pure fun k => ?_
  simp only [intE]
  by_cases h1 : natE b = 1
  · rw [bp h1, if_pos h1, h1]
  · rw [bn h1, if_neg h1]
    simp only [integer_zero, Option.bind_some, Ty.eqb, beq_bytes]
    by_cases h2 : b.data.toList = []
    · cases s <;> simp [h2]
    · simp [h2]

theorem rational_Check_ok (x : (Bool × ByteArray) × ByteArray) : Evt (fun k => rational_Check k x) (ratE x) := by
  have hfin : ∀ (t : Bool), t = decide (intE x.1 = 1 ∨ natE x.2 = 1 ∨ x.2.data.toList = []) → Evt (fun k => rational_Check.l0 k k (intE x.1) (natE x.2) t x) (ratE x) := by
    intro t ht
    suffices h2 : Evt2 (fun k n => rational_Check.l0 k n (intE x.1) (natE x.2) t x) (ratE x) from h2.diag
    refine Evt2.succ (g := fun k _ => rational_Check.b0 k (intE x.1) (natE x.2) t x) (fun k n => rfl) ?_
    unfold rational_Check.b0 ratE
    by_cases h1 : intE x.1 = 1 ∨ natE x.2 = 1 ∨ x.2.data.toList = []
    · rw [ht, if_pos h1, decide_eq_true h1]; exact Evt2.pure
    · rw [ht, if_neg h1, decide_eq_false h1]
      simp only [cond_false]
      by_cases h2 : intE x.1 = 0
      · have e1 : ∀ {α : Type} (a b : α), (bif !decide (intE x.1 = 0) then a else b) = b := fun a b => bnp h2
        simp only [e1]
        rw [if_neg (by simp [h2])]
        by_cases h3 : natE x.2 = 0
        · have e2 : ∀ {α : Type} (a b : α), (bif !decide (natE x.2 = 0) then a else b) = b := fun a b => bnp h3
          simp only [e2]
          rw [if_neg (by simp [h3])]
          obtain ⟨n2, s2⟩ := natE_zero.1 h3
          have hi : natE x.1.2 = 0 := by
            unfold intE at h2
            split at h2
            · simp at h2
            · split at h2
              · simp at h2
              · exact h2
          obtain ⟨n1, s1⟩ := natE_zero.1 hi
          simp only [beq_nv n2 one_nat.1, one_nat.2]
          by_cases h4 : nv x.2 = 1
          · have e3 : ∀ {α : Type} (a b : α), (bif !decide (nv x.2 = 1) then a else b) = b := fun a b => bnp h4
            simp only [e3]
            rw [h4, if_pos (by simp)]
            exact Evt2.pure
          · have e3 : ∀ {α : Type} (a b : α), (bif !decide (nv x.2 = 1) then a else b) = a := fun a b => bnn h4
            simp only [e3]
            obtain ⟨c, hc, c1, c2⟩ := natGcd_ok x.1.2 x.2 (by omega) (by omega)
            refine Evt2.call (g := fun k n t3 => bif !(t3.toList == (⟨#[1]⟩ : ByteArray).toList) then (some (1 : Int)) else (some 0)) hc ?_
            simp only [beq_nv c1 one_nat.1, one_nat.2, c2]
            by_cases h5 : Int.gcd (nv x.1.2) (nv x.2) = 1
            · rw [if_pos h5]
              have e4 : ∀ {α : Type} (a b : α), (bif !decide (((Int.gcd (nv x.1.2) (nv x.2) : Nat) : Int) = 1) then a else b) = b := fun a b => bnp (by omega)
              simp only [e4]; exact Evt2.pure
            · rw [if_neg h5]
              have e4 : ∀ {α : Type} (a b : α), (bif !decide (((Int.gcd (nv x.1.2) (nv x.2) : Nat) : Int) = 1) then a else b) = a := fun a b => bnn (by omega)
              simp only [e4]; exact Evt2.pure
        · have e2 : ∀ {α : Type} (a b : α), (bif !decide (natE x.2 = 0) then a else b) = a := fun a b => bnn h3
          simp only [e2]
          rw [if_pos h3]; exact Evt2.pure
      · have e1 : ∀ {α : Type} (a b : α), (bif !decide (intE x.1 = 0) then a else b) = a := fun a b => bnn h2
        simp only [e1]
        rw [if_pos h2]; exact Evt2.pure
  unfold rational_Check rational_Check.top
  refine Evt.bind (g := fun k t1 => (natural_Check k x.2).bind fun t2 => bif decide (t1 = 1) then (rational_Check.l0 k k t1 t2 true x) else (bif decide (t2 = 1) then (rational_Check.l0 k k t1 t2 true x) else (rational_Check.l0 k k t1 t2 (x.2.toList == (⟨#[]⟩ : ByteArray).toList) x))) (integer_Check_ok x.1) ?_
  refine Evt.bind (g := fun k t2 => bif decide (intE x.1 = 1) then (rational_Check.l0 k k (intE x.1) t2 true x) else (bif decide (t2 = 1) then (rational_Check.l0 k k (intE x.1) t2 true x) else (rational_Check.l0 k k (intE x.1) t2 (x.2.toList == (⟨#[]⟩ : ByteArray).toList) x))) (natural_Check_ok x.2) ?_
  by_cases h1 : intE x.1 = 1
  · refine Evt.of_eq (hfin true (by simp [h1])) fun k => by rw [bp h1]
  · by_cases h2 : natE x.2 = 1
    · refine Evt.of_eq (hfin true (by simp [h2])) fun k => by rw [bn h1, bp h2]
    · refine Evt.of_eq (hfin (x.2.toList == (⟨#[]⟩ : ByteArray).toList) (by rw [beq_nil]; simp [h1, h2])) fun k => by rw [bn h1, bn h2]

/-! ### The reference -/
theorem rvalid_ok (b : ByteArray) : galoisref01_Valid b = some (decide (natE b ≠ 1)) := by
  have hsz := size_len b
  unfold galoisref01_Valid
  rw [beq_nil]
  cases hl : b.data.toList with
  | nil => simp [natE_one, hl]
  | cons x l =>
    rw [hl] at hsz
    simp only [List.length_cons] at hsz
    rw [decide_eq_false (by simp), cond_false, if_pos (by omega)]
    simp only [List.getD_cons_zero, head_zero, Ne, natE_one, hl, List.head?_cons, Option.some.injEq]
    simp

theorem rfits_ok (b : ByteArray) : galoisref01_Fits b = some (if 1024 < b.size then 4 else 0) := by
  unfold galoisref01_Fits
  by_cases h : 1024 < b.size
  · rw [bp (by omega), if_pos h]
  · rw [bn (by omega), if_neg h]

theorem ivalid_ok (n : Bool × ByteArray) : galoisref02_Valid n = some (decide (intE n ≠ 1)) := by
  obtain ⟨s, b⟩ := n
  unfold galoisref02_Valid
  simp only [rvalid_ok, Option.bind_some, beq_nil]
  have h4 := natE_cases b
  by_cases h1 : natE b = 1
  · simp [h1, intE]
  · cases s with
    | false => simp [h1, intE]
    | true =>
      by_cases h2 : b.data.toList = []
      · simp [h1, h2, intE]
      · simp [h1, h2, intE]

theorem rcheck_ok (x : (Bool × ByteArray) × ByteArray) : Evt (fun k => galoisref03_Check k x) (ratE x) := by
  have hfin : ∀ (t : Bool), t = decide (intE x.1 = 1 ∨ natE x.2 = 1 ∨ x.2.data.toList = []) → Evt (fun k => galoisref03_Check.l0 k k t x) (ratE x) := by
    intro t ht
    suffices h2 : Evt2 (fun k n => galoisref03_Check.l0 k n t x) (ratE x) from h2.diag
    refine Evt2.succ (g := fun k _ => galoisref03_Check.b0 k t x) (fun k n => rfl) ?_
    unfold galoisref03_Check.b0 ratE
    by_cases h1 : intE x.1 = 1 ∨ natE x.2 = 1 ∨ x.2.data.toList = []
    · rw [ht, if_pos h1, decide_eq_true h1]; exact Evt2.pure
    · rw [ht, if_neg h1, decide_eq_false h1]
      simp only [cond_false, galoisref03_Fits, galoisref02_Fits, rfits_ok, Option.bind_some]
      have hi1 : intE x.1 ≠ 1 := fun h => h1 (.inl h)
      have hn1 : natE x.2 ≠ 1 := fun h => h1 (.inr (.inl h))
      have hi : intE x.1 = natE x.1.2 ∧ natE x.1.2 ≠ 1 := by
        unfold intE at hi1 ⊢
        split
        · rename_i h; rw [if_pos h] at hi1; simp at hi1
        · rename_i h
          split
          · rename_i h2; rw [if_neg h, if_pos h2] at hi1; simp at hi1
          · exact ⟨rfl, h⟩
      have na : ∀ b, natE b ≠ 1 → natE b = if 1024 < b.size then 4 else 0 := fun b hb => by
        unfold natE at hb ⊢
        split
        · rename_i h; rw [if_pos h] at hb; simp at hb
        · rfl
      rw [hi.1, na _ hi.2, na _ hn1]
      by_cases h2 : 1024 < x.1.2.size
      · simp only [h2, if_true]
        exact Evt2.pure
      · simp only [h2, if_false]
        by_cases h3 : 1024 < x.2.size
        · simp only [h3, if_true]
          exact Evt2.pure
        · simp only [h3, if_false, decide_true, Bool.not_true, cond_false, ne_eq, not_true_eq_false, Option.bind_some]
          have n1 : Nat_ x.1.2 := fun h => hi.2 (natE_one.2 h)
          have n2 : Nat_ x.2 := fun h => hn1 (natE_one.2 h)
          obtain ⟨c, hc, c1, c2⟩ := rgcd_ok x.1.2 x.2 (by omega) (by omega) n1 n2
          refine Evt2.call (g := fun k n t3 => bif !(t3.toList == (⟨#[1]⟩ : ByteArray).toList) then (some (1 : Int)) else (some 0)) hc ?_
          simp only [beq_nv c1 one_nat.1, one_nat.2, c2]
          by_cases h5 : Int.gcd (nv x.1.2) (nv x.2) = 1
          · rw [if_pos h5]
            have e4 : ∀ {α : Type} (a b : α), (bif !decide (((Int.gcd (nv x.1.2) (nv x.2) : Nat) : Int) = 1) then a else b) = b := fun a b => bnp (by omega)
            simp only [e4]; exact Evt2.pure
          · rw [if_neg h5]
            have e4 : ∀ {α : Type} (a b : α), (bif !decide (((Int.gcd (nv x.1.2) (nv x.2) : Nat) : Int) = 1) then a else b) = a := fun a b => bnn (by omega)
            simp only [e4]; exact Evt2.pure
  unfold galoisref03_Check galoisref03_Check.top
  simp only [ivalid_ok, rvalid_ok, Option.bind_some, beq_nil]
  by_cases h1 : intE x.1 = 1
  · refine Evt.of_eq (hfin true (by simp [h1])) fun k => by simp [h1]
  · by_cases h2 : natE x.2 = 1
    · refine Evt.of_eq (hfin true (by simp [h2])) fun k => by simp [h1, h2]
    · refine Evt.of_eq (hfin (decide (x.2.data.toList = [])) (by simp [h1, h2])) fun k => by simp [h1, h2]
end Go.Proofs.YthghchjbomlpfaaGreat.Ev

/- Comparison. -/
namespace Go.Proofs.YthghchjbomlpfaaGreat.Ev
set_option linter.unusedVariables false

theorem bz_cons (x : UInt8) (l : List UInt8) : bz (x :: l) = (x.toNat : Int) * 256 ^ l.length + bz l := by
  have := bz_app [x] l
  simpa [bz] using this

theorem less_iff : ∀ (a b : List UInt8), a.length = b.length → (Op.bytesLess a b = true ↔ bz a < bz b)
  | [], [], _ => by simp [Op.bytesLess]
  | [], _ :: _, h => by simp at h
  | _ :: _, [], h => by simp at h
  | x :: a, y :: b, h => by
    have hl : a.length = b.length := by simpa using h
    have ih := less_iff a b hl
    have ha := bz_bounds a
    have hb := bz_bounds b
    have hP : (0 : Int) < 256 ^ b.length := Int.pow_pos (by omega)
    rw [bz_cons, bz_cons, hl]
    rw [hl] at ha
    simp only [Op.bytesLess, Bool.or_eq_true, Bool.and_eq_true, decide_eq_true_eq, beq_iff_eq, ih]
    have hlt : x < y ↔ x.toNat < y.toNat := UInt8.lt_iff_toNat_lt
    rw [hlt]
    have heq : x = y ↔ x.toNat = y.toNat := UInt8.toNat_inj.symm
    rw [heq]
    rcases Nat.lt_trichotomy x.toNat y.toNat with h1 | h1 | h1
    · have := Int.mul_le_mul_of_nonneg_right (show (x.toNat : Int) + 1 ≤ (y.toNat : Int) by omega) (show (0 : Int) ≤ 256 ^ b.length by omega)
      rw [Int.add_mul, Int.one_mul] at this
      constructor
      · intro _; omega
      · intro _; exact .inl h1
    · rw [h1]
      constructor
      · rintro (h2 | ⟨_, h2⟩)
        · omega
        · omega
      · intro h2; exact .inr ⟨rfl, by omega⟩
    · have := Int.mul_le_mul_of_nonneg_right (show (y.toNat : Int) + 1 ≤ (x.toNat : Int) by omega) (show (0 : Int) ≤ 256 ^ b.length by omega)
      rw [Int.add_mul, Int.one_mul] at this
      constructor
      · rintro (h2 | ⟨h2, _⟩)
        · omega
        · omega
      · intro _; omega

theorem nv_len_lt {a b : ByteArray} (hb : Nat_ b) (h : a.size < b.size) : nv a < nv b := by
  rw [size_len, size_len] at h
  have h1 := (bz_bounds a.data.toList).2
  have h2 := bz_low hb (fun e => by rw [e] at h; simp at h)
  have h3 : (256 : Int) ^ a.data.toList.length ≤ 256 ^ (b.data.toList.length - 1) := by
    obtain ⟨d, hd⟩ : ∃ d, b.data.toList.length - 1 = a.data.toList.length + d := ⟨b.data.toList.length - 1 - a.data.toList.length, by omega⟩
    rw [hd, Int.pow_add]
    have h5 : (0 : Int) < 256 ^ d := Int.pow_pos (by omega)
    have h4 : (0 : Int) < 256 ^ a.data.toList.length := Int.pow_pos (by omega)
    have := Int.mul_le_mul_of_nonneg_left (show (1 : Int) ≤ 256 ^ d by omega) (show (0 : Int) ≤ 256 ^ a.data.toList.length by omega)
    omega
  rw [nv, nv]; omega

/-- What both comparisons answer. -/
theorem cmp_core {a b : ByteArray} (ha : Nat_ a) (hb : Nat_ b) (t : Bool) (ht : t = (bif decide ((a.size : Int) < (b.size : Int)) then true else bif decide ((a.size : Int) = (b.size : Int)) then Op.bytesLess a.toList b.toList else false)) :
    (bif t then (some (-1)) else (bif a.toList == b.toList then (some 0) else (some 1)) : Option Int) = some (cmp (nv a) (nv b)) := by
  have hsa := size_len a
  have hsb := size_len b
  rw [beq_nv ha hb]
  rcases Nat.lt_trichotomy a.size b.size with h | h | h
  · have h1 := nv_len_lt hb h
    rw [bp (by omega)] at ht
    rw [ht, cond_true, cmp, if_pos h1]
  · rw [bn (by omega), bp (by omega), toList_data, toList_data] at ht
    have hl := less_iff a.data.toList b.data.toList (by omega)
    by_cases h1 : nv a < nv b
    · rw [ht, hl.2 h1, cond_true, cmp, if_pos h1]
    · have : Op.bytesLess a.data.toList b.data.toList = false := by
        cases hb' : Op.bytesLess a.data.toList b.data.toList
        · rfl
        · exact absurd (hl.1 hb') h1
      rw [ht, this, cond_false, cmp, if_neg h1]
      by_cases h2 : nv a = nv b
      · rw [bp h2, if_neg (by omega)]
      · rw [bn h2, if_pos (by omega)]
  · have h1 := nv_len_lt ha h
    rw [bn (by omega), bn (by omega)] at ht
    rw [ht, cond_false, cmp, if_neg (by omega), if_pos h1, bn (by omega)]

theorem natCmp_ok (a b : ByteArray) (ha : Nat_ a) (hb : Nat_ b) : Evt (fun k => exact_NatCmp k a b) (cmp (nv a) (nv b)) := by
  refine Evt.succ (fun n => ?_) Evt.pure
  rw [← cmp_core ha hb _ rfl]
  simp only [exact_NatCmp, exact_NatCmp.top, exact_NatCmp.l0, exact_NatCmp.b0]
  cases decide ((a.size : Int) < (b.size : Int)) <;> cases decide ((a.size : Int) = (b.size : Int)) <;> rfl

theorem rcmp_ok (a b : ByteArray) (ha : Nat_ a) (hb : Nat_ b) : Evt (fun k => galoisref01_Compare k a b) (cmp (nv a) (nv b)) := by
  refine Evt.succ (fun n => ?_) Evt.pure
  rw [← cmp_core ha hb _ rfl]
  simp only [galoisref01_Compare, galoisref01_Compare.top, galoisref01_Compare.l0, galoisref01_Compare.b0]
  cases decide ((a.size : Int) < (b.size : Int)) <;> cases decide ((a.size : Int) = (b.size : Int)) <;> rfl

/-! ### Integers -/
def iv (n : Bool × ByteArray) : Int := if n.1 = true then - nv n.2 else nv n.2
def Int_ (n : Bool × ByteArray) : Prop := Nat_ n.2 ∧ (n.1 = true → nv n.2 ≠ 0)

theorem intE_zero {n : Bool × ByteArray} : intE n = 0 ↔ Int_ n ∧ n.2.size ≤ 1024 := by
  have h4 := natE_zero (b := n.2)
  unfold intE Int_
  constructor
  · intro h
    split at h
    · simp at h
    · rename_i h1
      split at h
      · simp at h
      · rename_i h2
        obtain ⟨h5, h6⟩ := h4.1 h
        exact ⟨⟨h5, fun h7 h8 => h2 ⟨h7, (nat_ne h5).2 h8⟩⟩, h6⟩
  · rintro ⟨⟨h5, h7⟩, h6⟩
    have := h4.2 ⟨h5, h6⟩
    rw [if_neg (by omega), if_neg (fun h => h7 h.1 ((nat_ne h5).1 h.2)), this]

theorem nat_pos {b : ByteArray} (h : nv b ≠ 0) : 0 < nv b := by have := nv_nonneg b; omega

theorem make_ok (s : Bool) (b : ByteArray) (hb : Nat_ b) : ∃ n, exact_IntMake s b = some n ∧ galoisref02_Make s b = some n ∧ Int_ n ∧ iv n = (if s = true then - nv b else nv b) ∧ n.2 = b := by
  cases s with
  | false => exact ⟨(false, b), rfl, rfl, ⟨hb, by simp⟩, by simp [iv], rfl⟩
  | true =>
    by_cases h : nv b = 0
    · have h2 := (nat_ne hb).2 h
      refine ⟨(false, b), ?_, ?_, ⟨hb, by simp⟩, by simp [iv, h], rfl⟩
      · show (some (!(b.toList == (⟨#[]⟩ : ByteArray).toList), b) : Option (Bool × ByteArray)) = _; rw [beq_nil, decide_eq_true h2]; rfl
      · show (some (!(b.toList == (⟨#[]⟩ : ByteArray).toList), b) : Option (Bool × ByteArray)) = _; rw [beq_nil, decide_eq_true h2]; rfl
    · have h2 : b.data.toList ≠ [] := fun e => h ((nat_ne hb).1 e)
      refine ⟨(true, b), ?_, ?_, ⟨hb, fun _ => h⟩, by simp [iv], rfl⟩
      · show (some (!(b.toList == (⟨#[]⟩ : ByteArray).toList), b) : Option (Bool × ByteArray)) = _; rw [beq_nil, decide_eq_false h2]; rfl
      · show (some (!(b.toList == (⟨#[]⟩ : ByteArray).toList), b) : Option (Bool × ByteArray)) = _; rw [beq_nil, decide_eq_false h2]; rfl

theorem intCmp_ok (a b : Bool × ByteArray) (ha : Int_ a) (hb : Int_ b) : Evt (fun k => exact_IntCmp k a b) (cmp (iv a) (iv b)) := by
  obtain ⟨s, x⟩ := a
  obtain ⟨t, y⟩ := b
  have hx := nv_nonneg x
  have hy := nv_nonneg y
  have hc := natCmp_ok x y ha.1 hb.1
  have hc' := natCmp_ok y x hb.1 ha.1
  cases s <;> cases t
  · exact Evt.of_eq (Evt.bind (g := fun k t2 => some t2) hc Evt.pure) (fun k => rfl)
  · have := nat_pos (hb.2 rfl)
    simp only at this
    have e : cmp (iv (false, x)) (iv (true, y)) = 1 := by
      simp only [iv, if_true, Bool.false_eq_true, if_false]
      rw [cmp, if_neg (by omega), if_pos (by omega)]
    rw [e]; exact Evt.of_eq Evt.pure (fun k => rfl)
  · have := nat_pos (ha.2 rfl)
    simp only at this
    have e : cmp (iv (true, x)) (iv (false, y)) = -1 := by
      simp only [iv, if_true, Bool.false_eq_true, if_false]
      rw [cmp, if_pos (by omega)]
    rw [e]; exact Evt.of_eq Evt.pure (fun k => rfl)
  · have e : cmp (iv (true, x)) (iv (true, y)) = cmp (nv y) (nv x) := by
      simp only [iv, if_true]
      simp only [cmp]; split <;> split <;> (try split) <;> (try split) <;> omega
    rw [e]
    exact Evt.of_eq (Evt.bind (g := fun k t2 => some t2) hc' Evt.pure) (fun k => rfl)

theorem sign_ok (a : Bool × ByteArray) (ha : Int_ a) : galoisref02_Sign a = some (cmp (iv a) 0) := by
  obtain ⟨s, x⟩ := a
  have hx := nv_nonneg x
  cases s with
  | true =>
    have := nat_pos (ha.2 rfl)
    simp only at this
    simp only [galoisref02_Sign, iv, cond_true, if_true]
    rw [cmp, if_pos (by omega)]
  | false =>
    simp only [galoisref02_Sign, iv, cond_false, Bool.false_eq_true, if_false, beq_nil]
    by_cases h : nv x = 0
    · rw [bp ((nat_ne ha.1).2 h), h]; rfl
    · rw [bn (fun e => h ((nat_ne ha.1).1 e)), cmp, if_neg (by omega), if_pos (by omega)]

theorem rintCmp_ok (a b : Bool × ByteArray) (ha : Int_ a) (hb : Int_ b) : Evt (fun k => galoisref02_Compare k a b) (cmp (iv a) (iv b)) := by
  have hx := nv_nonneg a.2
  have hy := nv_nonneg b.2
  have hc := rcmp_ok a.2 b.2 ha.1 hb.1
  have hc' := rcmp_ok b.2 a.2 hb.1 ha.1
  have hva : iv a = nv a.2 ∨ (iv a = - nv a.2 ∧ iv a < 0) := by
    unfold iv
    cases h : a.1 with
    | false => left; rfl
    | true => right; have := nat_pos (ha.2 h); exact ⟨rfl, by simp; omega⟩
  have hvb : iv b = nv b.2 ∨ (iv b = - nv b.2 ∧ iv b < 0) := by
    unfold iv
    cases h : b.1 with
    | false => left; rfl
    | true => right; have := nat_pos (hb.2 h); exact ⟨rfl, by simp; omega⟩
  unfold galoisref02_Compare
  simp only [sign_ok a ha, sign_ok b hb, Option.bind_some]
  by_cases h1 : cmp (iv a) 0 < cmp (iv b) 0
  · have e : cmp (iv a) (iv b) = -1 := by
      have : iv a < iv b := by unfold cmp at h1; (repeat' split at h1) <;> omega
      rw [cmp, if_pos this]
    rw [e]
    refine Evt.of_eq Evt.pure fun k => by rw [bp h1]
  · by_cases h2 : cmp (iv b) 0 < cmp (iv a) 0
    · have e : cmp (iv a) (iv b) = 1 := by
        have : iv b < iv a := by unfold cmp at h2; (repeat' split at h2) <;> omega
        rw [cmp, if_neg (by omega), if_pos this]
      rw [e]
      refine Evt.of_eq Evt.pure fun k => by rw [bn h1, bp h2]
    · by_cases h3 : cmp (iv a) 0 < 0
      · have ia : iv a < 0 := by unfold cmp at h3; (repeat' split at h3) <;> omega
        have ib : iv b < 0 := by unfold cmp at h1 h2 h3; (repeat' split at h1) <;> (repeat' split at h2) <;> (repeat' split at h3) <;> omega
        have e : cmp (iv a) (iv b) = cmp (nv b.2) (nv a.2) := by
          have e1 : iv a = - nv a.2 := by omega
          have e2 : iv b = - nv b.2 := by omega
          rw [e1, e2]
          simp only [cmp]; split <;> split <;> (try split) <;> (try split) <;> omega
        rw [e]
        refine Evt.of_eq (Evt.bind (g := fun k t3 => some t3) hc' Evt.pure) fun k => by rw [bn h1, bn h2, bp h3]
      · have ia : 0 ≤ iv a := by unfold cmp at h3; (repeat' split at h3) <;> omega
        have ib : 0 ≤ iv b := by unfold cmp at h1 h2 h3; (repeat' split at h1) <;> (repeat' split at h2) <;> (repeat' split at h3) <;> omega
        have e : cmp (iv a) (iv b) = cmp (nv a.2) (nv b.2) := by
          have e1 : iv a = nv a.2 := by omega
          have e2 : iv b = nv b.2 := by omega
          rw [e1, e2]
        rw [e]
        refine Evt.of_eq (Evt.bind (g := fun k t3 => some t3) hc Evt.pure) fun k => by rw [bn h1, bn h2, bn h3]
end Go.Proofs.YthghchjbomlpfaaGreat.Ev

/- Fractions compared; powers of two. -/
namespace Go.Proofs.YthghchjbomlpfaaGreat.Ev
set_option linter.unusedVariables false

def Rat_ (x : (Bool × ByteArray) × ByteArray) : Prop := Int_ x.1 ∧ Nat_ x.2 ∧ nv x.2 ≠ 0
def Small (x : (Bool × ByteArray) × ByteArray) : Prop := x.1.2.size ≤ 1099511627776 ∧ x.2.size ≤ 1099511627776

theorem ratE_zero {x : (Bool × ByteArray) × ByteArray} (h : ratE x = 0) : Rat_ x ∧ x.1.2.size ≤ 1024 ∧ x.2.size ≤ 1024 ∧ Int.gcd (nv x.1.2) (nv x.2) = 1 := by
  unfold ratE at h
  split at h
  · simp at h
  · rename_i h1
    split at h
    · rename_i h2; exact absurd h h2
    · rename_i h2
      split at h
      · rename_i h3; exact absurd h h3
      · rename_i h3
        split at h
        · rename_i h4
          have h2' : intE x.1 = 0 := by simpa using h2
          have h3' : natE x.2 = 0 := by simpa using h3
          obtain ⟨a1, a2⟩ := intE_zero.1 h2'
          obtain ⟨b1, b2⟩ := natE_zero.1 h3'
          exact ⟨⟨a1, b1, fun e => h1 (.inr (.inr ((nat_ne b1).2 e)))⟩, a2, b2, h4⟩
        · simp at h

theorem cmp_mul {a b d : Int} (hd : 0 < d) : cmp (a * d) (b * d) = cmp a b := by
  have h1 : a * d < b * d ↔ a < b := ⟨fun h => Int.lt_of_mul_lt_mul_right h (by omega), fun h => Int.mul_lt_mul_of_pos_right h hd⟩
  have h2 : b * d < a * d ↔ b < a := ⟨fun h => Int.lt_of_mul_lt_mul_right h (by omega), fun h => Int.mul_lt_mul_of_pos_right h hd⟩
  simp only [cmp, h1, h2]

theorem neg_ite (s : Bool) (v d : Int) : (if s = true then - (v * d) else v * d) = (if s = true then - v else v) * d := by
  cases s <;> simp [Int.neg_mul]

theorem ratCmp_ok (x y : (Bool × ByteArray) × ByteArray) (hx : Rat_ x) (hy : Rat_ y) (sx : Small x) (sy : Small y) : Evt (fun k => exact_Cmp k x y) (cmp (iv x.1 * nv y.2) (iv y.1 * nv x.2)) := by
  unfold exact_Cmp
  simp only [beq_nv hx.2.1 hy.2.1]
  by_cases h : nv x.2 = nv y.2
  · have hd := nat_pos hy.2.2
    rw [h, cmp_mul hd]
    refine Evt.of_eq (Evt.bind (g := fun k t1 => some t1) (intCmp_ok x.1 y.1 hx.1 hy.1) Evt.pure) fun k => by rw [bp rfl]
  · obtain ⟨c, hc, c1, c2⟩ := natMul_ok x.1.2 y.2 sx.1 sy.2
    obtain ⟨d, hd, d1, d2⟩ := natMul_ok y.1.2 x.2 sy.1 sx.2
    obtain ⟨m, m1, _, m2, m3, _⟩ := make_ok x.1.1 c c1
    obtain ⟨n, n1, _, n2, n3, _⟩ := make_ok y.1.1 d d1
    have e1 : iv m = iv x.1 * nv y.2 := by rw [m3, c2, neg_ite]; rfl
    have e2 : iv n = iv y.1 * nv x.2 := by rw [n3, d2, neg_ite]; rfl
    rw [← e1, ← e2]
    refine Evt.of_eq (g := fun k => (exact_NatMul k x.1.2 y.2).bind fun t2 => (exact_IntMake x.1.1 t2).bind fun t3 => (exact_NatMul k y.1.2 x.2).bind fun t4 => (exact_IntMake y.1.1 t4).bind fun t5 => (exact_IntCmp k t3 t5).bind fun t6 => some t6) ?_ fun k => by rw [bn h]
    refine Evt.bind (g := fun k t2 => (exact_IntMake x.1.1 t2).bind fun t3 => (exact_NatMul k y.1.2 x.2).bind fun t4 => (exact_IntMake y.1.1 t4).bind fun t5 => (exact_IntCmp k t3 t5).bind fun t6 => some t6) hc ?_
    simp only [m1, Option.bind_some]
    refine Evt.bind (g := fun k t4 => (exact_IntMake y.1.1 t4).bind fun t5 => (exact_IntCmp k m t5).bind fun t6 => some t6) hd ?_
    simp only [n1, Option.bind_some]
    exact Evt.bind (g := fun k t6 => some t6) (intCmp_ok m n m2 n2) Evt.pure

theorem rintMul_ok (a b : Bool × ByteArray) (sa : a.2.size ≤ 1099511627776) (sb : b.2.size ≤ 1099511627776) : Res (fun k => galoisref02_Mul k a b) fun c => Int_ c ∧ iv c = iv a * iv b := by
  unfold galoisref02_Mul
  refine Res.bind (g := fun k t1 => (galoisref02_Make (!(a.1 == b.1)) t1).bind fun t2 => some t2) (rmul_ok a.2 b.2 sa sb) ?_
  rintro c ⟨c1, c2⟩
  obtain ⟨n, _, n1, n2, n3, _⟩ := make_ok (!(a.1 == b.1)) c c1
  simp only [n1, Option.bind_some]
  refine Res.pure ⟨n2, ?_⟩
  rw [n3, c2]
  unfold iv
  cases a.1 <;> cases b.1 <;> simp [Int.neg_mul, Int.mul_neg]

theorem rratCmp_ok (x y : (Bool × ByteArray) × ByteArray) (sx : Small x) (sy : Small y) : Evt (fun k => galoisref03_Compare k x y) (cmp (iv x.1 * nv y.2) (iv y.1 * nv x.2)) := by
  unfold galoisref03_Compare
  simp only [galoisref03_denominator, Option.bind_some]
  obtain ⟨c, hc, c1, c2⟩ := rintMul_ok x.1 (false, y.2) sx.1 sy.2
  obtain ⟨d, hd, d1, d2⟩ := rintMul_ok y.1 (false, x.2) sy.1 sx.2
  have e1 : iv c = iv x.1 * nv y.2 := by rw [c2]; simp [iv]
  have e2 : iv d = iv y.1 * nv x.2 := by rw [d2]; simp [iv]
  rw [← e1, ← e2]
  refine Evt.bind (g := fun k t2 => (galoisref02_Mul k y.1 (false, x.2)).bind fun t4 => (galoisref02_Compare k t2 t4).bind fun t5 => some t5) hc ?_
  refine Evt.bind (g := fun k t4 => (galoisref02_Compare k c t4).bind fun t5 => some t5) hd ?_
  exact Evt.bind (g := fun k t5 => some t5) (rintCmp_ok c d c1 d1) Evt.pure

/-! ### Powers of two -/
def pow2B (c : Nat) : Bool := decide (IntKind.wrap .u8 (((BitVec.ofInt 8 ((c : Nat) : Int) &&& BitVec.ofInt 8 (IntKind.wrap .u8 (((c : Nat) : Int) - 1))).toNat : Nat) : Int) = 0)
theorem pow2_all : ∀ c : Fin 256, c.val ≠ 0 → pow2B c.val = decide (c.val = 2 ^ (bitLen c.val - 1)) := by decide +kernel
theorem bit8_all : ∀ c : Fin 256, c.val ≠ 0 → 1 ≤ bitLen c.val ∧ bitLen c.val ≤ 8 ∧ (2 ^ (bitLen c.val - 1)) < 256 := by decide +kernel

def dy (l : List UInt8) : Bool := match l with
  | [] => true
  | x :: l => pow2B x.toNat && l.all (· == 0)

theorem drop_getD {α : Type} (l : List α) (z : α) (i : Nat) (hi : i < l.length) : l.drop i = l.getD i z :: l.drop (i + 1) := by
  rw [List.drop_eq_getElem_cons hi]
  simp [List.getD, hi]

theorem rdy_loop (x : (Bool × ByteArray) × ByteArray) (hs : x.2.size ≤ 1099511627776) : ∀ (d i : Nat), i + d = x.2.size → 1 ≤ i → Evt (fun n => galoisref19_Dyadic.l0 n i x) ((x.2.data.toList.drop i).all (· == 0))
  | 0, i, hd, hi => by
    have hsz := size_len x.2
    rw [List.drop_of_length_le (by omega)]
    refine Evt.succ (fun n => ?_) Evt.pure
    simp only [galoisref19_Dyadic.l0, galoisref19_Dyadic.b0]
    rw [bn (by omega)]
    rfl
  | d + 1, i, hd, hi => by
    have hsz := size_len x.2
    have e1 : IntKind.wrap .i64 ((i : Int) + 1) = ((i + 1 : Nat) : Int) := by rw [wi _ (by omega) (by omega)]; omega
    have hdr : x.2.data.toList.drop i = x.2.data.toList.getD i 0 :: x.2.data.toList.drop (i + 1) := drop_getD _ _ _ (by omega)
    rw [hdr, List.all_cons]
    by_cases hz : x.2.data.toList.getD i 0 = 0
    · have ih := rdy_loop x hs d (i + 1) (by omega) (by omega)
      rw [hz]
      simp only [beq_self_eq_true, Bool.true_and]
      refine Evt.succ (fun n => ?_) ih
      simp only [galoisref19_Dyadic.l0, galoisref19_Dyadic.b0, Int.toNat_natCast, e1]
      rw [bp (by omega), if_pos (by omega), bp (by omega), bnp ((head_zero _).2 hz), bn (by omega)]
    · have : (x.2.data.toList.getD i 0 == 0) = false := beq_eq_false_iff_ne.2 hz
      rw [this, Bool.false_and]
      refine Evt.succ (fun n => ?_) Evt.pure
      simp only [galoisref19_Dyadic.l0, galoisref19_Dyadic.b0, Int.toNat_natCast, e1]
      rw [bp (by omega), if_pos (by omega), bp (by omega), bnn (fun h => hz ((head_zero _).1 h))]

theorem rdy_ok (x : (Bool × ByteArray) × ByteArray) (hs : x.2.size ≤ 1099511627776) : Evt (fun k => galoisref19_Dyadic k x) (dy x.2.data.toList) := by
  have hsz := size_len x.2
  cases hl : x.2.data.toList with
  | nil =>
    rw [hl] at hsz
    simp only [List.length_nil] at hsz
    refine Evt.succ (g := fun _ => some true) (fun n => ?_) Evt.pure
    simp only [galoisref19_Dyadic, galoisref19_Dyadic.top, galoisref19_Dyadic.l0, galoisref19_Dyadic.b0]
    rw [bn (by omega)]
  | cons c l =>
    rw [hl] at hsz
    simp only [List.length_cons] at hsz
    have e1 : IntKind.wrap .i64 ((0 : Int) + 1) = ((1 : Nat) : Int) := by rw [wi _ (by omega) (by omega)]; omega
    have hg : x.2.data.toList.getD (Int.toNat 0) 0 = c := by rw [hl]; rfl
    show Evt (fun k => galoisref19_Dyadic k x) (pow2B c.toNat && l.all (· == 0))
    by_cases hp : pow2B c.toNat = true
    · have h1 := rdy_loop x hs l.length 1 (by omega) (by omega)
      rw [hl] at h1
      rw [hp, Bool.true_and]
      refine Evt.succ (fun n => ?_) h1
      simp only [galoisref19_Dyadic, galoisref19_Dyadic.top, galoisref19_Dyadic.l0, galoisref19_Dyadic.b0, hg, e1]
      have hp' := of_decide_eq_true hp
      rw [bp (by omega), if_pos (by omega), bn (by omega), bp trivial, bnp hp']
    · have hp2 : pow2B c.toNat = false := by simpa using hp
      rw [hp2, Bool.false_and]
      refine Evt.succ (fun n => ?_) Evt.pure
      simp only [galoisref19_Dyadic, galoisref19_Dyadic.top, galoisref19_Dyadic.l0, galoisref19_Dyadic.b0, hg, e1]
      have hp' := of_decide_eq_false hp2
      rw [bp (by omega), if_pos (by omega), bn (by omega), bp trivial, bnn hp']

def len8T (T : ByteArray) (a0 : Int) : Option Int :=
  if 0 ≤ a0 ∧ a0 < (T.size : Int) then (some (IntKind.wrap .i64 ((((List.getD T.data.toList (Int.toNat a0) 0).toNat : Nat) : Int)))) else none
set_option maxRecDepth 100000 in
theorem len8_eq (a0 : Int) : bits_Len8 a0 = len8T TAB a0 := rfl
theorem len8_ok (c : Nat) (h : c < 256) : bits_Len8 c = some ((bitLen c : Nat) : Int) := by
  have tsz := tab_size
  have := bitLen_le c 8 h
  rw [len8_eq, len8T, if_pos (by omega), Int.toNat_natCast, tab_get c h, wi _ (by omega) (by omega)]

theorem dyadic_ok (x : (Bool × ByteArray) × ByteArray) (hs : x.2.size ≤ 1099511627776) (hx : Nat_ x.2) (h0 : nv x.2 ≠ 0) : enclosure_dyadic x = some (dy x.2.data.toList) := by
  have hsz := size_len x.2
  have hne : x.2.data.toList ≠ [] := fun e => h0 ((nat_ne hx).1 e)
  cases hl : x.2.data.toList with
  | nil => exact absurd hl hne
  | cons c l =>
    rw [hl] at hsz
    simp only [List.length_cons] at hsz
    have hc0 : c ≠ 0 := fun e => by apply hx; rw [hl, e]; rfl
    have hc : c.toNat ≠ 0 := fun e => hc0 (UInt8.toNat_inj.1 (show c.toNat = (0 : UInt8).toNat from e))
    have hc256 : c.toNat < 256 := by have := u8_lt c; omega
    obtain ⟨b1, b2, b3⟩ := bit8_all ⟨c.toNat, hc256⟩ hc
    simp only at b1 b2 b3
    have hbits : exact_NatBits x.2 = some (((8 * l.length + bitLen c.toNat : Nat)) : Int) := by
      unfold exact_NatBits
      rw [beq_nil, decide_eq_false hne, cond_false, if_pos (by omega), hl, List.getD_cons_zero, len8_ok _ hc256, Option.bind_some,
        wi ((x.2.size : Int) - 1) (by omega) (by omega), wi (8 * ((x.2.size : Int) - 1)) (by omega) (by omega), wi _ (by omega) (by omega)]
      exact congrArg some (by omega)
    have htwo : exact_NatTwo (((8 * l.length + bitLen c.toNat - 1 : Nat)) : Int) = some (strOf ((2 : Int) ^ (bitLen c.toNat - 1) :: List.replicate l.length 0)) := by
      unfold exact_NatTwo
      have e1 : Int.tdiv (((8 * l.length + bitLen c.toNat - 1 : Nat)) : Int) 8 = (l.length : Int) := by rw [td _ _ (by omega)]; omega
      have e2 : Int.tmod (((8 * l.length + bitLen c.toNat - 1 : Nat)) : Int) 8 = ((bitLen c.toNat - 1 : Nat) : Int) := by rw [tm _ _ (by omega)]; omega
      have e3 : IntKind.wrap .i64 (l.length : Int) = (l.length : Int) := wi _ (by omega) (by omega)
      have e4 : IntKind.wrap .i64 ((l.length : Int) + 1) = ((l.length + 1 : Nat) : Int) := by rw [wi _ (by omega) (by omega)]; omega
      have m1 : min (bitLen c.toNat - 1) 8 = bitLen c.toNat - 1 := by omega
      have e5 : IntKind.wrap .u8 (1 * 2 ^ (bitLen c.toNat - 1)) = 2 ^ (bitLen c.toNat - 1) := by
        have e : ((2 ^ (bitLen c.toNat - 1) : Nat) : Int) = 2 ^ (bitLen c.toNat - 1) := by push_cast; rfl
        have hpos : (0 : Int) < 2 ^ (bitLen c.toNat - 1) := Int.pow_pos (by omega)
        have hlt : (2 : Int) ^ (bitLen c.toNat - 1) < 256 := by rw [← e]; exact Int.ofNat_lt.2 b3
        rw [Int.one_mul, wb, Int.emod_eq_of_lt (by omega) (by omega)]
      simp only [e1, e2, e3, e4, Int.toNat_natCast, m1, e5, List.length_replicate]
      rw [if_pos (by omega), if_pos (by omega), if_neg (by omega), if_pos (by omega)]
      rfl
    unfold enclosure_dyadic
    rw [hbits, Option.bind_some, wi _ (by omega) (by omega), show (((8 * l.length + bitLen c.toNat : Nat) : Int) - 1) = ((8 * l.length + bitLen c.toNat - 1 : Nat) : Int) by omega, htwo, Option.bind_some, beq_bytes, hl]
    congr 1
    -- byte by byte
    have hd : (strOf ((2 : Int) ^ (bitLen c.toNat - 1) :: List.replicate l.length 0)).data.toList = UInt8.ofNat (2 ^ (bitLen c.toNat - 1)) :: List.replicate l.length 0 := by
      have e : ((2 : Int) ^ (bitLen c.toNat - 1)).toNat = 2 ^ (bitLen c.toNat - 1) := by
        have e : ((2 ^ (bitLen c.toNat - 1) : Nat) : Int) = 2 ^ (bitLen c.toNat - 1) := by push_cast; rfl
        rw [← e]; exact Int.toNat_natCast _
      simp [strOf, e]
    rw [hd]
    show _ = (pow2B c.toNat && l.all (· == 0))
    have hpw := pow2_all ⟨c.toNat, hc256⟩ hc
    simp only at hpw
    rw [hpw]
    have hfst : UInt8.ofNat (2 ^ (bitLen c.toNat - 1)) = c ↔ c.toNat = 2 ^ (bitLen c.toNat - 1) := by
      rw [← UInt8.toNat_inj, UInt8.toNat_ofNat', Nat.mod_eq_of_lt (by omega)]
      exact eq_comm
    have hall : List.replicate l.length 0 = l ↔ l.all (· == 0) = true := by
      rw [List.all_eq_true]
      constructor
      · intro h z hz
        rw [← h] at hz
        simp [List.eq_of_mem_replicate hz]
      · intro h
        exact (List.eq_replicate_iff.2 ⟨rfl, fun z hz => by simpa using h z hz⟩).symm
    by_cases h1 : c.toNat = 2 ^ (bitLen c.toNat - 1)
    · rw [decide_eq_true h1, Bool.true_and]
      cases h2 : l.all (· == 0)
      · apply decide_eq_false
        intro h
        have := hall.1 (List.cons.inj h).2
        rw [h2] at this; simp at this
      · apply decide_eq_true
        rw [hfst.2 h1, hall.2 h2]
    · rw [decide_eq_false h1, Bool.false_and]
      apply decide_eq_false
      intro h
      exact h1 (hfst.1 (List.cons.inj h).1)
end Go.Proofs.YthghchjbomlpfaaGreat.Ev

/- Checks of intervals and boxes. -/
namespace Go.Proofs.YthghchjbomlpfaaGreat.Ev
set_option linter.unusedVariables false

/-- The first error. -/
def fst2 (a b : Int) : Int := if a = 0 then b else a

theorem first2_ok (a b : Int) : Evt (fun k => enclosure_first k [a, b]) (fst2 a b) := by
  refine ⟨3, fun n hn => ?_⟩
  obtain ⟨m, rfl⟩ : ∃ m, n = m + 1 + 1 + 1 := ⟨n - 3, by omega⟩
  have e1 : IntKind.wrap .i64 ((0 : Int) + 1) = 1 := by rw [wi _ (by omega) (by omega)]; rfl
  have e2 : IntKind.wrap .i64 ((1 : Int) + 1) = 2 := by rw [wi _ (by omega) (by omega)]; rfl
  show enclosure_first.l0 (m + 1 + 1 + 1) (2 : Int) 0 [a, b] = _
  simp only [enclosure_first.l0, enclosure_first.b0, e1, e2, List.length_cons, List.length_nil]
  unfold fst2
  have g0 : List.getD [a, b] (Int.toNat 0) 0 = a := rfl
  have g1 : List.getD [a, b] (Int.toNat 1) 0 = b := rfl
  rw [bp (by omega), if_pos (by omega), g0]
  by_cases ha : a = 0
  · rw [bnp ha, if_pos ha, bp (by omega), if_pos (by omega), g1]
    by_cases hb : b = 0
    · rw [bnp hb, bn (by omega), hb]
    · rw [bnn hb]
  · rw [bnn ha, if_neg ha]

abbrev RatT := (Bool × ByteArray) × ByteArray
abbrev IvT := RatT × RatT

/-- The error of an interval. -/
def chkE (i : IvT) : Int :=
  if ratE i.1 ≠ 0 then ratE i.1 else if ratE i.2 ≠ 0 then ratE i.2 else
    if dy i.1.2.data.toList = true ∧ dy i.2.2.data.toList = true then (if 0 < cmp (iv i.1.1 * nv i.2.2) (iv i.2.1 * nv i.1.2) then 3 else 0) else 1

theorem ratE_rat {x : RatT} (h : ratE x = 0) : Rat_ x ∧ Small x ∧ x.2.size ≤ 1099511627776 := by
  obtain ⟨h1, h2, h3, _⟩ := ratE_zero h
  exact ⟨h1, ⟨by omega, by omega⟩, by omega⟩

theorem check_ok (i : IvT) : Evt (fun k => enclosure_Check k i) (chkE i) := by
  unfold enclosure_Check enclosure_Check.top
  refine Evt.bind (g := fun k t1 => (rational_Check k i.2).bind fun t2 => (enclosure_first k ([t1, t2] : List Int)).bind fun t3 => bif !decide (t3 = 0) then (some t3) else ((enclosure_dyadic i.1).bind fun t4 => bif !t4 then (enclosure_Check.l0 k k true i) else ((enclosure_dyadic i.2).bind fun t6 => enclosure_Check.l0 k k (!t6) i))) (rational_Check_ok i.1) ?_
  refine Evt.bind (g := fun k t2 => (enclosure_first k ([ratE i.1, t2] : List Int)).bind fun t3 => bif !decide (t3 = 0) then (some t3) else ((enclosure_dyadic i.1).bind fun t4 => bif !t4 then (enclosure_Check.l0 k k true i) else ((enclosure_dyadic i.2).bind fun t6 => enclosure_Check.l0 k k (!t6) i))) (rational_Check_ok i.2) ?_
  refine Evt.bind (g := fun k t3 => bif !decide (t3 = 0) then (some t3) else ((enclosure_dyadic i.1).bind fun t4 => bif !t4 then (enclosure_Check.l0 k k true i) else ((enclosure_dyadic i.2).bind fun t6 => enclosure_Check.l0 k k (!t6) i))) (first2_ok (ratE i.1) (ratE i.2)) ?_
  unfold chkE fst2
  by_cases h1 : ratE i.1 = 0
  · rw [if_pos h1, if_neg (by simp [h1])]
    by_cases h2 : ratE i.2 = 0
    · rw [if_neg (by simp [h2])]
      obtain ⟨r1, s1, z1⟩ := ratE_rat h1
      obtain ⟨r2, s2, z2⟩ := ratE_rat h2
      have hf : Evt (fun k => enclosure_Check.l0 k k true i) 1 := by
        refine Evt2.diag (f := fun k n => enclosure_Check.l0 k n true i) (Evt2.succ (g := fun _ _ => some 1) (fun k n => rfl) Evt2.pure)
      have ht : Evt (fun k => enclosure_Check.l0 k k false i) (if 0 < cmp (iv i.1.1 * nv i.2.2) (iv i.2.1 * nv i.1.2) then 3 else 0) := by
        refine Evt2.diag (f := fun k n => enclosure_Check.l0 k n false i) (Evt2.succ (g := fun k _ => (exact_Cmp k i.1 i.2).bind fun t5 => bif decide (0 < t5) then (some 3) else (some 0)) (fun k n => rfl) ?_)
        refine Evt2.call (g := fun _ _ t5 => bif decide (0 < t5) then (some 3) else (some 0)) (ratCmp_ok i.1 i.2 r1 r2 s1 s2) ?_
        by_cases h : 0 < cmp (iv i.1.1 * nv i.2.2) (iv i.2.1 * nv i.1.2)
        · simp only [h, decide_true, cond_true, if_true]; exact Evt2.pure
        · simp only [h, decide_false, cond_false, if_false]; exact Evt2.pure
      simp only [h2, decide_true, Bool.not_true, cond_false, dyadic_ok i.1 z1 r1.2.1 r1.2.2, dyadic_ok i.2 z2 r2.2.1 r2.2.2, Option.bind_some]
      cases d1 : dy i.1.2.data.toList
      · simpa using hf
      · cases d2 : dy i.2.2.data.toList
        · simpa using hf
        · simpa using ht
    · rw [if_pos h2]
      refine Evt.of_eq Evt.pure fun k => by rw [bnn h2]
  · rw [if_neg h1, if_pos h1]
    refine Evt.of_eq Evt.pure fun k => by rw [bnn h1]

theorem rcheckI_ok (i : IvT) : Evt (fun k => galoisref19_Check k i) (chkE i) := by
  unfold galoisref19_Check galoisref19_Check.top
  refine Evt.bind (g := fun k t1 => bif !decide (t1 = 0) then (some t1) else ((galoisref03_Check k i.2).bind fun t2 => bif !decide (t2 = 0) then (some t2) else ((galoisref19_Dyadic k i.1).bind fun t3 => bif !t3 then (galoisref19_Check.l0 k k true i) else ((galoisref19_Dyadic k i.2).bind fun t5 => galoisref19_Check.l0 k k (!t5) i)))) (rcheck_ok i.1) ?_
  unfold chkE
  by_cases h1 : ratE i.1 = 0
  · rw [if_neg (by simp [h1])]
    refine Evt.of_eq (g := fun k => (galoisref03_Check k i.2).bind fun t2 => bif !decide (t2 = 0) then (some t2) else ((galoisref19_Dyadic k i.1).bind fun t3 => bif !t3 then (galoisref19_Check.l0 k k true i) else ((galoisref19_Dyadic k i.2).bind fun t5 => galoisref19_Check.l0 k k (!t5) i))) ?_ (fun k => by rw [bnp h1])
    refine Evt.bind (g := fun k t2 => bif !decide (t2 = 0) then (some t2) else ((galoisref19_Dyadic k i.1).bind fun t3 => bif !t3 then (galoisref19_Check.l0 k k true i) else ((galoisref19_Dyadic k i.2).bind fun t5 => galoisref19_Check.l0 k k (!t5) i))) (rcheck_ok i.2) ?_
    by_cases h2 : ratE i.2 = 0
    · rw [if_neg (by simp [h2])]
      obtain ⟨r1, s1, z1⟩ := ratE_rat h1
      obtain ⟨r2, s2, z2⟩ := ratE_rat h2
      have hf : Evt (fun k => galoisref19_Check.l0 k k true i) 1 := by
        refine Evt2.diag (f := fun k n => galoisref19_Check.l0 k n true i) (Evt2.succ (g := fun _ _ => some 1) (fun k n => rfl) Evt2.pure)
      have ht : Evt (fun k => galoisref19_Check.l0 k k false i) (if 0 < cmp (iv i.1.1 * nv i.2.2) (iv i.2.1 * nv i.1.2) then 3 else 0) := by
        refine Evt2.diag (f := fun k n => galoisref19_Check.l0 k n false i) (Evt2.succ (g := fun k _ => (galoisref03_Compare k i.1 i.2).bind fun t4 => bif decide (0 < t4) then (some 3) else (some 0)) (fun k n => rfl) ?_)
        refine Evt2.call (g := fun _ _ t5 => bif decide (0 < t5) then (some 3) else (some 0)) (rratCmp_ok i.1 i.2 s1 s2) ?_
        by_cases h : 0 < cmp (iv i.1.1 * nv i.2.2) (iv i.2.1 * nv i.1.2)
        · simp only [h, decide_true, cond_true, if_true]; exact Evt2.pure
        · simp only [h, decide_false, cond_false, if_false]; exact Evt2.pure
      simp only [h2, decide_true, Bool.not_true, cond_false]
      refine Evt.bind (g := fun k t3 => bif !t3 then (galoisref19_Check.l0 k k true i) else ((galoisref19_Dyadic k i.2).bind fun t5 => galoisref19_Check.l0 k k (!t5) i)) (rdy_ok i.1 z1) ?_
      cases d1 : dy i.1.2.data.toList
      · simpa using hf
      · refine Evt.of_eq (g := fun k => (galoisref19_Dyadic k i.2).bind fun t5 => galoisref19_Check.l0 k k (!t5) i) ?_ (fun k => rfl)
        refine Evt.bind (g := fun k t5 => galoisref19_Check.l0 k k (!t5) i) (rdy_ok i.2 z2) ?_
        cases d2 : dy i.2.2.data.toList
        · simpa using hf
        · simpa using ht
    · rw [if_pos h2]
      refine Evt.of_eq Evt.pure fun k => by rw [bnn h2]
  · rw [if_pos h1]
    refine Evt.of_eq Evt.pure fun k => by rw [bnn h1]

theorem checkBox_ok (a b : IvT) : Evt (fun k => enclosure_CheckBox k (a, b)) (fst2 (chkE a) (chkE b)) := by
  unfold enclosure_CheckBox
  refine Evt.bind (g := fun k t1 => (enclosure_Check k b).bind fun t2 => (enclosure_first k ([t1, t2] : List Int)).bind fun t3 => some t3) (check_ok a) ?_
  refine Evt.bind (g := fun k t2 => (enclosure_first k ([chkE a, t2] : List Int)).bind fun t3 => some t3) (check_ok b) ?_
  exact Evt.bind (g := fun k t3 => some t3) (first2_ok _ _) Evt.pure

theorem rcheckBox_ok (a b : IvT) : Evt (fun k => galoisref19_CheckBox k (a, b)) (fst2 (chkE a) (chkE b)) := by
  unfold galoisref19_CheckBox fst2
  refine Evt.bind (g := fun k t1 => bif !decide (t1 = 0) then (some t1) else ((galoisref19_Check k b).bind fun t2 => some t2)) (rcheckI_ok a) ?_
  by_cases h1 : chkE a = 0
  · rw [if_pos h1]
    exact Evt.of_eq (Evt.bind (g := fun k t2 => some t2) (rcheckI_ok b) Evt.pure) (fun k => by rw [bnp h1])
  · rw [if_neg h1]
    exact Evt.of_eq Evt.pure (fun k => by rw [bnn h1])
end Go.Proofs.YthghchjbomlpfaaGreat.Ev

namespace Go.Proofs.YthghchjbomlpfaaGreat.Ev
set_option linter.unusedVariables false
set_option maxRecDepth 100000
theorem ctx_ok : CtxOK Tryz.prog ctx := ctxB_ok (by kernel_rfl)
theorem mixed_ok : Tryz.prog.follows .mixedOrders = true := by kernel_rfl
theorem add64.sound {β : Type} : FunOK Tryz.prog ctx 224 (add64.C : Fun β) := add64_ok (fn := Tryz.f224) (by kernel_rfl) (by kernel_rfl) (by kernel_rfl) (by kernel_rfl) (by kernel_rfl) rfl
theorem sub64.sound {β : Type} : FunOK Tryz.prog ctx 232 (sub64.C : Fun β) := sub64_ok (fn := Tryz.f232) (by kernel_rfl) (by kernel_rfl) (by kernel_rfl) (by kernel_rfl) (by kernel_rfl) rfl
end Go.Proofs.YthghchjbomlpfaaGreat.Ev

namespace Go.Proofs.YthghchjbomlpfaaGreat.Ev
set_option linter.unusedVariables false
set_option maxRecDepth 100000
theorem galoisref01_pack.top_eq (L : Labels (ByteArray)) (a0 : List Int) : evTop ctx (galoisref01_pack.orc ) L galoisref01_pack.note Tryz.f209 [.data (.slice (.int .u64)) a0] galoisref01_pack.κ = galoisref01_pack.top (fun x0 l1 l2 => L 0 (mkE 38 0 [(0, .own 0), (3, .own 1), (4, .data (.int .i64) x0)]) (ofList [.arr .ro (.int .u64) l1, .arr .own (.int .u8) l2]) 2) a0 := by
  kernel_rfl
theorem galoisref01_pack.b0_eq (L : Labels (ByteArray)) (x0 : Int) (l1 : List Int) (l2 : List Int) : evLab ctx (galoisref01_pack.orc ) L galoisref01_pack.note Tryz.f209 1 galoisref01_pack.κ 0 (mkE 38 0 [(0, .own 0), (3, .own 1), (4, .data (.int .i64) x0)]) (ofList [.arr .ro (.int .u64) l1, .arr .own (.int .u8) l2]) 2 = galoisref01_pack.b0 (fun x0 x1 l2 l3 => L 1 (mkE 38 0 [(0, .own 0), (3, .own 1), (4, .data (.int .i64) x0), (5, .data (.int .i64) x1)]) (ofList [.arr .ro (.int .u64) l2, .arr .own (.int .u8) l3]) 2) x0 l1 l2 := by
  kernel_rfl
theorem galoisref01_pack.b1_eq (L : Labels (ByteArray)) (x0 : Int) (x1 : Int) (l2 : List Int) (l3 : List Int) : evLab ctx (galoisref01_pack.orc ) L galoisref01_pack.note Tryz.f209 1 galoisref01_pack.κ 1 (mkE 38 0 [(0, .own 0), (3, .own 1), (4, .data (.int .i64) x0), (5, .data (.int .i64) x1)]) (ofList [.arr .ro (.int .u64) l2, .arr .own (.int .u8) l3]) 2 = galoisref01_pack.b1 (fun x0 l1 l2 => L 0 (mkE 38 0 [(0, .own 0), (3, .own 1), (4, .data (.int .i64) x0)]) (ofList [.arr .ro (.int .u64) l1, .arr .own (.int .u8) l2]) 2) (fun x0 x1 l2 l3 => L 1 (mkE 38 0 [(0, .own 0), (3, .own 1), (4, .data (.int .i64) x0), (5, .data (.int .i64) x1)]) (ofList [.arr .ro (.int .u64) l2, .arr .own (.int .u8) l3]) 2) x0 x1 l2 l3 := by
  kernel_rfl
theorem galoisref01_pack.run : ∀ n : Nat, (∀ (x0 : Int) (l1 : List Int) (l2 : List Int), evRun ctx (galoisref01_pack.orc ) galoisref01_pack.note Tryz.f209 1 galoisref01_pack.κ n 0 (mkE 38 0 [(0, .own 0), (3, .own 1), (4, .data (.int .i64) x0)]) (ofList [.arr .ro (.int .u64) l1, .arr .own (.int .u8) l2]) 2 = galoisref01_pack.l0 n x0 l1 l2) ∧ (∀ (x0 : Int) (x1 : Int) (l2 : List Int) (l3 : List Int), evRun ctx (galoisref01_pack.orc ) galoisref01_pack.note Tryz.f209 1 galoisref01_pack.κ n 1 (mkE 38 0 [(0, .own 0), (3, .own 1), (4, .data (.int .i64) x0), (5, .data (.int .i64) x1)]) (ofList [.arr .ro (.int .u64) l2, .arr .own (.int .u8) l3]) 2 = galoisref01_pack.l1 n x0 x1 l2 l3) := by
  intro n
  induction n with
  | zero => exact ⟨fun _ _ _ => rfl, fun _ _ _ _ => rfl⟩
  | succ n ih =>
    have ⟨h0, h1⟩ := ih
    refine ⟨?_, ?_⟩
    · intro x0 l1 l2; refine (galoisref01_pack.b0_eq (evRun ctx (galoisref01_pack.orc ) galoisref01_pack.note Tryz.f209 1 galoisref01_pack.κ n) x0 l1 l2).trans ?_
      simp only [h1]
      rfl
    · intro x0 x1 l2 l3; refine (galoisref01_pack.b1_eq (evRun ctx (galoisref01_pack.orc ) galoisref01_pack.note Tryz.f209 1 galoisref01_pack.κ n) x0 x1 l2 l3).trans ?_
      simp only [h0, h1]
      rfl
theorem galoisref01_pack.fn_eq (k : Nat) (a0 : List Int) : evFunc ctx (galoisref01_pack.orc ) k galoisref01_pack.note Tryz.f209 [.data (.slice (.int .u64)) a0] galoisref01_pack.κ = galoisref01_pack k a0 := by
  refine (galoisref01_pack.top_eq (evRun ctx (galoisref01_pack.orc ) galoisref01_pack.note Tryz.f209 1 galoisref01_pack.κ k) a0).trans ?_
  have ⟨h0, h1⟩ := galoisref01_pack.run k
  simp only [h0]
  rfl
theorem galoisref01_pack.sound {β : Type} (k : Nat) : FunOK Tryz.prog ctx 209 (galoisref01_pack.C k : Fun β) := by
  intro xs κ r h
  rcases xs with _ | ⟨a0, _ | ⟨x', l'⟩⟩
  · exact no h
  · obtain ⟨x0, rfl, h1⟩ := A.un_some h
    obtain ⟨res, hr, hf⟩ := bnd h1
    refine ⟨[.data .str res], fun_ok' ctx_ok mixed_ok (f := 209) (fn := Tryz.f209) (n := galoisref01_pack.note) (by kernel_rfl) (by kernel_rfl) (orc_sound (orc_nil)) ((galoisref01_pack.fn_eq k x0).trans hr) ?_, hf⟩
    intro rs' h
    rcases rs' with _ | ⟨r0, _ | ⟨x', l'⟩⟩
    · exact no h
    · obtain ⟨y0, rfl, h0⟩ := R.un_some h
      obtain rfl := inj h0
      rfl
    · exact no h
  · exact no h
theorem galoisref01_Of.eq0 (k : Nat) (L : Labels (ByteArray)) (a0 : Int) : evTop ctx (galoisref01_Of.orc k) L galoisref01_Of.note Tryz.f190 [.data (.int .u64) a0] galoisref01_Of.κ = galoisref01_Of k a0 := by
  kernel_rfl
theorem galoisref01_Of.fn_eq (k : Nat) (a0 : Int) : evFunc ctx (galoisref01_Of.orc k) k galoisref01_Of.note Tryz.f190 [.data (.int .u64) a0] galoisref01_Of.κ = galoisref01_Of k a0 :=
  galoisref01_Of.eq0 k _ a0
theorem galoisref01_Of.sound {β : Type} (k : Nat) : FunOK Tryz.prog ctx 190 (galoisref01_Of.C k : Fun β) := by
  intro xs κ r h
  rcases xs with _ | ⟨a0, _ | ⟨x', l'⟩⟩
  · exact no h
  · obtain ⟨x0, rfl, h1⟩ := A.un_some h
    obtain ⟨res, hr, hf⟩ := bnd h1
    refine ⟨[.data .str res], fun_ok' ctx_ok mixed_ok (f := 190) (fn := Tryz.f190) (n := galoisref01_Of.note) (by kernel_rfl) (by kernel_rfl) (orc_sound (orc_cons (galoisref01_pack.sound k) (orc_nil))) ((galoisref01_Of.fn_eq k x0).trans hr) ?_, hf⟩
    intro rs' h
    rcases rs' with _ | ⟨r0, _ | ⟨x', l'⟩⟩
    · exact no h
    · obtain ⟨y0, rfl, h0⟩ := R.un_some h
      obtain rfl := inj h0
      rfl
    · exact no h
  · exact no h
theorem galoisref02_FromInt.eq0 (k : Nat) (L : Labels ((Bool × ByteArray))) (a0 : Int) : evTop ctx (galoisref02_FromInt.orc k) L galoisref02_FromInt.note Tryz.f140 [.data (.int .i64) a0] galoisref02_FromInt.κ = galoisref02_FromInt k a0 := by
  kernel_rfl
theorem galoisref02_FromInt.fn_eq (k : Nat) (a0 : Int) : evFunc ctx (galoisref02_FromInt.orc k) k galoisref02_FromInt.note Tryz.f140 [.data (.int .i64) a0] galoisref02_FromInt.κ = galoisref02_FromInt k a0 :=
  galoisref02_FromInt.eq0 k _ a0
theorem galoisref02_FromInt.sound {β : Type} (k : Nat) : FunOK Tryz.prog ctx 140 (galoisref02_FromInt.C k : Fun β) := by
  intro xs κ r h
  rcases xs with _ | ⟨a0, _ | ⟨x', l'⟩⟩
  · exact no h
  · obtain ⟨x0, rfl, h1⟩ := A.un_some h
    obtain ⟨res, hr, hf⟩ := bnd h1
    refine ⟨[.data (.agg (.pair .bool .str)) res], fun_ok' ctx_ok mixed_ok (f := 140) (fn := Tryz.f140) (n := galoisref02_FromInt.note) (by kernel_rfl) (by kernel_rfl) (orc_sound (orc_cons (galoisref01_Of.sound k) (orc_nil))) ((galoisref02_FromInt.fn_eq k x0).trans hr) ?_, hf⟩
    intro rs' h
    rcases rs' with _ | ⟨r0, _ | ⟨x', l'⟩⟩
    · exact no h
    · obtain ⟨y0, rfl, h0⟩ := R.un_some h
      obtain rfl := inj h0
      rfl
    · exact no h
  · exact no h
theorem galoisref01_trim.top_eq (L : Labels (Nat)) (a0 : List Int) : evTop ctx (galoisref01_trim.orc ) L galoisref01_trim.note Tryz.f227 [.data (.slice (.int .u64)) a0] galoisref01_trim.κ = galoisref01_trim.top (fun n0 l1 => L 0 (mkE 21 0 [(0, .sl 0 0 n0)]) (ofList [.arr .ro (.int .u64) l1]) 1) a0 := by
  kernel_rfl
theorem galoisref01_trim.b0_eq (L : Labels (Nat)) (n0 : Nat) (l1 : List Int) : evLab ctx (galoisref01_trim.orc ) L galoisref01_trim.note Tryz.f227 1 galoisref01_trim.κ 0 (mkE 21 0 [(0, .sl 0 0 n0)]) (ofList [.arr .ro (.int .u64) l1]) 1 = galoisref01_trim.b0 (fun n0 l1 => L 0 (mkE 21 0 [(0, .sl 0 0 n0)]) (ofList [.arr .ro (.int .u64) l1]) 1) n0 l1 := by
  kernel_rfl
theorem galoisref01_trim.run : ∀ n : Nat, (∀ (n0 : Nat) (l1 : List Int), evRun ctx (galoisref01_trim.orc ) galoisref01_trim.note Tryz.f227 1 galoisref01_trim.κ n 0 (mkE 21 0 [(0, .sl 0 0 n0)]) (ofList [.arr .ro (.int .u64) l1]) 1 = galoisref01_trim.l0 n n0 l1) := by
  intro n
  induction n with
  | zero => exact fun _ _ => rfl
  | succ n ih =>
    have h0 := ih
    refine ?_
    · intro n0 l1; refine (galoisref01_trim.b0_eq (evRun ctx (galoisref01_trim.orc ) galoisref01_trim.note Tryz.f227 1 galoisref01_trim.κ n) n0 l1).trans ?_
      simp only [h0]
      rfl
theorem galoisref01_trim.fn_eq (k : Nat) (a0 : List Int) : evFunc ctx (galoisref01_trim.orc ) k galoisref01_trim.note Tryz.f227 [.data (.slice (.int .u64)) a0] galoisref01_trim.κ = galoisref01_trim k a0 := by
  refine (galoisref01_trim.top_eq (evRun ctx (galoisref01_trim.orc ) galoisref01_trim.note Tryz.f227 1 galoisref01_trim.κ k) a0).trans ?_
  have h0 := galoisref01_trim.run k
  simp only [h0]
  rfl
theorem galoisref01_trim.sound {β : Type} (k : Nat) : FunOK Tryz.prog ctx 227 (galoisref01_trim.C k : Fun β) := by
  intro xs κ r h
  rcases xs with _ | ⟨a0, _ | ⟨x', l'⟩⟩
  · exact no h
  · obtain ⟨x0, rfl, h1⟩ := A.un_some h
    obtain ⟨res, hr, hf⟩ := bnd h1
    refine ⟨[.view 0 0 res], fun_ok' ctx_ok mixed_ok (f := 227) (fn := Tryz.f227) (n := galoisref01_trim.note) (by kernel_rfl) (by kernel_rfl) (orc_sound (orc_nil)) ((galoisref01_trim.fn_eq k x0).trans hr) ?_, hf⟩
    intro rs' h
    rcases rs' with _ | ⟨r0, _ | ⟨x', l'⟩⟩
    · exact no h
    · obtain ⟨y0, rfl, h0⟩ := R.unView0_some h
      obtain rfl := inj h0
      rfl
    · exact no h
  · exact no h
theorem galoisref01_limbs.top_eq (k : Nat) (L : Labels ((List Int))) (a0 : ByteArray) : evTop ctx (galoisref01_limbs.orc k) L galoisref01_limbs.note Tryz.f207 [.data .str a0] galoisref01_limbs.κ = galoisref01_limbs.top k (fun x0 x1 l2 => L 0 (mkE 34 0 [(0, .data .str x0), (3, .own 1), (4, .data (.int .i64) x1)]) (ofList [.dead, .arr .own (.int .u64) l2]) 2) a0 := by
  kernel_rfl
theorem galoisref01_limbs.b0_eq (k : Nat) (L : Labels ((List Int))) (x0 : ByteArray) (x1 : Int) (l2 : List Int) : evLab ctx (galoisref01_limbs.orc k) L galoisref01_limbs.note Tryz.f207 1 galoisref01_limbs.κ 0 (mkE 34 0 [(0, .data .str x0), (3, .own 1), (4, .data (.int .i64) x1)]) (ofList [.dead, .arr .own (.int .u64) l2]) 2 = galoisref01_limbs.b0 k (fun x0 x1 x2 x3 l4 => L 1 (mkE 34 0 [(0, .data .str x0), (3, .own 1), (4, .data (.int .i64) x1), (5, .data (.int .u64) x2), (6, .data (.int .i64) x3)]) (ofList [.dead, .arr .own (.int .u64) l4]) 2) x0 x1 l2 := by
  kernel_rfl
theorem galoisref01_limbs.b1_eq (k : Nat) (L : Labels ((List Int))) (x0 : ByteArray) (x1 : Int) (x2 : Int) (x3 : Int) (l4 : List Int) : evLab ctx (galoisref01_limbs.orc k) L galoisref01_limbs.note Tryz.f207 1 galoisref01_limbs.κ 1 (mkE 34 0 [(0, .data .str x0), (3, .own 1), (4, .data (.int .i64) x1), (5, .data (.int .u64) x2), (6, .data (.int .i64) x3)]) (ofList [.dead, .arr .own (.int .u64) l4]) 2 = galoisref01_limbs.b1 k (fun x0 x1 l2 => L 0 (mkE 34 0 [(0, .data .str x0), (3, .own 1), (4, .data (.int .i64) x1)]) (ofList [.dead, .arr .own (.int .u64) l2]) 2) (fun x0 x1 x2 x3 l4 => L 1 (mkE 34 0 [(0, .data .str x0), (3, .own 1), (4, .data (.int .i64) x1), (5, .data (.int .u64) x2), (6, .data (.int .i64) x3)]) (ofList [.dead, .arr .own (.int .u64) l4]) 2) x0 x1 x2 x3 l4 := by
  kernel_rfl
theorem galoisref01_limbs.run (k : Nat) : ∀ n : Nat, (∀ (x0 : ByteArray) (x1 : Int) (l2 : List Int), evRun ctx (galoisref01_limbs.orc k) galoisref01_limbs.note Tryz.f207 1 galoisref01_limbs.κ n 0 (mkE 34 0 [(0, .data .str x0), (3, .own 1), (4, .data (.int .i64) x1)]) (ofList [.dead, .arr .own (.int .u64) l2]) 2 = galoisref01_limbs.l0 k n x0 x1 l2) ∧ (∀ (x0 : ByteArray) (x1 : Int) (x2 : Int) (x3 : Int) (l4 : List Int), evRun ctx (galoisref01_limbs.orc k) galoisref01_limbs.note Tryz.f207 1 galoisref01_limbs.κ n 1 (mkE 34 0 [(0, .data .str x0), (3, .own 1), (4, .data (.int .i64) x1), (5, .data (.int .u64) x2), (6, .data (.int .i64) x3)]) (ofList [.dead, .arr .own (.int .u64) l4]) 2 = galoisref01_limbs.l1 k n x0 x1 x2 x3 l4) := by
  intro n
  induction n with
  | zero => exact ⟨fun _ _ _ => rfl, fun _ _ _ _ _ => rfl⟩
  | succ n ih =>
    have ⟨h0, h1⟩ := ih
    refine ⟨?_, ?_⟩
    · intro x0 x1 l2; refine (galoisref01_limbs.b0_eq k (evRun ctx (galoisref01_limbs.orc k) galoisref01_limbs.note Tryz.f207 1 galoisref01_limbs.κ n) x0 x1 l2).trans ?_
      simp only [h1]
      rfl
    · intro x0 x1 x2 x3 l4; refine (galoisref01_limbs.b1_eq k (evRun ctx (galoisref01_limbs.orc k) galoisref01_limbs.note Tryz.f207 1 galoisref01_limbs.κ n) x0 x1 x2 x3 l4).trans ?_
      simp only [h0, h1]
      rfl
theorem galoisref01_limbs.fn_eq (k : Nat) (a0 : ByteArray) : evFunc ctx (galoisref01_limbs.orc k) k galoisref01_limbs.note Tryz.f207 [.data .str a0] galoisref01_limbs.κ = galoisref01_limbs k a0 := by
  refine (galoisref01_limbs.top_eq k (evRun ctx (galoisref01_limbs.orc k) galoisref01_limbs.note Tryz.f207 1 galoisref01_limbs.κ k) a0).trans ?_
  have ⟨h0, h1⟩ := galoisref01_limbs.run k k
  simp only [h0]
  rfl
theorem galoisref01_limbs.sound {β : Type} (k : Nat) : FunOK Tryz.prog ctx 207 (galoisref01_limbs.C k : Fun β) := by
  intro xs κ r h
  rcases xs with _ | ⟨a0, _ | ⟨x', l'⟩⟩
  · exact no h
  · obtain ⟨x0, rfl, h1⟩ := A.un_some h
    obtain ⟨res, hr, hf⟩ := bnd h1
    refine ⟨[.own (.int .u64) res], fun_ok' ctx_ok mixed_ok (f := 207) (fn := Tryz.f207) (n := galoisref01_limbs.note) (by kernel_rfl) (by kernel_rfl) (orc_sound (orc_cons (galoisref01_trim.sound k) (orc_nil))) ((galoisref01_limbs.fn_eq k x0).trans hr) ?_, hf⟩
    intro rs' h
    rcases rs' with _ | ⟨r0, _ | ⟨x', l'⟩⟩
    · exact no h
    · obtain ⟨y0, rfl, h0⟩ := R.unOwn_some h
      obtain rfl := inj h0
      rfl
    · exact no h
  · exact no h
theorem galoisref01_below.top_eq (k : Nat) (L : Labels (Bool)) (a0 : List Int) (a1 : List Int) : evTop ctx (galoisref01_below.orc k) L galoisref01_below.note Tryz.f208 [.data (.slice (.int .u64)) a0, .data (.slice (.int .u64)) a1] galoisref01_below.κ = galoisref01_below.top k (fun n0 x1 l2 l3 => L 0 (mkE 43 0 [(0, .sl 0 0 n0), (1, .own 1), (5, .data (.int .i64) x1)]) (ofList [.arr .ro (.int .u64) l2, .arr .ro (.int .u64) l3]) 2) a0 a1 := by
  kernel_rfl
theorem galoisref01_below.b0_eq (k : Nat) (L : Labels (Bool)) (n0 : Nat) (x1 : Int) (l2 : List Int) (l3 : List Int) : evLab ctx (galoisref01_below.orc k) L galoisref01_below.note Tryz.f208 2 galoisref01_below.κ 0 (mkE 43 0 [(0, .sl 0 0 n0), (1, .own 1), (5, .data (.int .i64) x1)]) (ofList [.arr .ro (.int .u64) l2, .arr .ro (.int .u64) l3]) 2 = galoisref01_below.b0 k (fun n0 x1 l2 l3 => L 0 (mkE 43 0 [(0, .sl 0 0 n0), (1, .own 1), (5, .data (.int .i64) x1)]) (ofList [.arr .ro (.int .u64) l2, .arr .ro (.int .u64) l3]) 2) n0 x1 l2 l3 := by
  kernel_rfl
theorem galoisref01_below.run (k : Nat) : ∀ n : Nat, (∀ (n0 : Nat) (x1 : Int) (l2 : List Int) (l3 : List Int), evRun ctx (galoisref01_below.orc k) galoisref01_below.note Tryz.f208 2 galoisref01_below.κ n 0 (mkE 43 0 [(0, .sl 0 0 n0), (1, .own 1), (5, .data (.int .i64) x1)]) (ofList [.arr .ro (.int .u64) l2, .arr .ro (.int .u64) l3]) 2 = galoisref01_below.l0 k n n0 x1 l2 l3) := by
  intro n
  induction n with
  | zero => exact fun _ _ _ _ => rfl
  | succ n ih =>
    have h0 := ih
    refine ?_
    · intro n0 x1 l2 l3; refine (galoisref01_below.b0_eq k (evRun ctx (galoisref01_below.orc k) galoisref01_below.note Tryz.f208 2 galoisref01_below.κ n) n0 x1 l2 l3).trans ?_
      simp only [h0]
      rfl
theorem galoisref01_below.fn_eq (k : Nat) (a0 : List Int) (a1 : List Int) : evFunc ctx (galoisref01_below.orc k) k galoisref01_below.note Tryz.f208 [.data (.slice (.int .u64)) a0, .data (.slice (.int .u64)) a1] galoisref01_below.κ = galoisref01_below k a0 a1 := by
  refine (galoisref01_below.top_eq k (evRun ctx (galoisref01_below.orc k) galoisref01_below.note Tryz.f208 2 galoisref01_below.κ k) a0 a1).trans ?_
  have h0 := galoisref01_below.run k k
  simp only [h0]
  rfl
theorem galoisref01_below.sound {β : Type} (k : Nat) : FunOK Tryz.prog ctx 208 (galoisref01_below.C k : Fun β) := by
  intro xs κ r h
  rcases xs with _ | ⟨a0, _ | ⟨a1, _ | ⟨x', l'⟩⟩⟩
  · exact no h
  · exact no h
  · obtain ⟨x0, rfl, h1⟩ := A.un_some h
    obtain ⟨x1, rfl, h2⟩ := A.un_some h1
    obtain ⟨res, hr, hf⟩ := bnd h2
    refine ⟨[.data .bool res], fun_ok' ctx_ok mixed_ok (f := 208) (fn := Tryz.f208) (n := galoisref01_below.note) (by kernel_rfl) (by kernel_rfl) (orc_sound (orc_cons (galoisref01_trim.sound k) (orc_nil))) ((galoisref01_below.fn_eq k x0 x1).trans hr) ?_, hf⟩
    intro rs' h
    rcases rs' with _ | ⟨r0, _ | ⟨x', l'⟩⟩
    · exact no h
    · obtain ⟨y0, rfl, h0⟩ := R.un_some h
      obtain rfl := inj h0
      rfl
    · exact no h
  · exact no h
theorem galoisref01_DivMod.top_eq (k : Nat) (L : Labels (ByteArray × ByteArray)) (a0 : ByteArray) (a1 : ByteArray) : evTop ctx (galoisref01_DivMod.orc k) L galoisref01_DivMod.note Tryz.f171 [.data .str a0, .data .str a1] galoisref01_DivMod.κ = galoisref01_DivMod.top k (fun x0 x1 l2 l3 l4 => L 0 (mkE 148 0 [(7, .own 2), (8, .data (.int .i64) x0), (9, .own 3), (10, .own 4), (11, .data (.int .i64) x1)]) (ofList [.dead, .dead, .arr .own (.int .u64) l2, .arr .own (.int .u64) l3, .arr .own (.int .u64) l4]) 5) a0 a1 := by
  kernel_rfl
theorem galoisref01_DivMod.b0_eq (k : Nat) (L : Labels (ByteArray × ByteArray)) (x0 : Int) (x1 : Int) (l2 : List Int) (l3 : List Int) (l4 : List Int) : evLab ctx (galoisref01_DivMod.orc k) L galoisref01_DivMod.note Tryz.f171 2 galoisref01_DivMod.κ 0 (mkE 148 0 [(7, .own 2), (8, .data (.int .i64) x0), (9, .own 3), (10, .own 4), (11, .data (.int .i64) x1)]) (ofList [.dead, .dead, .arr .own (.int .u64) l2, .arr .own (.int .u64) l3, .arr .own (.int .u64) l4]) 5 = galoisref01_DivMod.b0 k (fun x0 x1 l2 l3 l4 => L 1 (mkE 148 0 [(7, .own 2), (8, .data (.int .i64) x0), (9, .own 3), (10, .own 4), (11, .data (.int .i64) x1)]) (ofList [.dead, .dead, .arr .own (.int .u64) l2, .arr .own (.int .u64) l3, .arr .own (.int .u64) l4]) 5) x0 x1 l2 l3 l4 := by
  kernel_rfl
theorem galoisref01_DivMod.b1_eq (k : Nat) (L : Labels (ByteArray × ByteArray)) (x0 : Int) (x1 : Int) (l2 : List Int) (l3 : List Int) (l4 : List Int) : evLab ctx (galoisref01_DivMod.orc k) L galoisref01_DivMod.note Tryz.f171 2 galoisref01_DivMod.κ 1 (mkE 148 0 [(7, .own 2), (8, .data (.int .i64) x0), (9, .own 3), (10, .own 4), (11, .data (.int .i64) x1)]) (ofList [.dead, .dead, .arr .own (.int .u64) l2, .arr .own (.int .u64) l3, .arr .own (.int .u64) l4]) 5 = galoisref01_DivMod.b1 k (fun x0 x1 l2 l3 l4 => L 0 (mkE 148 0 [(7, .own 2), (8, .data (.int .i64) x0), (9, .own 3), (10, .own 4), (11, .data (.int .i64) x1)]) (ofList [.dead, .dead, .arr .own (.int .u64) l2, .arr .own (.int .u64) l3, .arr .own (.int .u64) l4]) 5) (fun x0 x1 x2 x3 x4 l5 l6 l7 => L 2 (mkE 148 0 [(7, .own 2), (8, .data (.int .i64) x0), (9, .own 3), (10, .own 4), (11, .data (.int .i64) x1), (12, .data (.int .u64) x2), (13, .data (.int .u64) x3), (14, .data (.int .i64) x4)]) (ofList [.dead, .dead, .arr .own (.int .u64) l5, .arr .own (.int .u64) l6, .arr .own (.int .u64) l7]) 5) x0 x1 l2 l3 l4 := by
  kernel_rfl
theorem galoisref01_DivMod.b2_eq (k : Nat) (L : Labels (ByteArray × ByteArray)) (x0 : Int) (x1 : Int) (x2 : Int) (x3 : Int) (x4 : Int) (l5 : List Int) (l6 : List Int) (l7 : List Int) : evLab ctx (galoisref01_DivMod.orc k) L galoisref01_DivMod.note Tryz.f171 2 galoisref01_DivMod.κ 2 (mkE 148 0 [(7, .own 2), (8, .data (.int .i64) x0), (9, .own 3), (10, .own 4), (11, .data (.int .i64) x1), (12, .data (.int .u64) x2), (13, .data (.int .u64) x3), (14, .data (.int .i64) x4)]) (ofList [.dead, .dead, .arr .own (.int .u64) l5, .arr .own (.int .u64) l6, .arr .own (.int .u64) l7]) 5 = galoisref01_DivMod.b2 k (fun x0 x1 l2 l3 l4 => L 1 (mkE 148 0 [(7, .own 2), (8, .data (.int .i64) x0), (9, .own 3), (10, .own 4), (11, .data (.int .i64) x1)]) (ofList [.dead, .dead, .arr .own (.int .u64) l2, .arr .own (.int .u64) l3, .arr .own (.int .u64) l4]) 5) (fun x0 x1 x2 x3 x4 l5 l6 l7 => L 2 (mkE 148 0 [(7, .own 2), (8, .data (.int .i64) x0), (9, .own 3), (10, .own 4), (11, .data (.int .i64) x1), (12, .data (.int .u64) x2), (13, .data (.int .u64) x3), (14, .data (.int .i64) x4)]) (ofList [.dead, .dead, .arr .own (.int .u64) l5, .arr .own (.int .u64) l6, .arr .own (.int .u64) l7]) 5) x0 x1 x2 x3 x4 l5 l6 l7 := by
  kernel_rfl
theorem galoisref01_DivMod.run (k : Nat) : ∀ n : Nat, (∀ (x0 : Int) (x1 : Int) (l2 : List Int) (l3 : List Int) (l4 : List Int), evRun ctx (galoisref01_DivMod.orc k) galoisref01_DivMod.note Tryz.f171 2 galoisref01_DivMod.κ n 0 (mkE 148 0 [(7, .own 2), (8, .data (.int .i64) x0), (9, .own 3), (10, .own 4), (11, .data (.int .i64) x1)]) (ofList [.dead, .dead, .arr .own (.int .u64) l2, .arr .own (.int .u64) l3, .arr .own (.int .u64) l4]) 5 = galoisref01_DivMod.l0 k n x0 x1 l2 l3 l4) ∧ (∀ (x0 : Int) (x1 : Int) (l2 : List Int) (l3 : List Int) (l4 : List Int), evRun ctx (galoisref01_DivMod.orc k) galoisref01_DivMod.note Tryz.f171 2 galoisref01_DivMod.κ n 1 (mkE 148 0 [(7, .own 2), (8, .data (.int .i64) x0), (9, .own 3), (10, .own 4), (11, .data (.int .i64) x1)]) (ofList [.dead, .dead, .arr .own (.int .u64) l2, .arr .own (.int .u64) l3, .arr .own (.int .u64) l4]) 5 = galoisref01_DivMod.l1 k n x0 x1 l2 l3 l4) ∧ (∀ (x0 : Int) (x1 : Int) (x2 : Int) (x3 : Int) (x4 : Int) (l5 : List Int) (l6 : List Int) (l7 : List Int), evRun ctx (galoisref01_DivMod.orc k) galoisref01_DivMod.note Tryz.f171 2 galoisref01_DivMod.κ n 2 (mkE 148 0 [(7, .own 2), (8, .data (.int .i64) x0), (9, .own 3), (10, .own 4), (11, .data (.int .i64) x1), (12, .data (.int .u64) x2), (13, .data (.int .u64) x3), (14, .data (.int .i64) x4)]) (ofList [.dead, .dead, .arr .own (.int .u64) l5, .arr .own (.int .u64) l6, .arr .own (.int .u64) l7]) 5 = galoisref01_DivMod.l2 k n x0 x1 x2 x3 x4 l5 l6 l7) := by
  intro n
  induction n with
  | zero => exact ⟨fun _ _ _ _ _ => rfl, fun _ _ _ _ _ => rfl, fun _ _ _ _ _ _ _ _ => rfl⟩
  | succ n ih =>
    have ⟨h0, h1, h2⟩ := ih
    refine ⟨?_, ?_, ?_⟩
    · intro x0 x1 l2 l3 l4; refine (galoisref01_DivMod.b0_eq k (evRun ctx (galoisref01_DivMod.orc k) galoisref01_DivMod.note Tryz.f171 2 galoisref01_DivMod.κ n) x0 x1 l2 l3 l4).trans ?_
      simp only [h1]
      rfl
    · intro x0 x1 l2 l3 l4; refine (galoisref01_DivMod.b1_eq k (evRun ctx (galoisref01_DivMod.orc k) galoisref01_DivMod.note Tryz.f171 2 galoisref01_DivMod.κ n) x0 x1 l2 l3 l4).trans ?_
      simp only [h0, h2]
      rfl
    · intro x0 x1 x2 x3 x4 l5 l6 l7; refine (galoisref01_DivMod.b2_eq k (evRun ctx (galoisref01_DivMod.orc k) galoisref01_DivMod.note Tryz.f171 2 galoisref01_DivMod.κ n) x0 x1 x2 x3 x4 l5 l6 l7).trans ?_
      simp only [h1, h2]
      rfl
theorem galoisref01_DivMod.fn_eq (k : Nat) (a0 : ByteArray) (a1 : ByteArray) : evFunc ctx (galoisref01_DivMod.orc k) k galoisref01_DivMod.note Tryz.f171 [.data .str a0, .data .str a1] galoisref01_DivMod.κ = galoisref01_DivMod k a0 a1 := by
  refine (galoisref01_DivMod.top_eq k (evRun ctx (galoisref01_DivMod.orc k) galoisref01_DivMod.note Tryz.f171 2 galoisref01_DivMod.κ k) a0 a1).trans ?_
  have ⟨h0, h1, h2⟩ := galoisref01_DivMod.run k k
  simp only [h0]
  rfl
theorem galoisref01_DivMod.sound {β : Type} (k : Nat) : FunOK Tryz.prog ctx 171 (galoisref01_DivMod.C k : Fun β) := by
  intro xs κ r h
  rcases xs with _ | ⟨a0, _ | ⟨a1, _ | ⟨x', l'⟩⟩⟩
  · exact no h
  · exact no h
  · obtain ⟨x0, rfl, h1⟩ := A.un_some h
    obtain ⟨x1, rfl, h2⟩ := A.un_some h1
    obtain ⟨res, hr, hf⟩ := bnd h2
    refine ⟨[.data .str res.1, .data .str res.2], fun_ok' ctx_ok mixed_ok (f := 171) (fn := Tryz.f171) (n := galoisref01_DivMod.note) (by kernel_rfl) (by kernel_rfl) (orc_sound (orc_cons (galoisref01_limbs.sound k) (orc_cons (galoisref01_below.sound k) (orc_cons (galoisref01_pack.sound k) (orc_nil))))) ((galoisref01_DivMod.fn_eq k x0 x1).trans hr) ?_, hf⟩
    intro rs' h
    rcases rs' with _ | ⟨r0, _ | ⟨r1, _ | ⟨x', l'⟩⟩⟩
    · exact no h
    · exact no h
    · obtain ⟨y0, rfl, h0⟩ := R.un_some h
      obtain ⟨y1, rfl, h1⟩ := R.un_some h0
      obtain rfl := inj h1
      rfl
    · exact no h
  · exact no h
theorem galoisref01_Gcd.top_eq (k : Nat) (L : Labels (ByteArray)) (a0 : ByteArray) (a1 : ByteArray) : evTop ctx (galoisref01_Gcd.orc k) L galoisref01_Gcd.note Tryz.f117 [.data .str a0, .data .str a1] galoisref01_Gcd.κ = galoisref01_Gcd.top k (fun x0 x1 => L 0 (mkE 18 0 [(0, .data .str x0), (1, .data .str x1)]) (ofList [.dead, .dead]) 2) a0 a1 := by
  kernel_rfl
theorem galoisref01_Gcd.b0_eq (k : Nat) (L : Labels (ByteArray)) (x0 : ByteArray) (x1 : ByteArray) : evLab ctx (galoisref01_Gcd.orc k) L galoisref01_Gcd.note Tryz.f117 2 galoisref01_Gcd.κ 0 (mkE 18 0 [(0, .data .str x0), (1, .data .str x1)]) (ofList [.dead, .dead]) 2 = galoisref01_Gcd.b0 k (fun x0 x1 => L 0 (mkE 18 0 [(0, .data .str x0), (1, .data .str x1)]) (ofList [.dead, .dead]) 2) x0 x1 := by
  kernel_rfl
theorem galoisref01_Gcd.run (k : Nat) : ∀ n : Nat, (∀ (x0 : ByteArray) (x1 : ByteArray), evRun ctx (galoisref01_Gcd.orc k) galoisref01_Gcd.note Tryz.f117 2 galoisref01_Gcd.κ n 0 (mkE 18 0 [(0, .data .str x0), (1, .data .str x1)]) (ofList [.dead, .dead]) 2 = galoisref01_Gcd.l0 k n x0 x1) := by
  intro n
  induction n with
  | zero => exact fun _ _ => rfl
  | succ n ih =>
    have h0 := ih
    refine ?_
    · intro x0 x1; refine (galoisref01_Gcd.b0_eq k (evRun ctx (galoisref01_Gcd.orc k) galoisref01_Gcd.note Tryz.f117 2 galoisref01_Gcd.κ n) x0 x1).trans ?_
      simp only [h0]
      rfl
theorem galoisref01_Gcd.fn_eq (k : Nat) (a0 : ByteArray) (a1 : ByteArray) : evFunc ctx (galoisref01_Gcd.orc k) k galoisref01_Gcd.note Tryz.f117 [.data .str a0, .data .str a1] galoisref01_Gcd.κ = galoisref01_Gcd k a0 a1 := by
  refine (galoisref01_Gcd.top_eq k (evRun ctx (galoisref01_Gcd.orc k) galoisref01_Gcd.note Tryz.f117 2 galoisref01_Gcd.κ k) a0 a1).trans ?_
  have h0 := galoisref01_Gcd.run k k
  simp only [h0]
  rfl
theorem galoisref01_Gcd.sound {β : Type} (k : Nat) : FunOK Tryz.prog ctx 117 (galoisref01_Gcd.C k : Fun β) := by
  intro xs κ r h
  rcases xs with _ | ⟨a0, _ | ⟨a1, _ | ⟨x', l'⟩⟩⟩
  · exact no h
  · exact no h
  · obtain ⟨x0, rfl, h1⟩ := A.un_some h
    obtain ⟨x1, rfl, h2⟩ := A.un_some h1
    obtain ⟨res, hr, hf⟩ := bnd h2
    refine ⟨[.data .str res], fun_ok' ctx_ok mixed_ok (f := 117) (fn := Tryz.f117) (n := galoisref01_Gcd.note) (by kernel_rfl) (by kernel_rfl) (orc_sound (orc_cons (galoisref01_DivMod.sound k) (orc_nil))) ((galoisref01_Gcd.fn_eq k x0 x1).trans hr) ?_, hf⟩
    intro rs' h
    rcases rs' with _ | ⟨r0, _ | ⟨x', l'⟩⟩
    · exact no h
    · obtain ⟨y0, rfl, h0⟩ := R.un_some h
      obtain rfl := inj h0
      rfl
    · exact no h
  · exact no h
theorem galoisref02_Make.eq0 (L : Labels ((Bool × ByteArray))) (a0 : Bool) (a1 : ByteArray) : evTop ctx (galoisref02_Make.orc ) L galoisref02_Make.note Tryz.f180 [.data .bool a0, .data .str a1] galoisref02_Make.κ = galoisref02_Make a0 a1 := by
  kernel_rfl
theorem galoisref02_Make.fn_eq (a0 : Bool) (a1 : ByteArray) : evFunc ctx (galoisref02_Make.orc ) 0 galoisref02_Make.note Tryz.f180 [.data .bool a0, .data .str a1] galoisref02_Make.κ = galoisref02_Make a0 a1 :=
  galoisref02_Make.eq0 _ a0 a1
theorem galoisref02_Make.sound {β : Type} : FunOK Tryz.prog ctx 180 (galoisref02_Make.C : Fun β) := by
  intro xs κ r h
  rcases xs with _ | ⟨a0, _ | ⟨a1, _ | ⟨x', l'⟩⟩⟩
  · exact no h
  · exact no h
  · unfold galoisref02_Make.C at h
    dsimp only at h
    obtain ⟨x0, rfl, h1⟩ := A.un_some h
    obtain ⟨x1, rfl, h2⟩ := A.un_some h1
    obtain ⟨res, hr, hf⟩ := bnd h2
    refine ⟨[.data (.agg (.pair .bool .str)) res], fun_ok' ctx_ok mixed_ok (f := 180) (fn := Tryz.f180) (n := galoisref02_Make.note) (by kernel_rfl) (by kernel_rfl) (orc_sound (orc_nil)) ((galoisref02_Make.fn_eq x0 x1).trans hr) ?_, hf⟩
    intro rs' h
    rcases rs' with _ | ⟨r0, _ | ⟨x', l'⟩⟩
    · exact no h
    · obtain ⟨y0, rfl, h0⟩ := R.un_some h
      obtain rfl := inj h0
      rfl
    · exact no h
  · exact no h
theorem galoisref03_Make.eq0 (k : Nat) (L : Labels (((Bool × ByteArray) × ByteArray))) (a0 : Bool × ByteArray) (a1 : Bool × ByteArray) : evTop ctx (galoisref03_Make.orc k) L galoisref03_Make.note Tryz.f131 [.data (.agg (.pair .bool .str)) a0, .data (.agg (.pair .bool .str)) a1] galoisref03_Make.κ = galoisref03_Make k a0 a1 := by
  kernel_rfl
theorem galoisref03_Make.fn_eq (k : Nat) (a0 : Bool × ByteArray) (a1 : Bool × ByteArray) : evFunc ctx (galoisref03_Make.orc k) k galoisref03_Make.note Tryz.f131 [.data (.agg (.pair .bool .str)) a0, .data (.agg (.pair .bool .str)) a1] galoisref03_Make.κ = galoisref03_Make k a0 a1 :=
  galoisref03_Make.eq0 k _ a0 a1
theorem galoisref03_Make.sound {β : Type} (k : Nat) : FunOK Tryz.prog ctx 131 (galoisref03_Make.C k : Fun β) := by
  intro xs κ r h
  rcases xs with _ | ⟨a0, _ | ⟨a1, _ | ⟨x', l'⟩⟩⟩
  · exact no h
  · exact no h
  · obtain ⟨x0, rfl, h1⟩ := A.un_some h
    obtain ⟨x1, rfl, h2⟩ := A.un_some h1
    obtain ⟨res, hr, hf⟩ := bnd h2
    refine ⟨[.data (.agg (.pair (.agg (.pair .bool .str)) .str)) res], fun_ok' ctx_ok mixed_ok (f := 131) (fn := Tryz.f131) (n := galoisref03_Make.note) (by kernel_rfl) (by kernel_rfl) (orc_sound (orc_cons (galoisref01_Gcd.sound k) (orc_cons (galoisref01_DivMod.sound k) (orc_cons (galoisref02_Make.sound) (orc_nil))))) ((galoisref03_Make.fn_eq k x0 x1).trans hr) ?_, hf⟩
    intro rs' h
    rcases rs' with _ | ⟨r0, _ | ⟨x', l'⟩⟩
    · exact no h
    · obtain ⟨y0, rfl, h0⟩ := R.un_some h
      obtain rfl := inj h0
      rfl
    · exact no h
  · exact no h
theorem galoisref03_Of.eq0 (k : Nat) (L : Labels (((Bool × ByteArray) × ByteArray))) (a0 : Int) (a1 : Int) : evTop ctx (galoisref03_Of.orc k) L galoisref03_Of.note Tryz.f101 [.data (.int .i64) a0, .data (.int .i64) a1] galoisref03_Of.κ = galoisref03_Of k a0 a1 := by
  kernel_rfl
theorem galoisref03_Of.fn_eq (k : Nat) (a0 : Int) (a1 : Int) : evFunc ctx (galoisref03_Of.orc k) k galoisref03_Of.note Tryz.f101 [.data (.int .i64) a0, .data (.int .i64) a1] galoisref03_Of.κ = galoisref03_Of k a0 a1 :=
  galoisref03_Of.eq0 k _ a0 a1
theorem galoisref03_Of.sound {β : Type} (k : Nat) : FunOK Tryz.prog ctx 101 (galoisref03_Of.C k : Fun β) := by
  intro xs κ r h
  rcases xs with _ | ⟨a0, _ | ⟨a1, _ | ⟨x', l'⟩⟩⟩
  · exact no h
  · exact no h
  · obtain ⟨x0, rfl, h1⟩ := A.un_some h
    obtain ⟨x1, rfl, h2⟩ := A.un_some h1
    obtain ⟨res, hr, hf⟩ := bnd h2
    refine ⟨[.data (.agg (.pair (.agg (.pair .bool .str)) .str)) res], fun_ok' ctx_ok mixed_ok (f := 101) (fn := Tryz.f101) (n := galoisref03_Of.note) (by kernel_rfl) (by kernel_rfl) (orc_sound (orc_cons (galoisref02_FromInt.sound k) (orc_cons (galoisref03_Make.sound k) (orc_nil)))) ((galoisref03_Of.fn_eq k x0 x1).trans hr) ?_, hf⟩
    intro rs' h
    rcases rs' with _ | ⟨r0, _ | ⟨x', l'⟩⟩
    · exact no h
    · obtain ⟨y0, rfl, h0⟩ := R.un_some h
      obtain rfl := inj h0
      rfl
    · exact no h
  · exact no h
theorem natural_Check.top_eq (L : Labels (Int)) (a0 : ByteArray) : evTop ctx (natural_Check.orc ) L natural_Check.note Tryz.f155 [.data .str a0] natural_Check.κ = natural_Check.top (fun x0 x1 => L 0 (mkE 14 0 [(0, .data .str x0), (10, .data .bool x1)]) (ofList [.dead]) 1) a0 := by
  kernel_rfl
theorem natural_Check.b0_eq (L : Labels (Int)) (x0 : ByteArray) (x1 : Bool) : evLab ctx (natural_Check.orc ) L natural_Check.note Tryz.f155 1 natural_Check.κ 0 (mkE 14 0 [(0, .data .str x0), (10, .data .bool x1)]) (ofList [.dead]) 1 = natural_Check.b0 x0 x1 := by
  kernel_rfl
theorem natural_Check.run : ∀ n : Nat, (∀ (x0 : ByteArray) (x1 : Bool), evRun ctx (natural_Check.orc ) natural_Check.note Tryz.f155 1 natural_Check.κ n 0 (mkE 14 0 [(0, .data .str x0), (10, .data .bool x1)]) (ofList [.dead]) 1 = natural_Check.l0 n x0 x1) := by
  intro n
  induction n with
  | zero => exact fun _ _ => rfl
  | succ n ih =>
    have h0 := ih
    refine ?_
    · intro x0 x1; refine (natural_Check.b0_eq (evRun ctx (natural_Check.orc ) natural_Check.note Tryz.f155 1 natural_Check.κ n) x0 x1).trans ?_
      rfl
theorem natural_Check.fn_eq (k : Nat) (a0 : ByteArray) : evFunc ctx (natural_Check.orc ) k natural_Check.note Tryz.f155 [.data .str a0] natural_Check.κ = natural_Check k a0 := by
  refine (natural_Check.top_eq (evRun ctx (natural_Check.orc ) natural_Check.note Tryz.f155 1 natural_Check.κ k) a0).trans ?_
  have h0 := natural_Check.run k
  simp only [h0]
  rfl
theorem natural_Check.sound {β : Type} (k : Nat) : FunOK Tryz.prog ctx 155 (natural_Check.C k : Fun β) := by
  intro xs κ r h
  rcases xs with _ | ⟨a0, _ | ⟨x', l'⟩⟩
  · exact no h
  · obtain ⟨x0, rfl, h1⟩ := A.un_some h
    obtain ⟨res, hr, hf⟩ := bnd h1
    refine ⟨[.data (.int .i64) res], fun_ok' ctx_ok mixed_ok (f := 155) (fn := Tryz.f155) (n := natural_Check.note) (by kernel_rfl) (by kernel_rfl) (orc_sound (orc_nil)) ((natural_Check.fn_eq k x0).trans hr) ?_, hf⟩
    intro rs' h
    rcases rs' with _ | ⟨r0, _ | ⟨x', l'⟩⟩
    · exact no h
    · obtain ⟨y0, rfl, h0⟩ := R.un_some h
      obtain rfl := inj h0
      rfl
    · exact no h
  · exact no h
theorem integer_zero.eq0 (L : Labels ((Bool × ByteArray)))  : evTop ctx (integer_zero.orc ) L integer_zero.note Tryz.f196 [] integer_zero.κ = integer_zero  := by
  kernel_rfl
theorem integer_zero.fn_eq  : evFunc ctx (integer_zero.orc ) 0 integer_zero.note Tryz.f196 [] integer_zero.κ = integer_zero  :=
  integer_zero.eq0 _ 
theorem integer_zero.sound {β : Type} : FunOK Tryz.prog ctx 196 (integer_zero.C : Fun β) := by
  intro xs κ r h
  rcases xs with _ | ⟨x', l'⟩
  · unfold integer_zero.C at h
    dsimp only at h
    obtain ⟨res, hr, hf⟩ := bnd h
    refine ⟨[.data (.agg (.pair .bool .str)) res], fun_ok' ctx_ok mixed_ok (f := 196) (fn := Tryz.f196) (n := integer_zero.note) (by kernel_rfl) (by kernel_rfl) (orc_sound (orc_nil)) ((integer_zero.fn_eq ).trans hr) ?_, hf⟩
    intro rs' h
    rcases rs' with _ | ⟨r0, _ | ⟨x', l'⟩⟩
    · exact no h
    · obtain ⟨y0, rfl, h0⟩ := R.un_some h
      obtain rfl := inj h0
      rfl
    · exact no h
  · exact no h
theorem integer_Check.eq0 (k : Nat) (L : Labels (Int)) (a0 : Bool × ByteArray) : evTop ctx (integer_Check.orc k) L integer_Check.note Tryz.f154 [.data (.agg (.pair .bool .str)) a0] integer_Check.κ = integer_Check k a0 := by
  kernel_rfl
theorem integer_Check.fn_eq (k : Nat) (a0 : Bool × ByteArray) : evFunc ctx (integer_Check.orc k) k integer_Check.note Tryz.f154 [.data (.agg (.pair .bool .str)) a0] integer_Check.κ = integer_Check k a0 :=
  integer_Check.eq0 k _ a0
theorem integer_Check.sound {β : Type} (k : Nat) : FunOK Tryz.prog ctx 154 (integer_Check.C k : Fun β) := by
  intro xs κ r h
  rcases xs with _ | ⟨a0, _ | ⟨x', l'⟩⟩
  · exact no h
  · obtain ⟨x0, rfl, h1⟩ := A.un_some h
    obtain ⟨res, hr, hf⟩ := bnd h1
    refine ⟨[.data (.int .i64) res], fun_ok' ctx_ok mixed_ok (f := 154) (fn := Tryz.f154) (n := integer_Check.note) (by kernel_rfl) (by kernel_rfl) (orc_sound (orc_cons (natural_Check.sound k) (orc_cons (integer_zero.sound) (orc_nil)))) ((integer_Check.fn_eq k x0).trans hr) ?_, hf⟩
    intro rs' h
    rcases rs' with _ | ⟨r0, _ | ⟨x', l'⟩⟩
    · exact no h
    · obtain ⟨y0, rfl, h0⟩ := R.un_some h
      obtain rfl := inj h0
      rfl
    · exact no h
  · exact no h
theorem exact_trim.top_eq (L : Labels (Nat)) (a0 : List Int) : evTop ctx (exact_trim.orc ) L exact_trim.note Tryz.f217 [.data (.slice (.int .u64)) a0] exact_trim.κ = exact_trim.top (fun x0 l1 => L 0 (mkE 21 0 [(0, .own 0), (3, .data (.int .i64) x0)]) (ofList [.arr .ro (.int .u64) l1]) 1) a0 := by
  kernel_rfl
theorem exact_trim.b0_eq (L : Labels (Nat)) (x0 : Int) (l1 : List Int) : evLab ctx (exact_trim.orc ) L exact_trim.note Tryz.f217 1 exact_trim.κ 0 (mkE 21 0 [(0, .own 0), (3, .data (.int .i64) x0)]) (ofList [.arr .ro (.int .u64) l1]) 1 = exact_trim.b0 (fun x0 l1 => L 0 (mkE 21 0 [(0, .own 0), (3, .data (.int .i64) x0)]) (ofList [.arr .ro (.int .u64) l1]) 1) x0 l1 := by
  kernel_rfl
theorem exact_trim.run : ∀ n : Nat, (∀ (x0 : Int) (l1 : List Int), evRun ctx (exact_trim.orc ) exact_trim.note Tryz.f217 1 exact_trim.κ n 0 (mkE 21 0 [(0, .own 0), (3, .data (.int .i64) x0)]) (ofList [.arr .ro (.int .u64) l1]) 1 = exact_trim.l0 n x0 l1) := by
  intro n
  induction n with
  | zero => exact fun _ _ => rfl
  | succ n ih =>
    have h0 := ih
    refine ?_
    · intro x0 l1; refine (exact_trim.b0_eq (evRun ctx (exact_trim.orc ) exact_trim.note Tryz.f217 1 exact_trim.κ n) x0 l1).trans ?_
      simp only [h0]
      rfl
theorem exact_trim.fn_eq (k : Nat) (a0 : List Int) : evFunc ctx (exact_trim.orc ) k exact_trim.note Tryz.f217 [.data (.slice (.int .u64)) a0] exact_trim.κ = exact_trim k a0 := by
  refine (exact_trim.top_eq (evRun ctx (exact_trim.orc ) exact_trim.note Tryz.f217 1 exact_trim.κ k) a0).trans ?_
  have h0 := exact_trim.run k
  simp only [h0]
  rfl
theorem exact_trim.sound {β : Type} (k : Nat) : FunOK Tryz.prog ctx 217 (exact_trim.C k : Fun β) := by
  intro xs κ r h
  rcases xs with _ | ⟨a0, _ | ⟨x', l'⟩⟩
  · exact no h
  · obtain ⟨x0, rfl, h1⟩ := A.un_some h
    obtain ⟨res, hr, hf⟩ := bnd h1
    refine ⟨[.view 0 0 res], fun_ok' ctx_ok mixed_ok (f := 217) (fn := Tryz.f217) (n := exact_trim.note) (by kernel_rfl) (by kernel_rfl) (orc_sound (orc_nil)) ((exact_trim.fn_eq k x0).trans hr) ?_, hf⟩
    intro rs' h
    rcases rs' with _ | ⟨r0, _ | ⟨x', l'⟩⟩
    · exact no h
    · obtain ⟨y0, rfl, h0⟩ := R.unView0_some h
      obtain rfl := inj h0
      rfl
    · exact no h
  · exact no h
theorem exact_words.top_eq (k : Nat) (L : Labels ((List Int))) (a0 : ByteArray) : evTop ctx (exact_words.orc k) L exact_words.note Tryz.f197 [.data .str a0] exact_words.κ = exact_words.top k (fun x0 x1 x2 l3 => L 0 (mkE 39 0 [(0, .data .str x0), (3, .own 1), (12, .data (.int .i64) x1), (13, .data (.int .i64) x2)]) (ofList [.dead, .arr .own (.int .u64) l3]) 2) a0 := by
  kernel_rfl
theorem exact_words.b0_eq (k : Nat) (L : Labels ((List Int))) (x0 : ByteArray) (x1 : Int) (x2 : Int) (l3 : List Int) : evLab ctx (exact_words.orc k) L exact_words.note Tryz.f197 1 exact_words.κ 0 (mkE 39 0 [(0, .data .str x0), (3, .own 1), (12, .data (.int .i64) x1), (13, .data (.int .i64) x2)]) (ofList [.dead, .arr .own (.int .u64) l3]) 2 = exact_words.b0 k (fun x0 x1 x2 l3 => L 0 (mkE 39 0 [(0, .data .str x0), (3, .own 1), (12, .data (.int .i64) x1), (13, .data (.int .i64) x2)]) (ofList [.dead, .arr .own (.int .u64) l3]) 2) x0 x1 x2 l3 := by
  kernel_rfl
theorem exact_words.run (k : Nat) : ∀ n : Nat, (∀ (x0 : ByteArray) (x1 : Int) (x2 : Int) (l3 : List Int), evRun ctx (exact_words.orc k) exact_words.note Tryz.f197 1 exact_words.κ n 0 (mkE 39 0 [(0, .data .str x0), (3, .own 1), (12, .data (.int .i64) x1), (13, .data (.int .i64) x2)]) (ofList [.dead, .arr .own (.int .u64) l3]) 2 = exact_words.l0 k n x0 x1 x2 l3) := by
  intro n
  induction n with
  | zero => exact fun _ _ _ _ => rfl
  | succ n ih =>
    have h0 := ih
    refine ?_
    · intro x0 x1 x2 l3; refine (exact_words.b0_eq k (evRun ctx (exact_words.orc k) exact_words.note Tryz.f197 1 exact_words.κ n) x0 x1 x2 l3).trans ?_
      simp only [h0]
      rfl
theorem exact_words.fn_eq (k : Nat) (a0 : ByteArray) : evFunc ctx (exact_words.orc k) k exact_words.note Tryz.f197 [.data .str a0] exact_words.κ = exact_words k a0 := by
  refine (exact_words.top_eq k (evRun ctx (exact_words.orc k) exact_words.note Tryz.f197 1 exact_words.κ k) a0).trans ?_
  have h0 := exact_words.run k k
  simp only [h0]
  rfl
theorem exact_words.sound {β : Type} (k : Nat) : FunOK Tryz.prog ctx 197 (exact_words.C k : Fun β) := by
  intro xs κ r h
  rcases xs with _ | ⟨a0, _ | ⟨x', l'⟩⟩
  · exact no h
  · obtain ⟨x0, rfl, h1⟩ := A.un_some h
    obtain ⟨res, hr, hf⟩ := bnd h1
    refine ⟨[.own (.int .u64) res], fun_ok' ctx_ok mixed_ok (f := 197) (fn := Tryz.f197) (n := exact_words.note) (by kernel_rfl) (by kernel_rfl) (orc_sound (orc_cons (exact_trim.sound k) (orc_nil))) ((exact_words.fn_eq k x0).trans hr) ?_, hf⟩
    intro rs' h
    rcases rs' with _ | ⟨r0, _ | ⟨x', l'⟩⟩
    · exact no h
    · obtain ⟨y0, rfl, h0⟩ := R.unOwn_some h
      obtain rfl := inj h0
      rfl
    · exact no h
  · exact no h
theorem exact_compareWords.top_eq (L : Labels (Int)) (a0 : List Int) (a1 : List Int) : evTop ctx (exact_compareWords.orc ) L exact_compareWords.note Tryz.f218 [.data (.slice (.int .u64)) a0, .data (.slice (.int .u64)) a1] exact_compareWords.κ = exact_compareWords.top (fun x0 l1 l2 => L 0 (mkE 41 0 [(0, .own 0), (1, .own 1), (5, .data (.int .i64) x0)]) (ofList [.arr .ro (.int .u64) l1, .arr .ro (.int .u64) l2]) 2) a0 a1 := by
  kernel_rfl
theorem exact_compareWords.b0_eq (L : Labels (Int)) (x0 : Int) (l1 : List Int) (l2 : List Int) : evLab ctx (exact_compareWords.orc ) L exact_compareWords.note Tryz.f218 2 exact_compareWords.κ 0 (mkE 41 0 [(0, .own 0), (1, .own 1), (5, .data (.int .i64) x0)]) (ofList [.arr .ro (.int .u64) l1, .arr .ro (.int .u64) l2]) 2 = exact_compareWords.b0 (fun x0 l1 l2 => L 0 (mkE 41 0 [(0, .own 0), (1, .own 1), (5, .data (.int .i64) x0)]) (ofList [.arr .ro (.int .u64) l1, .arr .ro (.int .u64) l2]) 2) x0 l1 l2 := by
  kernel_rfl
theorem exact_compareWords.run : ∀ n : Nat, (∀ (x0 : Int) (l1 : List Int) (l2 : List Int), evRun ctx (exact_compareWords.orc ) exact_compareWords.note Tryz.f218 2 exact_compareWords.κ n 0 (mkE 41 0 [(0, .own 0), (1, .own 1), (5, .data (.int .i64) x0)]) (ofList [.arr .ro (.int .u64) l1, .arr .ro (.int .u64) l2]) 2 = exact_compareWords.l0 n x0 l1 l2) := by
  intro n
  induction n with
  | zero => exact fun _ _ _ => rfl
  | succ n ih =>
    have h0 := ih
    refine ?_
    · intro x0 l1 l2; refine (exact_compareWords.b0_eq (evRun ctx (exact_compareWords.orc ) exact_compareWords.note Tryz.f218 2 exact_compareWords.κ n) x0 l1 l2).trans ?_
      simp only [h0]
      rfl
theorem exact_compareWords.fn_eq (k : Nat) (a0 : List Int) (a1 : List Int) : evFunc ctx (exact_compareWords.orc ) k exact_compareWords.note Tryz.f218 [.data (.slice (.int .u64)) a0, .data (.slice (.int .u64)) a1] exact_compareWords.κ = exact_compareWords k a0 a1 := by
  refine (exact_compareWords.top_eq (evRun ctx (exact_compareWords.orc ) exact_compareWords.note Tryz.f218 2 exact_compareWords.κ k) a0 a1).trans ?_
  have h0 := exact_compareWords.run k
  simp only [h0]
  rfl
theorem exact_compareWords.sound {β : Type} (k : Nat) : FunOK Tryz.prog ctx 218 (exact_compareWords.C k : Fun β) := by
  intro xs κ r h
  rcases xs with _ | ⟨a0, _ | ⟨a1, _ | ⟨x', l'⟩⟩⟩
  · exact no h
  · exact no h
  · obtain ⟨x0, rfl, h1⟩ := A.un_some h
    obtain ⟨x1, rfl, h2⟩ := A.un_some h1
    obtain ⟨res, hr, hf⟩ := bnd h2
    refine ⟨[.data (.int .i64) res], fun_ok' ctx_ok mixed_ok (f := 218) (fn := Tryz.f218) (n := exact_compareWords.note) (by kernel_rfl) (by kernel_rfl) (orc_sound (orc_nil)) ((exact_compareWords.fn_eq k x0 x1).trans hr) ?_, hf⟩
    intro rs' h
    rcases rs' with _ | ⟨r0, _ | ⟨x', l'⟩⟩
    · exact no h
    · obtain ⟨y0, rfl, h0⟩ := R.un_some h
      obtain rfl := inj h0
      rfl
    · exact no h
  · exact no h
theorem bits_Len64.top_eq (L : Labels (Int)) (a0 : Int) : evTop ctx (bits_Len64.orc ) L bits_Len64.note Tryz.f231 [.data (.int .u64) a0] bits_Len64.κ = bits_Len64.top (fun x0 x1 => L 0 (mkE 25 0 [(0, .data (.int .u64) x0), (2, .data (.int .i64) x1)]) (ofList [.dead]) 1) a0 := by
  kernel_rfl
theorem bits_Len64.b0_eq (L : Labels (Int)) (x0 : Int) (x1 : Int) : evLab ctx (bits_Len64.orc ) L bits_Len64.note Tryz.f231 1 bits_Len64.κ 0 (mkE 25 0 [(0, .data (.int .u64) x0), (2, .data (.int .i64) x1)]) (ofList [.dead]) 1 = bits_Len64.b0 x0 x1 := by
  kernel_rfl
theorem bits_Len64.run : ∀ n : Nat, (∀ (x0 : Int) (x1 : Int), evRun ctx (bits_Len64.orc ) bits_Len64.note Tryz.f231 1 bits_Len64.κ n 0 (mkE 25 0 [(0, .data (.int .u64) x0), (2, .data (.int .i64) x1)]) (ofList [.dead]) 1 = bits_Len64.l0 n x0 x1) := by
  intro n
  induction n with
  | zero => exact fun _ _ => rfl
  | succ n ih =>
    have h0 := ih
    refine ?_
    · intro x0 x1; refine (bits_Len64.b0_eq (evRun ctx (bits_Len64.orc ) bits_Len64.note Tryz.f231 1 bits_Len64.κ n) x0 x1).trans ?_
      rfl
theorem bits_Len64.fn_eq (k : Nat) (a0 : Int) : evFunc ctx (bits_Len64.orc ) k bits_Len64.note Tryz.f231 [.data (.int .u64) a0] bits_Len64.κ = bits_Len64 k a0 := by
  refine (bits_Len64.top_eq (evRun ctx (bits_Len64.orc ) bits_Len64.note Tryz.f231 1 bits_Len64.κ k) a0).trans ?_
  have h0 := bits_Len64.run k
  simp only [h0]
  rfl
theorem bits_Len64.sound {β : Type} (k : Nat) : FunOK Tryz.prog ctx 231 (bits_Len64.C k : Fun β) := by
  intro xs κ r h
  rcases xs with _ | ⟨a0, _ | ⟨x', l'⟩⟩
  · exact no h
  · obtain ⟨x0, rfl, h1⟩ := A.un_some h
    obtain ⟨res, hr, hf⟩ := bnd h1
    refine ⟨[.data (.int .i64) res], fun_ok' ctx_ok mixed_ok (f := 231) (fn := Tryz.f231) (n := bits_Len64.note) (by kernel_rfl) (by kernel_rfl) (orc_sound (orc_nil)) ((bits_Len64.fn_eq k x0).trans hr) ?_, hf⟩
    intro rs' h
    rcases rs' with _ | ⟨r0, _ | ⟨x', l'⟩⟩
    · exact no h
    · obtain ⟨y0, rfl, h0⟩ := R.un_some h
      obtain rfl := inj h0
      rfl
    · exact no h
  · exact no h
theorem bits_LeadingZeros64.eq0 (k : Nat) (L : Labels (Int)) (a0 : Int) : evTop ctx (bits_LeadingZeros64.orc k) L bits_LeadingZeros64.note Tryz.f220 [.data (.int .u64) a0] bits_LeadingZeros64.κ = bits_LeadingZeros64 k a0 := by
  kernel_rfl
theorem bits_LeadingZeros64.fn_eq (k : Nat) (a0 : Int) : evFunc ctx (bits_LeadingZeros64.orc k) k bits_LeadingZeros64.note Tryz.f220 [.data (.int .u64) a0] bits_LeadingZeros64.κ = bits_LeadingZeros64 k a0 :=
  bits_LeadingZeros64.eq0 k _ a0
theorem bits_LeadingZeros64.sound {β : Type} (k : Nat) : FunOK Tryz.prog ctx 220 (bits_LeadingZeros64.C k : Fun β) := by
  intro xs κ r h
  rcases xs with _ | ⟨a0, _ | ⟨x', l'⟩⟩
  · exact no h
  · obtain ⟨x0, rfl, h1⟩ := A.un_some h
    obtain ⟨res, hr, hf⟩ := bnd h1
    refine ⟨[.data (.int .i64) res], fun_ok' ctx_ok mixed_ok (f := 220) (fn := Tryz.f220) (n := bits_LeadingZeros64.note) (by kernel_rfl) (by kernel_rfl) (orc_sound (orc_cons (bits_Len64.sound k) (orc_nil))) ((bits_LeadingZeros64.fn_eq k x0).trans hr) ?_, hf⟩
    intro rs' h
    rcases rs' with _ | ⟨r0, _ | ⟨x', l'⟩⟩
    · exact no h
    · obtain ⟨y0, rfl, h0⟩ := R.un_some h
      obtain rfl := inj h0
      rfl
    · exact no h
  · exact no h
theorem bits_Div64.top_eq (k : Nat) (L : Labels (Int × Int)) (a0 : Int) (a1 : Int) (a2 : Int) : evTop ctx (bits_Div64.orc k) L bits_Div64.note Tryz.f219 [.data (.int .u64) a0, .data (.int .u64) a1, .data (.int .u64) a2] bits_Div64.κ = bits_Div64.top k (fun x0 x1 x2 x3 x4 x5 x6 x7 x8 => L 0 (mkE 135 0 [(2, .data (.int .u64) x0), (8, .data (.int .u64) x1), (9, .data (.int .u64) x2), (10, .data (.int .u64) x3), (11, .data (.int .u64) x4), (13, .data (.int .u64) x5), (14, .data (.int .u64) x6), (15, .data (.int .u64) x7), (16, .data (.int .u64) x8)]) (ofList [.dead, .dead, .dead]) 3) a0 a1 a2 := by
  kernel_rfl
theorem bits_Div64.b0_eq (k : Nat) (L : Labels (Int × Int)) (x0 : Int) (x1 : Int) (x2 : Int) (x3 : Int) (x4 : Int) (x5 : Int) (x6 : Int) (x7 : Int) (x8 : Int) : evLab ctx (bits_Div64.orc k) L bits_Div64.note Tryz.f219 3 bits_Div64.κ 0 (mkE 135 0 [(2, .data (.int .u64) x0), (8, .data (.int .u64) x1), (9, .data (.int .u64) x2), (10, .data (.int .u64) x3), (11, .data (.int .u64) x4), (13, .data (.int .u64) x5), (14, .data (.int .u64) x6), (15, .data (.int .u64) x7), (16, .data (.int .u64) x8)]) (ofList [.dead, .dead, .dead]) 3 = bits_Div64.b0 k (fun x0 x1 x2 x3 x4 x5 x6 x7 x8 x9 => L 1 (mkE 135 0 [(2, .data (.int .u64) x0), (8, .data (.int .u64) x1), (9, .data (.int .u64) x2), (10, .data (.int .u64) x3), (11, .data (.int .u64) x4), (13, .data (.int .u64) x5), (14, .data (.int .u64) x6), (15, .data (.int .u64) x7), (16, .data (.int .u64) x8), (78, .data .bool x9)]) (ofList [.dead, .dead, .dead]) 3) x0 x1 x2 x3 x4 x5 x6 x7 x8 := by
  kernel_rfl
theorem bits_Div64.b1_eq (k : Nat) (L : Labels (Int × Int)) (x0 : Int) (x1 : Int) (x2 : Int) (x3 : Int) (x4 : Int) (x5 : Int) (x6 : Int) (x7 : Int) (x8 : Int) (x9 : Bool) : evLab ctx (bits_Div64.orc k) L bits_Div64.note Tryz.f219 3 bits_Div64.κ 1 (mkE 135 0 [(2, .data (.int .u64) x0), (8, .data (.int .u64) x1), (9, .data (.int .u64) x2), (10, .data (.int .u64) x3), (11, .data (.int .u64) x4), (13, .data (.int .u64) x5), (14, .data (.int .u64) x6), (15, .data (.int .u64) x7), (16, .data (.int .u64) x8), (78, .data .bool x9)]) (ofList [.dead, .dead, .dead]) 3 = bits_Div64.b1 k (fun x0 x1 x2 x3 x4 x5 x6 x7 x8 => L 0 (mkE 135 0 [(2, .data (.int .u64) x0), (8, .data (.int .u64) x1), (9, .data (.int .u64) x2), (10, .data (.int .u64) x3), (11, .data (.int .u64) x4), (13, .data (.int .u64) x5), (14, .data (.int .u64) x6), (15, .data (.int .u64) x7), (16, .data (.int .u64) x8)]) (ofList [.dead, .dead, .dead]) 3) (fun x0 x1 x2 x3 x4 x5 x6 x7 => L 2 (mkE 135 0 [(2, .data (.int .u64) x0), (8, .data (.int .u64) x1), (9, .data (.int .u64) x2), (10, .data (.int .u64) x3), (11, .data (.int .u64) x4), (13, .data (.int .u64) x5), (14, .data (.int .u64) x6), (15, .data (.int .u64) x7)]) (ofList [.dead, .dead, .dead]) 3) x0 x1 x2 x3 x4 x5 x6 x7 x8 x9 := by
  kernel_rfl
theorem bits_Div64.b2_eq (k : Nat) (L : Labels (Int × Int)) (x0 : Int) (x1 : Int) (x2 : Int) (x3 : Int) (x4 : Int) (x5 : Int) (x6 : Int) (x7 : Int) : evLab ctx (bits_Div64.orc k) L bits_Div64.note Tryz.f219 3 bits_Div64.κ 2 (mkE 135 0 [(2, .data (.int .u64) x0), (8, .data (.int .u64) x1), (9, .data (.int .u64) x2), (10, .data (.int .u64) x3), (11, .data (.int .u64) x4), (13, .data (.int .u64) x5), (14, .data (.int .u64) x6), (15, .data (.int .u64) x7)]) (ofList [.dead, .dead, .dead]) 3 = bits_Div64.b2 k (fun x0 x1 x2 x3 x4 x5 x6 x7 x8 => L 3 (mkE 135 0 [(2, .data (.int .u64) x0), (8, .data (.int .u64) x1), (9, .data (.int .u64) x2), (10, .data (.int .u64) x3), (14, .data (.int .u64) x4), (15, .data (.int .u64) x5), (16, .data (.int .u64) x6), (17, .data (.int .u64) x7), (18, .data (.int .u64) x8)]) (ofList [.dead, .dead, .dead]) 3) x0 x1 x2 x3 x4 x5 x6 x7 := by
  kernel_rfl
theorem bits_Div64.b3_eq (k : Nat) (L : Labels (Int × Int)) (x0 : Int) (x1 : Int) (x2 : Int) (x3 : Int) (x4 : Int) (x5 : Int) (x6 : Int) (x7 : Int) (x8 : Int) : evLab ctx (bits_Div64.orc k) L bits_Div64.note Tryz.f219 3 bits_Div64.κ 3 (mkE 135 0 [(2, .data (.int .u64) x0), (8, .data (.int .u64) x1), (9, .data (.int .u64) x2), (10, .data (.int .u64) x3), (14, .data (.int .u64) x4), (15, .data (.int .u64) x5), (16, .data (.int .u64) x6), (17, .data (.int .u64) x7), (18, .data (.int .u64) x8)]) (ofList [.dead, .dead, .dead]) 3 = bits_Div64.b3 k (fun x0 x1 x2 x3 x4 x5 x6 x7 x8 x9 => L 4 (mkE 135 0 [(2, .data (.int .u64) x0), (8, .data (.int .u64) x1), (9, .data (.int .u64) x2), (10, .data (.int .u64) x3), (14, .data (.int .u64) x4), (15, .data (.int .u64) x5), (16, .data (.int .u64) x6), (17, .data (.int .u64) x7), (18, .data (.int .u64) x8), (113, .data .bool x9)]) (ofList [.dead, .dead, .dead]) 3) x0 x1 x2 x3 x4 x5 x6 x7 x8 := by
  kernel_rfl
theorem bits_Div64.b4_eq (k : Nat) (L : Labels (Int × Int)) (x0 : Int) (x1 : Int) (x2 : Int) (x3 : Int) (x4 : Int) (x5 : Int) (x6 : Int) (x7 : Int) (x8 : Int) (x9 : Bool) : evLab ctx (bits_Div64.orc k) L bits_Div64.note Tryz.f219 3 bits_Div64.κ 4 (mkE 135 0 [(2, .data (.int .u64) x0), (8, .data (.int .u64) x1), (9, .data (.int .u64) x2), (10, .data (.int .u64) x3), (14, .data (.int .u64) x4), (15, .data (.int .u64) x5), (16, .data (.int .u64) x6), (17, .data (.int .u64) x7), (18, .data (.int .u64) x8), (113, .data .bool x9)]) (ofList [.dead, .dead, .dead]) 3 = bits_Div64.b4 k (fun x0 x1 x2 x3 x4 x5 x6 x7 x8 => L 3 (mkE 135 0 [(2, .data (.int .u64) x0), (8, .data (.int .u64) x1), (9, .data (.int .u64) x2), (10, .data (.int .u64) x3), (14, .data (.int .u64) x4), (15, .data (.int .u64) x5), (16, .data (.int .u64) x6), (17, .data (.int .u64) x7), (18, .data (.int .u64) x8)]) (ofList [.dead, .dead, .dead]) 3) x0 x1 x2 x3 x4 x5 x6 x7 x8 x9 := by
  kernel_rfl
theorem bits_Div64.run (k : Nat) : ∀ n : Nat, (∀ (x0 : Int) (x1 : Int) (x2 : Int) (x3 : Int) (x4 : Int) (x5 : Int) (x6 : Int) (x7 : Int) (x8 : Int), evRun ctx (bits_Div64.orc k) bits_Div64.note Tryz.f219 3 bits_Div64.κ n 0 (mkE 135 0 [(2, .data (.int .u64) x0), (8, .data (.int .u64) x1), (9, .data (.int .u64) x2), (10, .data (.int .u64) x3), (11, .data (.int .u64) x4), (13, .data (.int .u64) x5), (14, .data (.int .u64) x6), (15, .data (.int .u64) x7), (16, .data (.int .u64) x8)]) (ofList [.dead, .dead, .dead]) 3 = bits_Div64.l0 k n x0 x1 x2 x3 x4 x5 x6 x7 x8) ∧ (∀ (x0 : Int) (x1 : Int) (x2 : Int) (x3 : Int) (x4 : Int) (x5 : Int) (x6 : Int) (x7 : Int) (x8 : Int) (x9 : Bool), evRun ctx (bits_Div64.orc k) bits_Div64.note Tryz.f219 3 bits_Div64.κ n 1 (mkE 135 0 [(2, .data (.int .u64) x0), (8, .data (.int .u64) x1), (9, .data (.int .u64) x2), (10, .data (.int .u64) x3), (11, .data (.int .u64) x4), (13, .data (.int .u64) x5), (14, .data (.int .u64) x6), (15, .data (.int .u64) x7), (16, .data (.int .u64) x8), (78, .data .bool x9)]) (ofList [.dead, .dead, .dead]) 3 = bits_Div64.l1 k n x0 x1 x2 x3 x4 x5 x6 x7 x8 x9) ∧ (∀ (x0 : Int) (x1 : Int) (x2 : Int) (x3 : Int) (x4 : Int) (x5 : Int) (x6 : Int) (x7 : Int), evRun ctx (bits_Div64.orc k) bits_Div64.note Tryz.f219 3 bits_Div64.κ n 2 (mkE 135 0 [(2, .data (.int .u64) x0), (8, .data (.int .u64) x1), (9, .data (.int .u64) x2), (10, .data (.int .u64) x3), (11, .data (.int .u64) x4), (13, .data (.int .u64) x5), (14, .data (.int .u64) x6), (15, .data (.int .u64) x7)]) (ofList [.dead, .dead, .dead]) 3 = bits_Div64.l2 k n x0 x1 x2 x3 x4 x5 x6 x7) ∧ (∀ (x0 : Int) (x1 : Int) (x2 : Int) (x3 : Int) (x4 : Int) (x5 : Int) (x6 : Int) (x7 : Int) (x8 : Int), evRun ctx (bits_Div64.orc k) bits_Div64.note Tryz.f219 3 bits_Div64.κ n 3 (mkE 135 0 [(2, .data (.int .u64) x0), (8, .data (.int .u64) x1), (9, .data (.int .u64) x2), (10, .data (.int .u64) x3), (14, .data (.int .u64) x4), (15, .data (.int .u64) x5), (16, .data (.int .u64) x6), (17, .data (.int .u64) x7), (18, .data (.int .u64) x8)]) (ofList [.dead, .dead, .dead]) 3 = bits_Div64.l3 k n x0 x1 x2 x3 x4 x5 x6 x7 x8) ∧ (∀ (x0 : Int) (x1 : Int) (x2 : Int) (x3 : Int) (x4 : Int) (x5 : Int) (x6 : Int) (x7 : Int) (x8 : Int) (x9 : Bool), evRun ctx (bits_Div64.orc k) bits_Div64.note Tryz.f219 3 bits_Div64.κ n 4 (mkE 135 0 [(2, .data (.int .u64) x0), (8, .data (.int .u64) x1), (9, .data (.int .u64) x2), (10, .data (.int .u64) x3), (14, .data (.int .u64) x4), (15, .data (.int .u64) x5), (16, .data (.int .u64) x6), (17, .data (.int .u64) x7), (18, .data (.int .u64) x8), (113, .data .bool x9)]) (ofList [.dead, .dead, .dead]) 3 = bits_Div64.l4 k n x0 x1 x2 x3 x4 x5 x6 x7 x8 x9) := by
  intro n
  induction n with
  | zero => exact ⟨fun _ _ _ _ _ _ _ _ _ => rfl, fun _ _ _ _ _ _ _ _ _ _ => rfl, fun _ _ _ _ _ _ _ _ => rfl, fun _ _ _ _ _ _ _ _ _ => rfl, fun _ _ _ _ _ _ _ _ _ _ => rfl⟩
  | succ n ih =>
    have ⟨h0, h1, h2, h3, h4⟩ := ih
    refine ⟨?_, ?_, ?_, ?_, ?_⟩
    · intro x0 x1 x2 x3 x4 x5 x6 x7 x8; refine (bits_Div64.b0_eq k (evRun ctx (bits_Div64.orc k) bits_Div64.note Tryz.f219 3 bits_Div64.κ n) x0 x1 x2 x3 x4 x5 x6 x7 x8).trans ?_
      simp only [h1]
      rfl
    · intro x0 x1 x2 x3 x4 x5 x6 x7 x8 x9; refine (bits_Div64.b1_eq k (evRun ctx (bits_Div64.orc k) bits_Div64.note Tryz.f219 3 bits_Div64.κ n) x0 x1 x2 x3 x4 x5 x6 x7 x8 x9).trans ?_
      simp only [h0, h2]
      rfl
    · intro x0 x1 x2 x3 x4 x5 x6 x7; refine (bits_Div64.b2_eq k (evRun ctx (bits_Div64.orc k) bits_Div64.note Tryz.f219 3 bits_Div64.κ n) x0 x1 x2 x3 x4 x5 x6 x7).trans ?_
      simp only [h3]
      rfl
    · intro x0 x1 x2 x3 x4 x5 x6 x7 x8; refine (bits_Div64.b3_eq k (evRun ctx (bits_Div64.orc k) bits_Div64.note Tryz.f219 3 bits_Div64.κ n) x0 x1 x2 x3 x4 x5 x6 x7 x8).trans ?_
      simp only [h4]
      rfl
    · intro x0 x1 x2 x3 x4 x5 x6 x7 x8 x9; refine (bits_Div64.b4_eq k (evRun ctx (bits_Div64.orc k) bits_Div64.note Tryz.f219 3 bits_Div64.κ n) x0 x1 x2 x3 x4 x5 x6 x7 x8 x9).trans ?_
      simp only [h3]
      rfl
theorem bits_Div64.fn_eq (k : Nat) (a0 : Int) (a1 : Int) (a2 : Int) : evFunc ctx (bits_Div64.orc k) k bits_Div64.note Tryz.f219 [.data (.int .u64) a0, .data (.int .u64) a1, .data (.int .u64) a2] bits_Div64.κ = bits_Div64 k a0 a1 a2 := by
  refine (bits_Div64.top_eq k (evRun ctx (bits_Div64.orc k) bits_Div64.note Tryz.f219 3 bits_Div64.κ k) a0 a1 a2).trans ?_
  have ⟨h0, h1, h2, h3, h4⟩ := bits_Div64.run k k
  simp only [h0]
  rfl
theorem bits_Div64.sound {β : Type} (k : Nat) : FunOK Tryz.prog ctx 219 (bits_Div64.C k : Fun β) := by
  intro xs κ r h
  rcases xs with _ | ⟨a0, _ | ⟨a1, _ | ⟨a2, _ | ⟨x', l'⟩⟩⟩⟩
  · exact no h
  · exact no h
  · exact no h
  · obtain ⟨x0, rfl, h1⟩ := A.un_some h
    obtain ⟨x1, rfl, h2⟩ := A.un_some h1
    obtain ⟨x2, rfl, h3⟩ := A.un_some h2
    obtain ⟨res, hr, hf⟩ := bnd h3
    refine ⟨[.data (.int .u64) res.1, .data (.int .u64) res.2], fun_ok' ctx_ok mixed_ok (f := 219) (fn := Tryz.f219) (n := bits_Div64.note) (by kernel_rfl) (by kernel_rfl) (orc_sound (orc_cons (bits_LeadingZeros64.sound k) (orc_nil))) ((bits_Div64.fn_eq k x0 x1 x2).trans hr) ?_, hf⟩
    intro rs' h
    rcases rs' with _ | ⟨r0, _ | ⟨r1, _ | ⟨x', l'⟩⟩⟩
    · exact no h
    · exact no h
    · obtain ⟨y0, rfl, h0⟩ := R.un_some h
      obtain ⟨y1, rfl, h1⟩ := R.un_some h0
      obtain rfl := inj h1
      rfl
    · exact no h
  · exact no h
theorem exact_shiftUp.top_eq (L : Labels ((List Int))) (a0 : List Int) (a1 : Int) : evTop ctx (exact_shiftUp.orc ) L exact_shiftUp.note Tryz.f221 [.data (.slice (.int .u64)) a0, .data (.int .i64) a1] exact_shiftUp.κ = exact_shiftUp.top (fun x0 x1 x2 l3 l4 => L 0 (mkE 40 0 [(1, .data (.int .i64) x0), (5, .own 2), (12, .own 0), (13, .data (.int .i64) x1), (14, .data (.int .i64) x2)]) (ofList [.arr .ro (.int .u64) l3, .dead, .arr .own (.int .u64) l4]) 3) a0 a1 := by
  kernel_rfl
theorem exact_shiftUp.b0_eq (L : Labels ((List Int))) (x0 : Int) (x1 : Int) (x2 : Int) (l3 : List Int) (l4 : List Int) : evLab ctx (exact_shiftUp.orc ) L exact_shiftUp.note Tryz.f221 2 exact_shiftUp.κ 0 (mkE 40 0 [(1, .data (.int .i64) x0), (5, .own 2), (12, .own 0), (13, .data (.int .i64) x1), (14, .data (.int .i64) x2)]) (ofList [.arr .ro (.int .u64) l3, .dead, .arr .own (.int .u64) l4]) 3 = exact_shiftUp.b0 (fun x0 x1 x2 l3 l4 => L 0 (mkE 40 0 [(1, .data (.int .i64) x0), (5, .own 2), (12, .own 0), (13, .data (.int .i64) x1), (14, .data (.int .i64) x2)]) (ofList [.arr .ro (.int .u64) l3, .dead, .arr .own (.int .u64) l4]) 3) x0 x1 x2 l3 l4 := by
  kernel_rfl
theorem exact_shiftUp.run : ∀ n : Nat, (∀ (x0 : Int) (x1 : Int) (x2 : Int) (l3 : List Int) (l4 : List Int), evRun ctx (exact_shiftUp.orc ) exact_shiftUp.note Tryz.f221 2 exact_shiftUp.κ n 0 (mkE 40 0 [(1, .data (.int .i64) x0), (5, .own 2), (12, .own 0), (13, .data (.int .i64) x1), (14, .data (.int .i64) x2)]) (ofList [.arr .ro (.int .u64) l3, .dead, .arr .own (.int .u64) l4]) 3 = exact_shiftUp.l0 n x0 x1 x2 l3 l4) := by
  intro n
  induction n with
  | zero => exact fun _ _ _ _ _ => rfl
  | succ n ih =>
    have h0 := ih
    refine ?_
    · intro x0 x1 x2 l3 l4; refine (exact_shiftUp.b0_eq (evRun ctx (exact_shiftUp.orc ) exact_shiftUp.note Tryz.f221 2 exact_shiftUp.κ n) x0 x1 x2 l3 l4).trans ?_
      simp only [h0]
      rfl
theorem exact_shiftUp.fn_eq (k : Nat) (a0 : List Int) (a1 : Int) : evFunc ctx (exact_shiftUp.orc ) k exact_shiftUp.note Tryz.f221 [.data (.slice (.int .u64)) a0, .data (.int .i64) a1] exact_shiftUp.κ = exact_shiftUp k a0 a1 := by
  refine (exact_shiftUp.top_eq (evRun ctx (exact_shiftUp.orc ) exact_shiftUp.note Tryz.f221 2 exact_shiftUp.κ k) a0 a1).trans ?_
  have h0 := exact_shiftUp.run k
  simp only [h0]
  rfl
theorem exact_shiftUp.sound {β : Type} (k : Nat) : FunOK Tryz.prog ctx 221 (exact_shiftUp.C k : Fun β) := by
  intro xs κ r h
  rcases xs with _ | ⟨a0, _ | ⟨a1, _ | ⟨x', l'⟩⟩⟩
  · exact no h
  · exact no h
  · obtain ⟨x0, rfl, h1⟩ := A.un_some h
    obtain ⟨x1, rfl, h2⟩ := A.un_some h1
    obtain ⟨res, hr, hf⟩ := bnd h2
    refine ⟨[.own (.int .u64) res], fun_ok' ctx_ok mixed_ok (f := 221) (fn := Tryz.f221) (n := exact_shiftUp.note) (by kernel_rfl) (by kernel_rfl) (orc_sound (orc_nil)) ((exact_shiftUp.fn_eq k x0 x1).trans hr) ?_, hf⟩
    intro rs' h
    rcases rs' with _ | ⟨r0, _ | ⟨x', l'⟩⟩
    · exact no h
    · obtain ⟨y0, rfl, h0⟩ := R.unOwn_some h
      obtain rfl := inj h0
      rfl
    · exact no h
  · exact no h
theorem bits_Mul64.eq0 (L : Labels (Int × Int)) (a0 : Int) (a1 : Int) : evTop ctx (bits_Mul64.orc ) L bits_Mul64.note Tryz.f223 [.data (.int .u64) a0, .data (.int .u64) a1] bits_Mul64.κ = bits_Mul64 a0 a1 := by
  kernel_rfl
theorem bits_Mul64.fn_eq (a0 : Int) (a1 : Int) : evFunc ctx (bits_Mul64.orc ) 0 bits_Mul64.note Tryz.f223 [.data (.int .u64) a0, .data (.int .u64) a1] bits_Mul64.κ = bits_Mul64 a0 a1 :=
  bits_Mul64.eq0 _ a0 a1
theorem bits_Mul64.sound {β : Type} : FunOK Tryz.prog ctx 223 (bits_Mul64.C : Fun β) := by
  intro xs κ r h
  rcases xs with _ | ⟨a0, _ | ⟨a1, _ | ⟨x', l'⟩⟩⟩
  · exact no h
  · exact no h
  · unfold bits_Mul64.C at h
    dsimp only at h
    obtain ⟨x0, rfl, h1⟩ := A.un_some h
    obtain ⟨x1, rfl, h2⟩ := A.un_some h1
    obtain ⟨res, hr, hf⟩ := bnd h2
    refine ⟨[.data (.int .u64) res.1, .data (.int .u64) res.2], fun_ok' ctx_ok mixed_ok (f := 223) (fn := Tryz.f223) (n := bits_Mul64.note) (by kernel_rfl) (by kernel_rfl) (orc_sound (orc_nil)) ((bits_Mul64.fn_eq x0 x1).trans hr) ?_, hf⟩
    intro rs' h
    rcases rs' with _ | ⟨r0, _ | ⟨r1, _ | ⟨x', l'⟩⟩⟩
    · exact no h
    · exact no h
    · obtain ⟨y0, rfl, h0⟩ := R.un_some h
      obtain ⟨y1, rfl, h1⟩ := R.un_some h0
      obtain rfl := inj h1
      rfl
    · exact no h
  · exact no h
end Go.Proofs.YthghchjbomlpfaaGreat.Ev
