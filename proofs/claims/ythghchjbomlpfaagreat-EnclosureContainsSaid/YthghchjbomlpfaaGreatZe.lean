/- Part 5 of 6 of a proof: an evaluator of the program's code, its soundness, the code's functions as plain Lean functions, plain mathematics. -/
import Derived.Laws.Strings
import Derived.Test.YthghchjbomlpfaaGreatZd
namespace Go.Proofs.YthghchjbomlpfaaGreat.Ev
set_option linter.unusedVariables false

theorem ule {x : Int} (h0 : 0 ≤ x) (h1 : x < 18446744073709551616) : IntKind.wrap .u64 x = x := by rw [wu, Int.emod_eq_of_lt h0 h1]

theorem div_uniq {a y q r : Int} (h : a = q * y + r) (h0 : 0 ≤ r) (h1 : r < y) : a / y = q ∧ a % y = r := by
  have hy : 0 < y := by omega
  have e1 : a / y = q := by
    rw [h, Int.add_comm, Int.add_mul_ediv_right _ _ (by omega), Int.ediv_eq_zero_of_lt h0 h1]; omega
  refine ⟨e1, ?_⟩
  rw [h, Int.add_comm, Int.add_mul_emod_self_right, Int.emod_eq_of_lt h0 h1]

theorem shl_split (lo : Int) (s : Nat) (hs : s ≤ 63) : lo * 2 ^ s = lo / 2 ^ (64 - s) * 18446744073709551616 + lo * 2 ^ s % 18446744073709551616 := by
  have e : (18446744073709551616 : Int) = 2 ^ (64 - s) * 2 ^ s := by rw [← Int.pow_add, show 64 - s + s = 64 by omega]; rfl
  have hp : (0 : Int) < 2 ^ s := Int.pow_pos (by omega)
  have h := Int.emod_add_mul_ediv (lo * 2 ^ s) 18446744073709551616
  have h2 : lo * 2 ^ s / 18446744073709551616 = lo / 2 ^ (64 - s) := by
    rw [e]; exact Int.mul_ediv_mul_of_pos_left _ _ hp
  rw [h2] at h
  omega

theorem div64_ok (hi lo y : Int) (h0 : 0 ≤ hi) (hlt : hi < y) (hl0 : 0 ≤ lo) (hl : lo < 18446744073709551616) (hy : y < 18446744073709551616) :
    Res (fun k => bits_Div64 k hi lo y) fun x => x = ((hi * 18446744073709551616 + lo) / y, (hi * 18446744073709551616 + lo) % y) := by
  by_cases hz : hi = 0
  · subst hz
    refine Res.of_eq (Res.pure rfl) fun k => ?_
    simp only [bits_Div64, bits_Div64.top]
    have h1 : 0 ≤ lo / y := Int.ediv_nonneg hl0 (by omega)
    have h2 : lo / y ≤ lo := Int.ediv_le_self _ hl0
    rw [bn (by omega), bn (by omega), bp trivial, if_neg (by omega), if_neg (by omega), td _ _ hl0, tm _ _ hl0, ule h1 (by omega)]
    simp
  · obtain ⟨Y', rfl⟩ := Int.eq_ofNat_of_zero_le (show 0 ≤ y by omega)
    obtain ⟨s, hs, hlead, hY1, hY2⟩ := lead_ok Y' (by omega) (by omega)
    have hp : (0 : Int) < 2 ^ s := Int.pow_pos (by omega)
    have hYe : ((Y' * 2 ^ s : Nat) : Int) = (Y' : Int) * 2 ^ s := by push_cast; rfl
    generalize hYd : (Y' : Int) * 2 ^ s = Y at *
    -- what the divisor is made of
    have hU0 : hi * 2 ^ s < Y := by rw [← hYd]; exact Int.mul_lt_mul_of_pos_right hlt hp
    have hU1 : 0 ≤ hi * 2 ^ s := Int.mul_nonneg h0 (by omega)
    have hp4 : (0 : Int) < 2 ^ (64 - s) := Int.pow_pos (by omega)
    have hb0 : 0 ≤ lo / 2 ^ (64 - s) := Int.ediv_nonneg hl0 (by omega)
    have e64 : (18446744073709551616 : Int) = 2 ^ s * 2 ^ (64 - s) := by rw [← Int.pow_add, show s + (64 - s) = 64 by omega]; rfl
    have hb1 : lo / 2 ^ (64 - s) < 2 ^ s := by
      rw [Int.ediv_lt_iff_lt_mul hp4, ← e64]; exact hl
    have hor := or_add (hi * 2 ^ s) (lo / 2 ^ (64 - s)) s (by omega) hU1 (by omega) ⟨hi, Int.mul_comm _ _⟩ hb0 hb1
    have hUY : hi * 2 ^ s + lo / 2 ^ (64 - s) < Y := by
      have := Int.mul_le_mul_of_nonneg_right (show hi + 1 ≤ (Y' : Int) by omega) (show (0 : Int) ≤ 2 ^ s by omega)
      rw [hYd, Int.add_mul, Int.one_mul] at this
      omega
    generalize hUd : hi * 2 ^ s + lo / 2 ^ (64 - s) = U at *
    have hsplit := shl_split lo s hs
    have hr0 := Int.emod_nonneg (lo * 2 ^ s) (show (18446744073709551616 : Int) ≠ 0 by omega)
    have hr1 := Int.emod_lt_of_pos (lo * 2 ^ s) (show (0 : Int) < 18446744073709551616 by omega)
    generalize hrd : lo * 2 ^ s % 18446744073709551616 = r at *
    -- both digits
    have hQ1 : QS Y (Y / 4294967296) (Y % 4294967296) U (r / 4294967296) ((U * 4294967296 + r / 4294967296) / Y) ((U * 4294967296 + r / 4294967296) % Y) :=
      ⟨by omega, by omega, by omega, by omega, by omega, by omega, hUY, by omega, by omega, by have := Int.emod_add_mul_ediv (U * 4294967296 + r / 4294967296) Y; rw [Int.mul_comm Y] at this; omega, Int.emod_nonneg _ (by omega), Int.emod_lt_of_pos _ (by omega)⟩
    generalize hq1 : (U * 4294967296 + r / 4294967296) / Y = Q1 at *
    generalize hR1 : (U * 4294967296 + r / 4294967296) % Y = R1 at *
    have hQ2 : QS Y (Y / 4294967296) (Y % 4294967296) R1 (r % 4294967296) ((R1 * 4294967296 + r % 4294967296) / Y) ((R1 * 4294967296 + r % 4294967296) % Y) :=
      ⟨by omega, by omega, by omega, by omega, by omega, hQ1.Rl, hQ1.Rh, by omega, by omega, by have := Int.emod_add_mul_ediv (R1 * 4294967296 + r % 4294967296) Y; rw [Int.mul_comm Y] at this; omega, Int.emod_nonneg _ (by omega), Int.emod_lt_of_pos _ (by omega)⟩
    generalize hq2 : (R1 * 4294967296 + r % 4294967296) / Y = Q2 at *
    generalize hR2 : (R1 * 4294967296 + r % 4294967296) % Y = R2 at *
    have hy1 : 2147483648 ≤ Y / 4294967296 := by omega
    -- a first guess
    have guess : ∀ {V Q R u : Int}, QS Y (Y / 4294967296) (Y % 4294967296) V u Q R → Q ≤ V / (Y / 4294967296) ∧ 0 ≤ V / (Y / 4294967296) ∧ V / (Y / 4294967296) < 18446744073709551616 ∧ V / (Y / 4294967296) * (Y / 4294967296) ≤ V ∧ 0 ≤ V / (Y / 4294967296) * (Y / 4294967296) ∧
        V % (Y / 4294967296) = V - V / (Y / 4294967296) * (Y / 4294967296) ∧ 0 ≤ V % (Y / 4294967296) ∧ V % (Y / 4294967296) < 4294967296 := by
      intro V Q R u h
      have h1 := h.Ul
      have h2 := h.Uh
      have e := Int.emod_add_mul_ediv V (Y / 4294967296)
      rw [Int.mul_comm] at e
      have m0 := Int.emod_nonneg V (show Y / 4294967296 ≠ 0 by omega)
      have m1 := Int.emod_lt_of_pos V (show 0 < Y / 4294967296 by omega)
      have d0 : 0 ≤ V / (Y / 4294967296) := Int.ediv_nonneg h1 (by omega)
      have d1 : V / (Y / 4294967296) ≤ V := Int.ediv_le_self _ h1
      refine ⟨?_, d0, by omega, by omega, Int.mul_nonneg d0 (by omega), by omega, m0, by omega⟩
      rcases Int.lt_or_le (V / (Y / 4294967296)) Q with h3 | h3
      · have h4 := h.down (q := V / (Y / 4294967296) + 1) (r := V - (V / (Y / 4294967296) + 1) * (Y / 4294967296)) rfl (.inr (by
          have h5 : (V / (Y / 4294967296) + 1) * (Y / 4294967296) = V / (Y / 4294967296) * (Y / 4294967296) + Y / 4294967296 := by rw [Int.add_mul, Int.one_mul]
          have h6 : 0 ≤ (V / (Y / 4294967296) + 1) * (Y % 4294967296) := Int.mul_nonneg (by omega) (by omega)
          have h7 := h.uh
          rw [h5]; omega))
        omega
      · exact h3
    have g1 := guess hQ1
    have g2 := guess hQ2
    have hl2 : Res2 (fun k n => bits_Div64.l2 k n Y s (Y / 4294967296) (Y % 4294967296) U (r / 4294967296) (r % 4294967296) Q1) fun x => x = (Q1 * 4294967296 + Q2, R2 / 2 ^ s) := by
      refine Res2.succ (fun k n => ?_) (div64_l3 hQ2 (by omega) s hs Q1 hQ1.Q0 hQ1.Qlt (R1 / (Y / 4294967296) - Q2).toNat (R1 / (Y / 4294967296)) (R1 % (Y / 4294967296)) (by omega) g2.1 g2.2.2.1 g2.2.2.2.2.2.1 g2.2.2.2.2.2.2.1 g2.2.2.2.2.2.2.2)
      simp only [bits_Div64.l2, bits_Div64.b2]
      have a1 := hQ1.eq
      have a2 := hQ1.Rl
      have a3 := hQ1.Rh
      have e21 : IntKind.wrap .u64 (IntKind.wrap .u64 (IntKind.wrap .u64 (U * 4294967296) + r / 4294967296) - IntKind.wrap .u64 (Q1 * Y)) = R1 := by
        simp only [wu]
        generalize Q1 * Y = t at *
        omega
      rw [if_neg (by omega), e21, td _ _ a2, ule g2.2.1 g2.2.2.1, ule g2.2.2.2.2.1 (by have := g2.2.2.2.1; omega), ← g2.2.2.2.2.2.1, ule g2.2.2.2.2.2.2.1 (by have := g2.2.2.2.2.2.2.2; omega)]
    have hl0' := div64_l0 hQ1 (by omega) s (r % 4294967296) _ hl2 (U / (Y / 4294967296) - Q1).toNat (U / (Y / 4294967296)) (U % (Y / 4294967296)) (by omega) g1.1 g1.2.2.1 g1.2.2.2.2.2.1 g1.2.2.2.2.2.2.1 g1.2.2.2.2.2.2.2
    -- the answer
    have hans : (Q1 * 4294967296 + Q2, R2 / 2 ^ s) = ((hi * 18446744073709551616 + lo) / (Y' : Int), (hi * 18446744073709551616 + lo) % (Y' : Int)) := by
      have b1 := hQ1.eq
      have b2 := hQ2.eq
      have b3 := hQ2.Rl
      have b4 := hQ2.Rh
      have eN : (hi * 18446744073709551616 + lo) * 2 ^ s = (Q1 * 4294967296 + Q2) * Y + R2 := by
        have : (hi * 18446744073709551616 + lo) * 2 ^ s = U * 18446744073709551616 + r := by rw [← hUd]; grind
        have hr2 : r = r / 4294967296 * 4294967296 + r % 4294967296 := by omega
        grind
      -- the remainder is a multiple
      have eR : R2 = ((hi * 18446744073709551616 + lo) - (Q1 * 4294967296 + Q2) * (Y' : Int)) * 2 ^ s := by rw [← hYd] at eN; grind
      have hRd : R2 / 2 ^ s = (hi * 18446744073709551616 + lo) - (Q1 * 4294967296 + Q2) * (Y' : Int) := by
        rw [eR, Int.mul_ediv_cancel _ (by omega)]
      have c0 : 0 ≤ R2 / 2 ^ s := Int.ediv_nonneg b3 (by omega)
      have c1 : R2 / 2 ^ s < (Y' : Int) := by rw [Int.ediv_lt_iff_lt_mul hp, hYd]; exact b4
      have := div_uniq (a := hi * 18446744073709551616 + lo) (y := (Y' : Int)) (q := Q1 * 4294967296 + Q2) (r := R2 / 2 ^ s) (by omega) c0 c1
      rw [this.1, this.2]
    rw [hans] at hl0'
    obtain ⟨x, ⟨N1, h1⟩, hx⟩ := hl0'.diag
    obtain ⟨N2, h2⟩ := hlead
    refine ⟨x, ⟨max N1 N2, fun k hk => ?_⟩, hx⟩
    simp only [bits_Div64, bits_Div64.top]
    have h2 : bits_LeadingZeros64 k (Y' : Int) = some (s : Int) := h2 k (by omega)
    rw [bn (by omega), bn (by omega), bn (by omega), h2]
    simp only [Option.bind_some]
    have u1 : IntKind.wrap .u64 (s : Int) = (s : Int) := ule (by omega) (by omega)
    have u2 : IntKind.wrap .u64 (64 - (s : Int)) = ((64 - s : Nat) : Int) := by rw [ule (by omega) (by omega)]; omega
    have m1 : min s 64 = s := by omega
    have m2 : min (64 - s) 64 = 64 - s := by omega
    simp only [u1, u2, Int.toNat_natCast, m1, m2, hYd]
    rw [if_neg (by omega), if_neg (by omega), if_neg (by omega), if_neg (by omega)]
    have u3 : IntKind.wrap .u64 Y = Y := ule (by omega) (by omega)
    have u4 : IntKind.wrap .u64 (hi * 2 ^ s) = hi * 2 ^ s := ule hU1 (by omega)
    have u5 : IntKind.wrap .u64 (lo * 2 ^ s) = r := by rw [wu, hrd]
    have u6 : Int.fdiv lo (2 ^ (64 - s)) = lo / 2 ^ (64 - s) := fd _ _ (by omega)
    have u7 : IntKind.wrap .u64 (((BitVec.ofInt 64 (hi * 2 ^ s) ||| BitVec.ofInt 64 (lo / 2 ^ (64 - s))).toNat : Nat) : Int) = U := by rw [hor, ule (by omega) (by omega)]
    have u8' : Int.fdiv Y 4294967296 = Y / 4294967296 := fd _ _ (by omega)
    have u9 : Int.fdiv r 4294967296 = r / 4294967296 := fd _ _ (by omega)
    have u10 := and32 Y (by omega) (by omega)
    have u11 := and32 r (by omega) (by omega)
    simp only [u3, u4, u5, u6, u7, u8', u9, u10, u11]
    have hU2 : 0 ≤ U := hQ1.Ul
    rw [if_neg (by omega), td _ _ hU2, ule g1.2.1 g1.2.2.1, ule g1.2.2.2.2.1 (by have := g1.2.2.2.1; omega), ← g1.2.2.2.2.2.1, ule g1.2.2.2.2.2.2.1 (by have := g1.2.2.2.2.2.2.2; omega)]
    exact h1 k (by omega)
end Go.Proofs.YthghchjbomlpfaaGreat.Ev

namespace Go.Proofs.YthghchjbomlpfaaGreat.Ev
set_option linter.unusedVariables false

theorem or_add' (a b : Int) (s : Nat) (hs : s ≤ 64) (ha : 0 ≤ a) (ha' : a < 18446744073709551616) (hd : ∃ c, a = 2 ^ s * c) (hb : 0 ≤ b) (hb' : b < 2 ^ s) :
    ((BitVec.ofInt 64 b ||| BitVec.ofInt 64 a).toNat : Int) = a + b := by
  rw [BitVec.or_comm]; exact or_add a b s hs ha ha' hd hb hb'

theorem limb_top {l : List Int} (h : Lim_ B64 l) {i : Nat} (hi : i < l.length) {c : Int} (hv : wv B64 l < B64 ^ i * c) : l.getD i 0 < c := by
  have e := wv_split (B := B64) i (Nat.le_of_lt hi) (l := l)
  rw [wv_drop i hi] at e
  have h1 := wv_nonneg (by decide) (h.take i)
  have h2 := wv_nonneg (by decide) (h.drop (i + 1))
  have hP : 0 < B64 ^ i := Int.pow_pos (by decide)
  have h3 : B64 ^ i * (l.getD i 0 + B64 * wv B64 (l.drop (i + 1))) < B64 ^ i * c := by omega
  have h4 := Int.lt_of_mul_lt_mul_left h3 (by omega)
  have h5 := Int.mul_nonneg (show 0 ≤ B64 by decide) h2
  omega

theorem pow2_lt {s : Nat} (hs : s ≤ 63) : (2 : Int) ^ s < 18446744073709551616 := by
  have : (2 : Nat) ^ s ≤ 2 ^ 63 := Nat.pow_le_pow_right (by omega) hs
  have e : ((2 ^ s : Nat) : Int) = 2 ^ s := by push_cast; rfl
  omega

theorem shl_mult (x : Int) (s : Nat) (hs : s ≤ 63) : ∃ c, x * 2 ^ s % 18446744073709551616 = 2 ^ s * c := by
  have e : (18446744073709551616 : Int) = 2 ^ (64 - s) * 2 ^ s := by rw [← Int.pow_add, show 64 - s + s = 64 by omega]; rfl
  refine ⟨x % 2 ^ (64 - s), ?_⟩
  rw [e, Int.mul_comm x, Int.mul_comm (2 ^ (64 - s)), Int.mul_emod_mul_of_pos _ _ (Int.pow_pos (by omega))]

theorem shl_div (x : Int) (s : Nat) (hs : s ≤ 63) : x / 2 ^ (64 - s) = x * 2 ^ s / 18446744073709551616 := by
  have e : (18446744073709551616 : Int) = 2 ^ (64 - s) * 2 ^ s := by rw [← Int.pow_add, show 64 - s + s = 64 by omega]; rfl
  rw [e, Int.mul_ediv_mul_of_pos_left _ _ (Int.pow_pos (by omega))]

theorem shift_loop (w : List Int) (hw : Lim_ B64 w) (hl : w.length ≤ 17592186044416) (s : Nat) (hs : s ≤ 63) : ∀ (d i : Nat) (o : List Int), i + d = w.length → o.length = w.length + 1 → Lim_ B64 o → wv B64 o = wv B64 (w.take i) * 2 ^ s →
    Res (fun n => exact_shiftUp.l0 n s w.length i w o) fun o => o.length = w.length + 1 ∧ Lim_ B64 o ∧ wv B64 o = wv B64 w * 2 ^ s
  | 0, i, o, hd, ho, hL, hv => by
    refine Res.succ (g := fun _ => some o) (fun n => ?_) (Res.pure ⟨ho, hL, by rw [hv, List.take_of_length_le (by omega)]⟩)
    simp only [exact_shiftUp.l0, exact_shiftUp.b0]
    rw [bn (by omega)]
  | d + 1, i, o, hd, ho, hL, hv => by
    have hx := hw.get i (by omega)
    have hg := hL.get i (by omega)
    have hp : (0 : Int) < 2 ^ s := Int.pow_pos (by omega)
    have hp2 := pow2_lt hs
    have e1 : IntKind.wrap .i64 ((i : Int) + 1) = ((i + 1 : Nat) : Int) := by rw [wi _ (by omega) (by omega)]; omega
    have e2 : IntKind.wrap .i64 (64 - (s : Int)) = ((64 - s : Nat) : Int) := by rw [wi _ (by omega) (by omega)]; omega
    have m1 : min s 64 = s := by omega
    have m2 : min (64 - s) 64 = 64 - s := by omega
    have hP : 0 < B64 ^ i := Int.pow_pos (by decide)
    have h1 := wv_lt (by decide) (hw.take i)
    have h0 := wv_nonneg (by decide) (hw.take i)
    rw [List.length_take, Nat.min_eq_left (by omega)] at h1
    have hvlt : wv B64 o < B64 ^ i * 2 ^ s := by rw [hv]; exact Int.mul_lt_mul_of_pos_right h1 hp
    have htop := limb_top hL (by omega) hvlt
    have hz : o.getD (i + 1) 0 = 0 := limb_zero (by decide) hL (by
      rw [Int.pow_succ]
      have := Int.mul_lt_mul_of_pos_left hp2 hP
      simp only [B64] at *
      omega)
    have q0 := Int.emod_nonneg (w.getD i 0 * 2 ^ s) (show (18446744073709551616 : Int) ≠ 0 by omega)
    have q1 := Int.emod_lt_of_pos (w.getD i 0 * 2 ^ s) (show (0 : Int) < 18446744073709551616 by omega)
    have hor := or_add' (w.getD i 0 * 2 ^ s % 18446744073709551616) (o.getD i 0) s (by omega) q0 q1 (shl_mult _ s hs) hg.1 htop
    obtain ⟨c, hc⟩ := shl_mult (w.getD i 0) s hs
    have hsum : w.getD i 0 * 2 ^ s % 18446744073709551616 + o.getD i 0 < 18446744073709551616 := by
      have e : (18446744073709551616 : Int) = 2 ^ s * 2 ^ (64 - s) := by rw [← Int.pow_add, show s + (64 - s) = 64 by omega]; rfl
      have h2 : c < 2 ^ (64 - s) := by
        rw [hc, e] at q1
        exact Int.lt_of_mul_lt_mul_left q1 (by omega)
      have h3 := Int.mul_le_mul_of_nonneg_left (show c + 1 ≤ 2 ^ (64 - s) by omega) (show (0 : Int) ≤ 2 ^ s by omega)
      rw [← e, Int.mul_add, Int.mul_one] at h3
      omega
    have eo : IntKind.wrap .u64 (((BitVec.ofInt 64 (o.getD i 0) ||| BitVec.ofInt 64 (IntKind.wrap .u64 (w.getD i 0 * 2 ^ s))).toNat : Nat) : Int) = w.getD i 0 * 2 ^ s % 18446744073709551616 + o.getD i 0 := by
      rw [wu (w.getD i 0 * 2 ^ s), hor, ule (by omega) hsum]
    have hdv : w.getD i 0 / 2 ^ (64 - s) = w.getD i 0 * 2 ^ s / 18446744073709551616 := shl_div _ s hs
    have hq0 : 0 ≤ w.getD i 0 * 2 ^ s / 18446744073709551616 := Int.ediv_nonneg (Int.mul_nonneg hx.1 (by omega)) (by omega)
    have hq1 : w.getD i 0 * 2 ^ s / 18446744073709551616 < 18446744073709551616 := by
      rw [Int.ediv_lt_iff_lt_mul (by omega)]
      have a1 := Int.mul_lt_mul_of_pos_right hx.2 hp
      have a2 := Int.mul_lt_mul_of_pos_left hp2 (show (0 : Int) < 18446744073709551616 by omega)
      simp only [B64] at *
      omega
    have hsplit := Int.emod_add_mul_ediv (w.getD i 0 * 2 ^ s) 18446744073709551616
    have hval : wv B64 ((o.set i (w.getD i 0 * 2 ^ s % 18446744073709551616 + o.getD i 0)).set (i + 1) (w.getD i 0 * 2 ^ s / 18446744073709551616)) = wv B64 (w.take (i + 1)) * 2 ^ s := by
      rw [wv_set (by simp; omega), wv_set (by omega), getD_set_ne (by omega), hz, hv, wv_take_succ i (by omega), Int.pow_succ]
      generalize w.getD i 0 * 2 ^ s % 18446744073709551616 = r at *
      generalize w.getD i 0 * 2 ^ s / 18446744073709551616 = q at *
      simp only [B64] at *
      generalize (18446744073709551616 : Int) ^ i = p at *
      grind
    by_cases h0s : 0 < s
    · refine Res.succ (fun n => ?_) (shift_loop w hw hl s hs d (i + 1) _ (by omega) (by simpa using ho) ((hL.set i ⟨by omega, hsum⟩).set (i + 1) ⟨hq0, hq1⟩) hval)
      simp only [exact_shiftUp.l0, exact_shiftUp.b0, Int.toNat_natCast, e1, e2, m1, m2, eo, List.length_set]
      rw [bp (by omega), if_pos (by omega), if_pos (by omega), if_neg (by omega), if_pos (by omega), bp (by omega), if_neg (by omega), if_pos (by omega), fd _ _ (Int.pow_nonneg (by omega)), hdv]
    · obtain rfl : s = 0 := by omega
      have hq : w.getD i 0 * 2 ^ 0 / 18446744073709551616 = 0 := Int.ediv_eq_zero_of_lt (by simpa using hx.1) (by simpa using hx.2)
      rw [hq] at hval
      have hsame : (o.set i (w.getD i 0 * 2 ^ 0 % 18446744073709551616 + o.getD i 0)).set (i + 1) 0 = o.set i (w.getD i 0 * 2 ^ 0 % 18446744073709551616 + o.getD i 0) := by
        apply List.ext_getElem (by simp)
        intro j h1 h2
        rw [List.getElem_set]
        split
        · rename_i hj
          subst hj
          rw [List.getElem_set_ne (by omega)]
          have : o.getD (i + 1) 0 = o[i + 1]'(by simpa using h2) := by
            simp only [List.length_set] at h2
            simp [List.getD, h2]
          rw [← this, hz]
        · rfl
      rw [hsame] at hval
      refine Res.succ (fun n => ?_) (shift_loop w hw hl 0 hs d (i + 1) _ (by omega) (by simpa using ho) (hL.set i ⟨by omega, hsum⟩) hval)
      simp only [exact_shiftUp.l0, exact_shiftUp.b0, Int.toNat_natCast, e1, m1, eo]
      rw [bp (by omega), if_pos (by omega), if_pos (by omega), if_neg (by omega), if_pos (by omega), bn (by omega)]

theorem shift_ok (w : List Int) (hw : Lim_ B64 w) (hl : w.length ≤ 17592186044416) (s : Nat) (hs : s ≤ 63) : Res (fun k => exact_shiftUp k w s) fun o => o.length = w.length + 1 ∧ Lim_ B64 o ∧ wv B64 o = wv B64 w * 2 ^ s := by
  have e1 : IntKind.wrap .i64 ((w.length : Int) + 1) = ((w.length + 1 : Nat) : Int) := by rw [wi _ (by omega) (by omega)]; omega
  refine Res.of_eq (shift_loop w hw hl s hs w.length 0 (List.replicate (w.length + 1) 0) (by omega) (by simp) (Lim_.rep (by decide) _) (by simp [wv_rep, wv])) fun k => ?_
  simp only [exact_shiftUp, exact_shiftUp.top, e1, Int.toNat_natCast]
  rw [if_pos (by omega), if_pos (by omega)]
  rfl
end Go.Proofs.YthghchjbomlpfaaGreat.Ev

namespace Go.Proofs.YthghchjbomlpfaaGreat.Ev
set_option linter.unusedVariables false

theorem sub64_ok' {x y c : Int} (hx : 0 ≤ x ∧ x < 18446744073709551616) (hy : 0 ≤ y ∧ y < 18446744073709551616) (hc : 0 ≤ c ∧ c ≤ 1) :
    ∃ d b, sub64 x y c = some (d, b) ∧ (0 ≤ d ∧ d < B64) ∧ (0 ≤ b ∧ b ≤ 1) ∧ x - y - c = d - B64 * b := by
  refine ⟨_, _, by rw [sub64, if_pos ⟨hx.1, hx.2, hy.1, hy.2, hc.1, hc.2⟩], ?_⟩
  simp only [B64]
  split <;> omega

structure KD (n : Nat) (u v : List Int) (u2 u1 u0 v1 v2 U V Q : Int) : Prop where
  n2 : 2 ≤ n
  nl : n ≤ 17592186044416
  ul : u.length = n + 1
  vl : v.length = n
  uL : Lim_ B64 u
  vL : Lim_ B64 v
  e2 : u.getD n 0 = u2
  e1 : u.getD (n - 1) 0 = u1
  e0 : u.getD (n - 2) 0 = u0
  f1 : v.getD (n - 1) 0 = v1
  f2 : v.getD (n - 2) 0 = v2
  eU : wv B64 u = U
  eV : wv B64 v = V
  v1p : 1 ≤ v1
  lt : U < V * B64
  Ql : 0 ≤ Q
  eQ : Q * V ≤ U
  eR : U < (Q + 1) * V

section
variable {n : Nat} {u v : List Int} {u2 u1 u0 v1 v2 U V Q : Int}

theorem KD.lims (h : KD n u v u2 u1 u0 v1 v2 U V Q) : (0 ≤ u2 ∧ u2 < B64) ∧ (0 ≤ u1 ∧ u1 < B64) ∧ (0 ≤ u0 ∧ u0 < B64) ∧ (1 ≤ v1 ∧ v1 < B64) ∧ (0 ≤ v2 ∧ v2 < B64) := by
  have hn := h.n2
  have hu := h.ul
  have hv := h.vl
  have a1 := h.uL.get n (by omega)
  have a2 := h.uL.get (n - 1) (by omega)
  have a3 := h.uL.get (n - 2) (by omega)
  have a4 := h.vL.get (n - 1) (by omega)
  have a5 := h.vL.get (n - 2) (by omega)
  rw [h.e2] at a1; rw [h.e1] at a2; rw [h.e0] at a3; rw [h.f1] at a4; rw [h.f2] at a5
  exact ⟨a1, a2, a3, ⟨h.v1p, a4.2⟩, a5⟩

theorem KD.parts (h : KD n u v u2 u1 u0 v1 v2 U V Q) : ∃ P U' V' : Int, 0 < P ∧ (0 ≤ U' ∧ U' < P) ∧ (0 ≤ V' ∧ V' < P) ∧ U = U' + P * (u0 + B64 * (u1 + B64 * u2)) ∧ V = V' + P * (v2 + B64 * v1) := by
  have hn := h.n2
  have hu := h.ul
  have hv := h.vl
  refine ⟨B64 ^ (n - 2), wv B64 (u.take (n - 2)), wv B64 (v.take (n - 2)), Int.pow_pos (by decide), ⟨wv_nonneg (by decide) (h.uL.take _), ?_⟩, ⟨wv_nonneg (by decide) (h.vL.take _), ?_⟩, ?_, ?_⟩
  · have := wv_lt (by decide) (h.uL.take (n - 2)); rwa [List.length_take, Nat.min_eq_left (by omega)] at this
  · have := wv_lt (by decide) (h.vL.take (n - 2)); rwa [List.length_take, Nat.min_eq_left (by omega)] at this
  · rw [← h.eU, wv_split (B := B64) (n - 2) (by omega), wv_drop (n - 2) (by omega), wv_drop (n - 2 + 1) (by omega), wv_drop (n - 2 + 1 + 1) (by omega), List.drop_of_length_le (by omega), h.e0,
      show n - 2 + 1 = n - 1 by omega, h.e1, show n - 1 + 1 = n by omega, h.e2]
    simp [wv]
  · rw [← h.eV, wv_split (B := B64) (n - 2) (by omega), wv_drop (n - 2) (by omega), wv_drop (n - 2 + 1) (by omega), List.drop_of_length_le (by omega), h.f2,
      show n - 2 + 1 = n - 1 by omega, h.f1]
    simp [wv]

theorem KD.Vpos (h : KD n u v u2 u1 u0 v1 v2 U V Q) : 0 < V := by
  have h1 := h.eQ
  have h2 := h.eR
  rw [Int.add_mul, Int.one_mul] at h2
  omega

theorem KD.Qlt (h : KD n u v u2 u1 u0 v1 v2 U V Q) : Q < B64 := by
  have h1 := h.eQ
  have h2 := h.lt
  have h3 := h.Vpos
  have : Q * V < B64 * V := by rw [Int.mul_comm B64]; omega
  exact Int.lt_of_mul_lt_mul_right this (by omega)

theorem KD.up (h : KD n u v u2 u1 u0 v1 v2 U V Q) {q : Int} (hq : 0 ≤ q) (hq' : q < B64) (hc : q * (v1 * B64 + v2) ≤ (u2 * B64 + u1) * B64 + u0) : q ≤ Q + 1 := by
  obtain ⟨P, U', V', hP, hU, hV, eU, eV⟩ := h.parts
  have hl := h.lims
  have hVp := h.Vpos
  -- q V = q y P + q V' ≤ U + q V'
  have a1 := Int.mul_le_mul_of_nonneg_right hc (show 0 ≤ P by omega)
  have a2 : q * V' ≤ (B64 - 1) * P := Int.mul_le_mul (by omega) (by omega) hV.1 (by decide)
  have a3 : P * (1 * B64) ≤ P * (v2 + B64 * v1) := Int.mul_le_mul_of_nonneg_left (by have := hl.2.2.2.1.1; have := hl.2.2.2.2.1; simp only [B64] at *; omega) (by omega)
  have a4 : q * V = q * (v1 * B64 + v2) * P + q * V' := by rw [eV]; grind
  have a5 : ((u2 * B64 + u1) * B64 + u0) * P = U - U' := by rw [eU]; grind
  have a6 : q * V < U + V := by
    have : (B64 - 1) * P = P * (1 * B64) - P := by grind
    omega
  have a7 : q * V < (Q + 2) * V := by
    have := h.eR
    have e : (Q + 2) * V = (Q + 1) * V + V := by grind
    omega
  have := Int.lt_of_mul_lt_mul_right a7 (by omega)
  omega

theorem KD.low (h : KD n u v u2 u1 u0 v1 v2 U V Q) {q : Int} (hq : 0 ≤ q) (hc : (u2 * B64 + u1) * B64 + u0 < q * (v1 * B64 + v2)) : Q < q := by
  obtain ⟨P, U', V', hP, hU, hV, eU, eV⟩ := h.parts
  have hVp := h.Vpos
  have a1 := Int.mul_le_mul_of_nonneg_right (show (u2 * B64 + u1) * B64 + u0 + 1 ≤ q * (v1 * B64 + v2) by omega) (show 0 ≤ P by omega)
  have a2 := Int.mul_nonneg hq hV.1
  have a4 : q * V = q * (v1 * B64 + v2) * P + q * V' := by rw [eV]; grind
  have a5 : ((u2 * B64 + u1) * B64 + u0 + 1) * P = U - U' + P := by rw [eU]; grind
  have a6 : Q * V < q * V := by have := h.eQ; omega
  exact Int.lt_of_mul_lt_mul_right a6 (by omega)

theorem KD.first (h : KD n u v u2 u1 u0 v1 v2 U V Q) : Q * v1 ≤ u2 * B64 + u1 := by
  obtain ⟨P, U', V', hP, hU, hV, eU, eV⟩ := h.parts
  have hl := h.lims
  have a1 := h.eQ
  have a2 : Q * V = Q * v1 * (P * B64) + Q * (V' + P * v2) := by rw [eV]; grind
  have a3 : 0 ≤ Q * (V' + P * v2) := Int.mul_nonneg h.Ql (by have := Int.mul_nonneg (show 0 ≤ P by omega) hl.2.2.2.2.1; omega)
  have a4 : U < (u2 * B64 + u1 + 1) * (P * B64) := by
    have : P * (u0 + 1) ≤ P * B64 := Int.mul_le_mul_of_nonneg_left (by have := hl.2.2.1.2; omega) (by omega)
    have e : (u2 * B64 + u1 + 1) * (P * B64) = P * (B64 * (u1 + B64 * u2)) + P * B64 := by grind
    have e2 : U = U' + P * u0 + P * (B64 * (u1 + B64 * u2)) := by rw [eU]; grind
    have e3 : P * (u0 + 1) = P * u0 + P := by grind
    omega
  have a5 : Q * v1 * (P * B64) < (u2 * B64 + u1 + 1) * (P * B64) := by omega
  have := Int.lt_of_mul_lt_mul_right a5 (Int.mul_nonneg (by omega) (by decide))
  omega

theorem KD.top (h : KD n u v u2 u1 u0 v1 v2 U V Q) : u2 ≤ v1 := by
  obtain ⟨P, U', V', hP, hU, hV, eU, eV⟩ := h.parts
  have hl := h.lims
  have a1 := h.lt
  -- u2 P B B ≤ U < V B < (v1 + 1) P B B
  have a2 : u2 * (P * B64 * B64) ≤ U := by
    have e : U = u2 * (P * B64 * B64) + (U' + P * (u0 + B64 * u1)) := by rw [eU]; grind
    have : 0 ≤ P * (u0 + B64 * u1) := Int.mul_nonneg (by omega) (by have := hl.2.2.1.1; have := hl.2.1.1; simp only [B64]; omega)
    omega
  have a3 : V * B64 ≤ (v1 + 1) * (P * B64 * B64) := by
    have e : (v1 + 1) * (P * B64 * B64) - V * B64 = (P * (B64 - v2) - V') * B64 := by rw [eV]; grind
    have e2 : P * 1 ≤ P * (B64 - v2) := Int.mul_le_mul_of_nonneg_left (by have := hl.2.2.2.2.2; omega) (by omega)
    have : 0 ≤ (P * (B64 - v2) - V') * B64 := Int.mul_nonneg (by omega) (by decide)
    omega
  have a4 : u2 * (P * B64 * B64) < (v1 + 1) * (P * B64 * B64) := by omega
  have := Int.lt_of_mul_lt_mul_right a4 (Int.mul_nonneg (Int.mul_nonneg (by omega) (by decide)) (by decide))
  omega
end
end Go.Proofs.YthghchjbomlpfaaGreat.Ev

namespace Go.Proofs.YthghchjbomlpfaaGreat.Ev
set_option linter.unusedVariables false

section
variable {n : Nat} {u v : List Int} {u2 u1 u0 v1 v2 U V Q : Int}

theorem step_guess (h : KD n u v u2 u1 u0 v1 v2 U V Q) (P : Int × List Int → Prop) (hn : ∀ q, 0 ≤ q → Q ≤ q → q ≤ Q + 1 → q < B64 → Res2 (fun k m => exact_step.l3 k m n q u v) P) :
    ∀ (j : Nat) (q r : Int), q ≤ j → Q ≤ q → q < B64 → r = u2 * B64 + u1 - q * v1 → 0 ≤ r → r < 2 * B64 → Res2 (fun k m => exact_step.l1 k m n q (r % B64) (r / B64) u v) P := by
  intro j
  have hl := h.lims
  have hn2 := h.n2
  have hnl := h.nl
  have hul := h.ul
  have hvl := h.vl
  have hQ0 := h.Ql
  have e1 : IntKind.wrap .i64 ((n : Int) - 1) = ((n - 1 : Nat) : Int) := by rw [wi _ (by omega) (by omega)]; omega
  have e2 : IntKind.wrap .i64 ((n : Int) - 2) = ((n - 2 : Nat) : Int) := by rw [wi _ (by omega) (by omega)]; omega
  -- the test
  have tst : ∀ {q r : Int}, r = u2 * B64 + u1 - q * v1 → (q * (v1 * B64 + v2) ≤ (u2 * B64 + u1) * B64 + u0 ↔ q * v2 ≤ r * B64 + u0) := by
    intro q r hr
    have : (u2 * B64 + u1) * B64 + u0 - q * (v1 * B64 + v2) = r * B64 + u0 - q * v2 := by rw [hr]; grind
    omega
  -- the ends
  have done : ∀ {q r : Int}, 0 ≤ q → q < B64 → Q ≤ q → r = u2 * B64 + u1 - q * v1 → (B64 ≤ r ∨ q * v2 ≤ r * B64 + u0) → q ≤ Q + 1 := by
    intro q r hq hq' hle hr hc
    refine h.up hq hq' ((tst hr).2 ?_)
    rcases hc with hc | hc
    · have a1 : q * v2 ≤ (B64 - 1) * (B64 - 1) := Int.mul_le_mul (by omega) (by omega) hl.2.2.2.2.1 (by decide)
      have a2 := hl.2.2.1.1
      simp only [B64] at *
      omega
    · exact hc
  induction j with
  | zero =>
    intro q r hj hle hq' hr h0 hb
    obtain rfl : q = 0 := by omega
    have hQz : Q = 0 := by omega
    by_cases ho : r < B64
    · have m1 : r % B64 = r := Int.emod_eq_of_lt h0 ho
      have m2 : r / B64 = 0 := Int.ediv_eq_zero_of_lt h0 ho
      rw [m1, m2]
      refine Res2.succ (f := fun k m => exact_step.l1 k m n 0 r 0 u v) (g := fun k m => exact_step.l2 k m n 0 r true u v) (fun k m => ?_) (Res2.succ (fun k m => ?_) (hn 0 (by omega) (by omega) (by omega) (by decide)))
      · simp only [exact_step.l1, exact_step.b1, e2, Int.toNat_natCast, h.f2, h.e0]
        rw [bp trivial, if_pos (by omega), mul64_ok 0 v2 (by omega) (by omega) hl.2.2.2.2.1 hl.2.2.2.2.2]
        simp only [Option.bind_some, Int.zero_mul, Int.zero_ediv, Int.zero_emod]
        by_cases hr0 : 0 < r
        · rw [bp hr0]
        · rw [bn hr0, bp (by omega), if_pos (by omega)]
          simp only [hl.2.2.1.1, decide_true]
      · simp only [exact_step.l2, exact_step.b2, cond_true]
    · have m2 : r / B64 ≠ 0 := by simp only [B64] at *; omega
      refine Res2.succ (fun k m => ?_) (hn 0 (by omega) (by omega) (by omega) (by decide))
      simp only [exact_step.l1, exact_step.b1]
      rw [bn m2]
  | succ j ih =>
    intro q r hj hle hq' hr h0 hb
    have hq : 0 ≤ q := by omega
    by_cases ho : r < B64
    · have m1 : r % B64 = r := Int.emod_eq_of_lt h0 ho
      have m2 : r / B64 = 0 := Int.ediv_eq_zero_of_lt h0 ho
      rw [m1, m2]
      have hp0 := Int.mul_nonneg hq hl.2.2.2.2.1
      have hdiv : q * v2 = q * v2 / B64 * B64 + q * v2 % B64 := by have := Int.emod_add_mul_ediv (q * v2) B64; rw [Int.mul_comm B64] at this; omega
      have hm0 := Int.emod_nonneg (q * v2) (show B64 ≠ 0 by decide)
      have hm1 := Int.emod_lt_of_pos (q * v2) (show 0 < B64 by decide)
      by_cases hc : q * v2 ≤ r * B64 + u0
      · refine Res2.succ (f := fun k m => exact_step.l1 k m n q r 0 u v) (g := fun k m => exact_step.l2 k m n q r true u v) (fun k m => ?_) (Res2.succ (fun k m => ?_) (hn q hq hle (done hq hq' hle hr (.inr hc)) hq'))
        · simp only [exact_step.l1, exact_step.b1, e2, Int.toNat_natCast, h.f2, h.e0]
          rw [bp trivial, if_pos (by omega), mul64_ok q v2 hq hq' hl.2.2.2.2.1 hl.2.2.2.2.2]
          simp only [Option.bind_some]
          by_cases hr0 : q * v2 / B64 < r
          · rw [bp hr0]
          · have hu0 := hl.2.2.1.2
            have hre : q * v2 / B64 = r := by simp only [B64] at *; omega
            rw [bn hr0, bp hre, if_pos (by omega)]
            have : q * v2 % B64 ≤ u0 := by rw [hre] at hdiv; omega
            simp only [this, decide_true]
        · simp only [exact_step.l2, exact_step.b2, cond_true]
      · have hlow : Q < q := h.low hq (by
          have := (tst hr).1
          rcases Int.lt_or_le ((u2 * B64 + u1) * B64 + u0) (q * (v1 * B64 + v2)) with h1 | h1
          · exact h1
          · exact absurd (this h1) hc)
        have hv1 := hl.2.2.2.1
        refine Res2.succ (f := fun k m => exact_step.l1 k m n q r 0 u v) (g := fun k m => exact_step.l2 k m n q r false u v) (fun k m => ?_) (Res2.succ (fun k m => ?_) (ih (q - 1) (r + v1) (by omega) (by omega) (by omega) (by rw [hr]; grind) (by omega) (by omega)))
        · simp only [exact_step.l1, exact_step.b1, e2, Int.toNat_natCast, h.f2, h.e0]
          rw [bp trivial, if_pos (by omega), mul64_ok q v2 hq hq' hl.2.2.2.2.1 hl.2.2.2.2.2]
          simp only [Option.bind_some]
          have hu00 := hl.2.2.1.1
          rw [bn (show ¬ q * v2 / B64 < r by simp only [B64] at *; omega)]
          by_cases hre : q * v2 / B64 = r
          · rw [bp hre, if_pos (by omega)]
            have : ¬ q * v2 % B64 ≤ u0 := by rw [hre] at hdiv; omega
            simp only [this, decide_false]
          · rw [bn hre]
        · simp only [exact_step.l2, exact_step.b2, cond_false, e1, Int.toNat_natCast, h.f1]
          rw [if_pos (by omega), add64_ok' h0 (by omega) (by omega) (by omega), wu, Int.emod_eq_of_lt (by omega : 0 ≤ q - 1) (by simp only [B64] at *; omega)]
          simp only [Option.bind_some, Int.add_zero]
    · have m2 : r / B64 ≠ 0 := by simp only [B64] at *; omega
      refine Res2.succ (fun k m => ?_) (hn q hq hle (done hq hq' hle hr (.inl (by omega))) hq')
      simp only [exact_step.l1, exact_step.b1]
      rw [bn m2]
end

theorem step_back (v : List Int) (n : Nat) (hn : n ≤ 17592186044416) (hv : v.length = n) (vL : Lim_ B64 v) (q R : Int) (hq : 1 ≤ q) (hq' : q < B64) (hR : 0 ≤ R) (hR' : R < B64 ^ n) (S : Int) (hS : S + wv B64 v = R + B64 ^ (n + 1)) :
    ∀ (d i : Nat) (u : List Int) (c : Int), i + d = n → u.length = n + 1 → Lim_ B64 u → 0 ≤ c → c ≤ 1 → wv B64 u + c * B64 ^ i = S + wv B64 (v.take i) →
      Res2 (fun k m => exact_step.l5 k m n q c n i u v) fun x => x.1 = q - 1 ∧ x.2.length = n + 1 ∧ Lim_ B64 x.2 ∧ wv B64 x.2 = R
  | 0, i, u, c, hd, hu, uL, hc, hc', hw => by
    obtain rfl : i = n := by omega
    have hg := uL.get i (by omega)
    rw [List.take_of_length_le (by omega), hS] at hw
    have hP : 0 < B64 ^ i := Int.pow_pos (by decide)
    -- the highest limb
    have e := wv_split (B := B64) i (by omega) (l := u)
    rw [wv_drop i (by omega), List.drop_of_length_le (by omega)] at e
    simp only [wv, Int.mul_zero, Int.add_zero] at e
    have t0 := wv_nonneg (by decide) (uL.take i)
    have t1 := wv_lt (by decide) (uL.take i)
    rw [List.length_take, Nat.min_eq_left (by omega)] at t1
    rw [Int.pow_succ] at hw
    have hsum : u.getD i 0 + c = B64 := by
      have a1 : (u.getD i 0 + c - B64) * B64 ^ i = R - wv B64 (u.take i) := by grind
      rcases Int.lt_trichotomy (u.getD i 0 + c - B64) 0 with h1 | h1 | h1
      · have := Int.mul_le_mul_of_nonneg_right (show u.getD i 0 + c - B64 ≤ -1 by omega) (show 0 ≤ B64 ^ i by omega)
        omega
      · omega
      · have := Int.mul_le_mul_of_nonneg_right (show 1 ≤ u.getD i 0 + c - B64 by omega) (show 0 ≤ B64 ^ i by omega)
        omega
    have ez : IntKind.wrap .u64 (u.getD i 0 + c) = 0 := by rw [wu, hsum]; decide
    have eq' : IntKind.wrap .u64 (q - 1) = q - 1 := ule (by omega) (by simp only [B64] at *; omega)
    refine Res2.succ (g := fun _ _ => some (q - 1, u.set i 0)) (fun k m => ?_) (Res2.pure ⟨rfl, by simpa using hu, uL.set i (by decide), ?_⟩)
    · simp only [exact_step.l5, exact_step.b5, Int.toNat_natCast, ez, eq']
      rw [bn (by omega), if_pos (by omega), if_pos (by omega)]
    · rw [wv_set (by omega), e]
      grind
  | d + 1, i, u, c, hd, hu, uL, hc, hc', hw => by
    have hg := uL.get i (by omega)
    have hgv := vL.get i (by omega)
    have e1 : IntKind.wrap .i64 ((i : Int) + 1) = ((i + 1 : Nat) : Int) := by rw [wi _ (by omega) (by omega)]; omega
    refine Res2.succ (fun k m => ?_) (step_back v n hn hv vL q R hq hq' hR hR' S hS d (i + 1) (u.set i ((u.getD i 0 + v.getD i 0 + c) % B64)) ((u.getD i 0 + v.getD i 0 + c) / B64) (by omega) (by simpa using hu) (uL.set i (by simp only [B64]; omega)) (by simp only [B64] at *; omega) (by simp only [B64] at *; omega) ?_)
    · simp only [exact_step.l5, exact_step.b5, Int.toNat_natCast, e1]
      rw [bp (by omega), if_pos (by omega), if_pos (by omega), add64_ok' hg.1 hgv.1 hc hc']
      simp only [Option.bind_some]
      rw [if_pos (by omega)]
    · rw [wv_set (by omega), wv_take_succ i (by omega), Int.pow_succ]
      have := Int.emod_add_mul_ediv (u.getD i 0 + v.getD i 0 + c) B64
      grind

theorem step_sub {n : Nat} {u v : List Int} {u2 u1 u0 v1 v2 U V Q : Int} (h : KD n u v u2 u1 u0 v1 v2 U V Q) (q : Int) (hq : 0 ≤ q) (hq' : q < B64) (hQ : Q ≤ q) (hQ' : q ≤ Q + 1) :
    ∀ (d i : Nat) (w : List Int) (b c : Int), i + d = n → w.length = n + 1 → Lim_ B64 w → 0 ≤ b → b ≤ 1 → 0 ≤ c → c < B64 → wv B64 w = U - q * wv B64 (v.take i) + (c + b) * B64 ^ i →
      Res2 (fun k m => exact_step.l4 k m n q b c n i w v) fun x => x.1 = Q ∧ x.2.length = n + 1 ∧ Lim_ B64 x.2 ∧ wv B64 x.2 = U - Q * V
  | 0, i, w, b, c, hd, hw, wL, hb, hb', hc, hc', hv => by
    obtain rfl : i = n := by omega
    have hn2 := h.n2
    have hvl := h.vl
    have hnl := h.nl
    have hg := wL.get i (by omega)
    obtain ⟨d, b', hs, hd1, hb1, hsub⟩ := sub64_ok' hg ⟨hc, hc'⟩ ⟨hb, hb'⟩
    have hval : wv B64 (w.set i d) = U - q * V + B64 ^ (i + 1) * b' := by
      rw [wv_set (by omega), hv, List.take_of_length_le (by omega), h.eV, Int.pow_succ]
      grind
    have wL' : Lim_ B64 (w.set i d) := wL.set i hd1
    have t0 := wv_nonneg (by decide) wL'
    have t1 := wv_lt (by decide) wL'
    rw [List.length_set, hw] at t1
    have hVp := h.Vpos
    have hP : 0 < B64 ^ (i + 1) := Int.pow_pos (by decide)
    have hQ1 := h.eQ
    have hQ2 := h.eR
    rw [Int.add_mul, Int.one_mul] at hQ2
    have hVlt : V < B64 ^ i := by rw [← h.eV]; have := wv_lt (B := B64) (by decide) h.vL; rwa [h.vl] at this
    by_cases hz : b' = 0
    · subst hz
      rw [Int.mul_zero, Int.add_zero] at hval
      have hqQ : q = Q := by
        have : q * V < (Q + 1) * V := by rw [Int.add_mul, Int.one_mul]; omega
        have := Int.lt_of_mul_lt_mul_right this (by omega)
        omega
      subst hqQ
      refine Res2.succ (g := fun _ _ => some (q, w.set i d)) (fun k m => ?_) (Res2.pure ⟨rfl, by simpa using hw, wL', hval⟩)
      simp only [exact_step.l4, exact_step.b4, Int.toNat_natCast]
      rw [bn (by omega), if_pos (by omega), hs]
      simp only [Option.bind_some]
      rw [if_pos (by omega), bp trivial]
    · obtain rfl : b' = 1 := by omega
      rw [Int.mul_one] at hval
      have hqQ : q = Q + 1 := by
        rcases Int.lt_or_le Q q with h1 | h1
        · omega
        · have : q = Q := by omega
          subst this
          omega
      subst hqQ
      rw [Int.add_mul, Int.one_mul] at hval
      refine Res2.succ (fun k m => ?_) ((step_back v i hnl hvl h.vL (Q + 1) (U - Q * V) (by have := h.Ql; omega) hq' (by omega) (by omega) (wv B64 (w.set i d)) (by rw [hval, h.eV]; omega) i 0 (w.set i d) 0 (by omega) (by simpa using hw) wL' (by omega) (by omega) (by simp [wv])).mono fun x hx => ⟨by rw [hx.1]; omega, hx.2⟩)
      simp only [exact_step.l4, exact_step.b4, Int.toNat_natCast]
      rw [bn (by omega), if_pos (by omega), hs]
      simp only [Option.bind_some]
      rw [if_pos (by omega), bn (by omega)]
      rfl
  | d + 1, i, w, b, c, hd, hw, wL, hb, hb', hc, hc', hv => by
    have hn2 := h.n2
    have hvl := h.vl
    have hnl := h.nl
    have hg := wL.get i (by omega)
    have hgv := h.vL.get i (by omega)
    have e1 : IntKind.wrap .i64 ((i : Int) + 1) = ((i + 1 : Nat) : Int) := by rw [wi _ (by omega) (by omega)]; omega
    -- one product with what is carried
    have hp0 := Int.mul_nonneg hq hgv.1
    have hp1 : q * v.getD i 0 ≤ (B64 - 1) * (B64 - 1) := Int.mul_le_mul (by omega) (by omega) hgv.1 (by decide)
    have hlo : 0 ≤ (q * v.getD i 0 % B64 + c + 0) % B64 ∧ (q * v.getD i 0 % B64 + c + 0) % B64 < B64 := by simp only [B64]; omega
    have hcar : ∃ c', IntKind.wrap .u64 (q * v.getD i 0 / B64 + (q * v.getD i 0 % B64 + c + 0) / B64) = c' ∧ 0 ≤ c' ∧ c' < B64 ∧ q * v.getD i 0 + c = (q * v.getD i 0 % B64 + c + 0) % B64 + B64 * c' := by
      generalize q * v.getD i 0 = p at *
      refine ⟨_, rfl, ?_⟩
      rw [wu]
      simp only [B64] at *
      omega
    obtain ⟨c', ec, hc0, hc1, hmul⟩ := hcar
    obtain ⟨d', b', hs, hd1, hb1, hsub⟩ := sub64_ok' hg hlo ⟨hb, hb'⟩
    refine Res2.succ (fun k m => ?_) (step_sub h q hq hq' hQ hQ' d (i + 1) (w.set i d') b' c' (by omega) (by simpa using hw) (wL.set i hd1) hb1.1 hb1.2 hc0 hc1 ?_)
    · simp only [exact_step.l4, exact_step.b4, Int.toNat_natCast, e1, mul64_ok q _ hq hq' hgv.1 hgv.2, Option.bind_some]
      rw [bp (by omega), if_pos (by omega), add64_ok' (by have := Int.emod_nonneg (q * v.getD i 0) (show B64 ≠ 0 by decide); exact this) hc (by omega) (by omega)]
      simp only [Option.bind_some]
      rw [if_pos (by omega)]
      have hs' : sub64 (w.getD i 0) ((q * v.getD i 0 % 18446744073709551616 + c + 0) % 18446744073709551616) b = some (d', b') := hs
      rw [hs']
      simp only [Option.bind_some]
      have ec' : IntKind.wrap .u64 (q * v.getD i 0 / 18446744073709551616 + (q * v.getD i 0 % 18446744073709551616 + c + 0) / 18446744073709551616) = c' := ec
      rw [if_pos (by omega), ec']
    · rw [wv_set (by omega), hv, wv_take_succ i (by omega), Int.pow_succ]
      generalize v.getD i 0 = x at *
      generalize w.getD i 0 = y at *
      generalize (q * x % B64 + c + 0) % B64 = lo at *
      grind
end Go.Proofs.YthghchjbomlpfaaGreat.Ev

namespace Go.Proofs.YthghchjbomlpfaaGreat.Ev
set_option linter.unusedVariables false

theorem step_ok {n : Nat} {u v : List Int} {u2 u1 u0 v1 v2 U V Q : Int} (h : KD n u v u2 u1 u0 v1 v2 U V Q) :
    Res (fun k => exact_step k u v) fun x => x.1 = Q ∧ x.2.length = n + 1 ∧ Lim_ B64 x.2 ∧ wv B64 x.2 = U - Q * V := by
  have hl := h.lims
  have hn2 := h.n2
  have hnl := h.nl
  have hul := h.ul
  have hvl := h.vl
  have hQ0 := h.Ql
  have hQB := h.Qlt
  have e1 : IntKind.wrap .i64 ((v.length : Int) - 1) = ((n - 1 : Nat) : Int) := by rw [wi _ (by omega) (by omega)]; omega
  have h3 : ∀ q, 0 ≤ q → Q ≤ q → q ≤ Q + 1 → q < B64 → Res2 (fun k m => exact_step.l3 k m n q u v) fun x => x.1 = Q ∧ x.2.length = n + 1 ∧ Lim_ B64 x.2 ∧ wv B64 x.2 = U - Q * V := by
    intro q a1 a2 a3 a4
    refine Res2.succ (fun k m => ?_) (step_sub h q a1 a4 a2 a3 n 0 u 0 0 (by omega) hul h.uL (by omega) (by omega) (by omega) (by decide) (by simp [wv, h.eU]))
    simp only [exact_step.l3, exact_step.b3]
    rfl
  have hfirst := h.first
  have htop := h.top
  by_cases hc : v1 ≤ u2
  · have he : u2 = v1 := by omega
    have hg := step_guess h _ h3 (B64 - 1).toNat (B64 - 1) (u1 + v1) (by decide) (by omega) (by omega) (by rw [he]; grind) (by omega) (by omega)
    have hg0 : Res2 (fun k m => exact_step.l0 k m n (B64 - 1) ((u1 + v1) % B64) ((u1 + v1) / B64) u v) fun x => x.1 = Q ∧ x.2.length = n + 1 ∧ Lim_ B64 x.2 ∧ wv B64 x.2 = U - Q * V := Res2.succ (fun k m => by simp only [exact_step.l0, exact_step.b0]) hg
    refine Res.of_eq hg0.diag fun k => ?_
    simp only [exact_step, exact_step.top, e1, Int.toNat_natCast]
    rw [if_pos (by omega), if_pos (by omega), hvl, h.f1, h.e2, bp hc, if_pos (by omega), if_pos (by omega), h.e1, add64_ok' hl.2.1.1 (by omega) (by omega) (by omega)]
    simp only [Option.bind_some, Int.add_zero]
    rfl
  · obtain ⟨x, hx, rfl⟩ := div64_ok u2 u1 v1 hl.1.1 (by omega) hl.2.1.1 hl.2.1.2 hl.2.2.2.1.2
    have hN : (0 : Int) ≤ u2 * B64 + u1 := by have := hl.1.1; have := hl.2.1.1; simp only [B64] at *; omega
    have hv1 := hl.2.2.2.1
    have hdm := Int.emod_add_mul_ediv (u2 * B64 + u1) v1
    rw [Int.mul_comm v1] at hdm
    have m0 := Int.emod_nonneg (u2 * B64 + u1) (show v1 ≠ 0 by omega)
    have m1 := Int.emod_lt_of_pos (u2 * B64 + u1) (show 0 < v1 by omega)
    have hq0 : 0 ≤ (u2 * B64 + u1) / v1 := Int.ediv_nonneg hN (by omega)
    have hqB : (u2 * B64 + u1) / v1 < B64 := by
      rw [Int.ediv_lt_iff_lt_mul (by omega)]
      have := Int.mul_le_mul_of_nonneg_right (show u2 + 1 ≤ v1 by omega) (show (0 : Int) ≤ B64 by decide)
      rw [Int.mul_comm v1, Int.add_mul, Int.one_mul] at this
      have := hl.2.1.2
      omega
    have hQq : Q ≤ (u2 * B64 + u1) / v1 := by rw [Int.le_ediv_iff_mul_le (by omega)]; exact hfirst
    have hg := step_guess h _ h3 ((u2 * B64 + u1) / v1).toNat ((u2 * B64 + u1) / v1) ((u2 * B64 + u1) % v1) (by omega) hQq hqB (by omega) m0 (by omega)
    rw [Int.emod_eq_of_lt m0 (by omega), Int.ediv_eq_zero_of_lt m0 (by omega)] at hg
    have hg0 : Res2 (fun k m => exact_step.l0 k m n ((u2 * B64 + u1) / v1) ((u2 * B64 + u1) % v1) 0 u v) fun x => x.1 = Q ∧ x.2.length = n + 1 ∧ Lim_ B64 x.2 ∧ wv B64 x.2 = U - Q * V := Res2.succ (fun k m => by simp only [exact_step.l0, exact_step.b0]) hg
    refine Res.of_eq (g := fun k => (bits_Div64 k u2 u1 v1).bind fun pt17 => exact_step.l0 k k n pt17.1 pt17.2 0 u v) ?_ (fun k => ?_)
    · refine Res.bind (R := fun t => _ = t) ⟨_, hx, rfl⟩ ?_
      rintro _ rfl
      exact hg0.diag
    · simp only [exact_step, exact_step.top, e1, Int.toNat_natCast]
      rw [if_pos (by omega), if_pos (by omega), hvl, h.f1, h.e2, bn hc, if_pos (by omega), if_pos (by omega), if_pos (by omega), h.e1]

theorem div1_loop (a : List Int) (ha : Lim_ B64 a) (hla : a.length ≤ 17592186044416) (b : Int) (hb : 1 ≤ b) (hb' : b < B64) (Q : List Int × List Int → Prop)
    (hQ : ∀ q r : List Int, Lim_ B64 q → Lim_ B64 r → Can q → Can r → wv B64 q = wv B64 a / b → wv B64 r = wv B64 a % b → q.length ≤ a.length → r.length ≤ 1 → Q (q, r)) :
    ∀ (i : Nat) (rest : Int) (q : List Int), i ≤ a.length → q.length = a.length → Lim_ B64 q → 0 ≤ rest → rest < b → wv B64 (q.take i) = 0 → wv B64 a = wv B64 q * b + rest * B64 ^ i + wv B64 (a.take i) →
      Res2 (fun k m => exact_divide.l0 k m rest ((i : Int) - 1) a [b] q) Q
  | 0, rest, q, hi, hq, hL, hr0, hr, hz, hv => by
    obtain ⟨t, h1, h2, h3, h4⟩ := trim_ok q (by omega)
    obtain ⟨t', g1, g2, g3, g4⟩ := trim_ok [rest] (by simp)
    have hrL : Lim_ B64 [rest] := Lim_.cons ⟨hr0, by omega⟩ (fun _ h => by simp at h)
    simp only [List.take_zero, wv, Int.add_zero, Int.pow_zero, Int.mul_one] at hv
    have hd := div_uniq hv hr0 hr
    refine Res2.succ (g := fun k m => (exact_trim k q).bind fun t4 => (exact_trim k [rest]).bind fun t5 => some (List.take t4 (List.drop 0 q), List.take t5 (List.drop 0 [rest]))) (fun k m => ?_)
      (Res2.call (R := fun x => t = x) (g := fun k m t4 => (exact_trim k [rest]).bind fun t5 => some (List.take t4 (List.drop 0 q), List.take t5 (List.drop 0 [rest]))) ⟨t, h2, rfl⟩ ?_)
    · simp only [exact_divide.l0, exact_divide.b0]
      rw [bn (by omega)]
    · rintro t rfl
      refine Res2.call (R := fun x => t' = x) (g := fun k m t5 => some (List.take t (List.drop 0 q), List.take t5 (List.drop 0 [rest]))) ⟨t', g2, rfl⟩ ?_
      rintro t' rfl
      refine Res2.pure (hQ _ _ (hL.take t) (hrL.take t') h3 g3 ?_ ?_ ?_ ?_)
      · rw [List.drop_zero, h4, hd.1]
      · rw [List.drop_zero, g4, hd.2]; simp [wv]
      · rw [List.length_take]; simp; omega
      · rw [List.length_take]; simp; omega
  | i + 1, rest, q, hi, hq, hL, hr0, hr, hz, hv => by
    have hg := ha.get i (by omega)
    have e1 : IntKind.wrap .i64 (((i + 1 : Nat) : Int) - 1 - 1) = (i : Int) - 1 := by rw [wi _ (by omega) (by omega)]; omega
    have e0 : ((i + 1 : Nat) : Int) - 1 = (i : Int) := by omega
    have hP : 0 < B64 ^ i := Int.pow_pos (by decide)
    obtain ⟨x, hx, rfl⟩ := div64_ok rest (a.getD i 0) b hr0 hr hg.1 hg.2 hb'
    have hdm := Int.emod_add_mul_ediv (rest * B64 + a.getD i 0) b
    rw [Int.mul_comm b] at hdm
    have m0 := Int.emod_nonneg (rest * B64 + a.getD i 0) (show b ≠ 0 by omega)
    have m1 := Int.emod_lt_of_pos (rest * B64 + a.getD i 0) (show 0 < b by omega)
    have hN : 0 ≤ rest * B64 + a.getD i 0 := by have := Int.mul_nonneg hr0 (show (0 : Int) ≤ B64 by decide); omega
    have hq0 : 0 ≤ (rest * B64 + a.getD i 0) / b := Int.ediv_nonneg hN (by omega)
    have hqB : (rest * B64 + a.getD i 0) / b < B64 := by
      rw [Int.ediv_lt_iff_lt_mul (by omega)]
      have := Int.mul_le_mul_of_nonneg_right (show rest + 1 ≤ b by omega) (show (0 : Int) ≤ B64 by decide)
      rw [Int.mul_comm b, Int.add_mul, Int.one_mul] at this
      omega
    -- the limb was zero
    rw [wv_take_succ i (by omega)] at hz
    have z0 := wv_nonneg (by decide) (hL.take i)
    have z1 := Int.mul_nonneg (show 0 ≤ B64 ^ i by omega) (hL.get i (by omega)).1
    have z2 : q.getD i 0 = 0 := by
      have : B64 ^ i * q.getD i 0 = B64 ^ i * 0 := by omega
      exact Int.eq_of_mul_eq_mul_left (by omega) this
    refine Res2.succ (g := fun k m => (bits_Div64 k rest (a.getD i 0) b).bind fun pt2 => if 0 ≤ (i : Int) ∧ (i : Int) < (q.length : Int) then (exact_divide.l0 k m pt2.2 ((i : Int) - 1) a [b] (List.set q i pt2.1)) else none) (fun k m => ?_)
      (Res2.call (R := fun t => _ = t) (g := fun k m pt2 => if 0 ≤ (i : Int) ∧ (i : Int) < (q.length : Int) then (exact_divide.l0 k m pt2.2 ((i : Int) - 1) a [b] (List.set q i pt2.1)) else none) ⟨_, hx, rfl⟩ ?_)
    · simp only [exact_divide.l0, exact_divide.b0, e1]
      simp only [e0, Int.toNat_natCast]
      rw [bp (by omega), if_pos (by omega), if_pos (by simp)]
      rfl
    · rintro _ rfl
      refine Res2.of_eq (div1_loop a ha hla b hb hb' Q hQ i ((rest * B64 + a.getD i 0) % b) (q.set i ((rest * B64 + a.getD i 0) / b)) (by omega) (by simpa using hq) (hL.set i ⟨hq0, hqB⟩) m0 m1 ?_ ?_) (fun k m => by rw [if_pos (by omega)])
      · rw [List.take_set_of_le (Nat.le_refl i)]; omega
      · rw [wv_set (by omega), hv, z2, wv_take_succ i (by omega), Int.pow_succ]
        grind
end Go.Proofs.YthghchjbomlpfaaGreat.Ev

namespace Go.Proofs.YthghchjbomlpfaaGreat.Ev
set_option linter.unusedVariables false

def DivP (a b : List Int) (x : List Int × List Int) : Prop :=
  Lim_ B64 x.1 ∧ Lim_ B64 x.2 ∧ Can x.1 ∧ Can x.2 ∧ wv B64 x.1 = wv B64 a / wv B64 b ∧ wv B64 x.2 = wv B64 a % wv B64 b ∧ x.1.length ≤ a.length ∧ x.2.length ≤ a.length

theorem getD_drop (l : List Int) (i j : Nat) : (l.drop i).getD j 0 = l.getD (i + j) 0 := by simp [List.getD, List.getElem?_drop]
theorem getD_take (l : List Int) (i j : Nat) (h : j < i) : (l.take i).getD j 0 = l.getD j 0 := by simp [List.getD, h]

theorem set_drop_ge (l : List Int) (i : Nat) (x : Int) : (l.set i x).drop (i + 1) = l.drop (i + 1) := by
  rw [List.drop_set]; simp

theorem div_back (s : Nat) (hs : s ≤ 63) (n : Nat) (hn : n ≤ 17592186044416) (q : List Int) (hql : q.length ≤ 17592186044417) (R : Int) (P : List Int × List Int → Prop)
    (hP : ∀ w : List Int, n < w.length → Lim_ B64 w → wv B64 (w.take n) = R / 2 ^ s → Res2 (fun k m => exact_divide.l2 k m s n n n w q) P) :
    ∀ (d i : Nat) (w : List Int), i + d = n → n < w.length → Lim_ B64 w → wv B64 (w.drop n) = 0 → wv B64 (w.take i) + B64 ^ i * (wv B64 (w.drop i) / 2 ^ s) = R / 2 ^ s → Res2 (fun k m => exact_divide.l2 k m s n n i w q) P
  | 0, i, w, hd, hw, wL, hz, hv => by
    obtain rfl : i = n := by omega
    rw [hz] at hv
    exact hP w hw wL (by simpa using hv)
  | d + 1, i, w, hd, hw, wL, hz, hv => by
    have hx := wL.get i (by omega)
    have hy := wL.get (i + 1) (by omega)
    have hp : (0 : Int) < 2 ^ s := Int.pow_pos (by omega)
    have hp4 : (0 : Int) < 2 ^ (64 - s) := Int.pow_pos (by omega)
    have e64 : (18446744073709551616 : Int) = 2 ^ s * 2 ^ (64 - s) := by rw [← Int.pow_add, show s + (64 - s) = 64 by omega]; rfl
    have e1 : IntKind.wrap .i64 ((i : Int) + 1) = ((i + 1 : Nat) : Int) := by rw [wi _ (by omega) (by omega)]; omega
    have e2 : IntKind.wrap .i64 (64 - (s : Int)) = ((64 - s : Nat) : Int) := by rw [wi _ (by omega) (by omega)]; omega
    have m1 : min s 64 = s := by omega
    have m2 : min (64 - s) 64 = 64 - s := by omega
    have hf : Int.fdiv (w.getD i 0) (2 ^ s) = w.getD i 0 / 2 ^ s := fd _ _ (by omega)
    have hx0 : 0 ≤ w.getD i 0 / 2 ^ s := Int.ediv_nonneg hx.1 (by omega)
    have hx1 : w.getD i 0 / 2 ^ s < 2 ^ (64 - s) := by rw [Int.ediv_lt_iff_lt_mul hp, Int.mul_comm, ← e64]; exact hx.2
    have hg : ∀ z, (w.set i z).getD i 0 = z := fun z => by simp [List.getD, show i < w.length by omega]
    -- what is above
    have hdr : wv B64 (w.drop i) = w.getD i 0 + B64 * wv B64 (w.drop (i + 1)) := wv_drop i (by omega)
    have hD0 := wv_nonneg (by decide) (wL.drop (i + 1))
    have hsh : (w.getD i 0 + B64 * wv B64 (w.drop (i + 1))) / 2 ^ s = w.getD i 0 / 2 ^ s + 2 ^ (64 - s) * wv B64 (w.drop (i + 1)) := by
      have : w.getD i 0 + B64 * wv B64 (w.drop (i + 1)) = w.getD i 0 + 2 ^ s * (2 ^ (64 - s) * wv B64 (w.drop (i + 1))) := by rw [← Int.mul_assoc, ← e64]
      rw [this, Int.add_mul_ediv_left _ _ (by omega)]
    by_cases h0s : 0 < s
    · have q0 := Int.emod_nonneg (w.getD (i + 1) 0 * 2 ^ (64 - s)) (show (18446744073709551616 : Int) ≠ 0 by omega)
      have q1 := Int.emod_lt_of_pos (w.getD (i + 1) 0 * 2 ^ (64 - s)) (show (0 : Int) < 18446744073709551616 by omega)
      obtain ⟨c, hc⟩ := shl_mult (w.getD (i + 1) 0) (64 - s) (by omega)
      have hor := or_add' (w.getD (i + 1) 0 * 2 ^ (64 - s) % 18446744073709551616) (w.getD i 0 / 2 ^ s) (64 - s) (by omega) q0 q1 ⟨c, hc⟩ hx0 hx1
      have hsum : w.getD (i + 1) 0 * 2 ^ (64 - s) % 18446744073709551616 + w.getD i 0 / 2 ^ s < 18446744073709551616 := by
        have h2 : c < 2 ^ s := by
          rw [hc, e64, Int.mul_comm (2 ^ s)] at q1
          exact Int.lt_of_mul_lt_mul_left q1 (by omega)
        have h3 := Int.mul_le_mul_of_nonneg_left (show c + 1 ≤ 2 ^ s by omega) (show (0 : Int) ≤ 2 ^ (64 - s) by omega)
        rw [Int.mul_comm (2 ^ (64 - s)) (2 ^ s), ← e64, Int.mul_add, Int.mul_one] at h3
        omega
      have eo : IntKind.wrap .u64 (((BitVec.ofInt 64 (w.getD i 0 / 2 ^ s) ||| BitVec.ofInt 64 (IntKind.wrap .u64 (w.getD (i + 1) 0 * 2 ^ (64 - s)))).toNat : Nat) : Int) = w.getD (i + 1) 0 * 2 ^ (64 - s) % 18446744073709551616 + w.getD i 0 / 2 ^ s := by
        rw [wu (w.getD (i + 1) 0 * 2 ^ (64 - s)), hor, ule (by omega) hsum]
      refine Res2.succ (fun k m => ?_) (div_back s hs n hn q hql R P hP d (i + 1) (w.set i (w.getD (i + 1) 0 * 2 ^ (64 - s) % 18446744073709551616 + w.getD i 0 / 2 ^ s)) (by omega) (by simpa using hw) (wL.set i ⟨by omega, hsum⟩) ?_ ?_)
      · simp only [exact_divide.l2, exact_divide.b2, Int.toNat_natCast, e1, e2, m1, m2, hf, List.length_set, hg]
        rw [bp (by omega), if_pos (by omega), if_neg (by omega), if_pos (by omega), bp (by omega), bp (by omega), if_pos (by omega), if_pos (by omega), if_neg (by omega), if_pos (by omega), getD_set_ne (by omega), eo, List.set_set]
      · rw [List.drop_set, if_pos (by omega)]; exact hz
      · rw [wv_take_succ i (by simp; omega), List.take_set_of_le (Nat.le_refl i), hg, set_drop_ge, ← hv, hdr, hsh, Int.pow_succ]
        have hD : wv B64 (w.drop (i + 1)) = w.getD (i + 1) 0 + B64 * wv B64 (w.drop (i + 1 + 1)) := wv_drop (i + 1) (by omega)
        have h5 : 2 ^ (64 - s) * wv B64 (w.drop (i + 1)) = w.getD (i + 1) 0 * 2 ^ (64 - s) % 18446744073709551616 + 18446744073709551616 * (wv B64 (w.drop (i + 1)) / 2 ^ s) := by
          have a1 := Int.emod_add_mul_ediv (2 ^ (64 - s) * wv B64 (w.drop (i + 1))) 18446744073709551616
          have a2 : 2 ^ (64 - s) * wv B64 (w.drop (i + 1)) % 18446744073709551616 = w.getD (i + 1) 0 * 2 ^ (64 - s) % 18446744073709551616 := by
            rw [hD, Int.mul_add, show 2 ^ (64 - s) * (B64 * wv B64 (w.drop (i + 1 + 1))) = 18446744073709551616 * (2 ^ (64 - s) * wv B64 (w.drop (i + 1 + 1))) by simp only [B64]; grind, Int.add_mul_emod_self_left, Int.mul_comm]
          have a3 : 2 ^ (64 - s) * wv B64 (w.drop (i + 1)) / 18446744073709551616 = wv B64 (w.drop (i + 1)) / 2 ^ s := by
            rw [e64, Int.mul_comm (2 ^ s), Int.mul_ediv_mul_of_pos _ _ hp4]
          rw [a2, a3] at a1
          exact a1.symm
        rw [h5]
        simp only [B64]
        grind
    · obtain rfl : s = 0 := by omega
      refine Res2.succ (fun k m => ?_) (div_back 0 hs n hn q hql R P hP d (i + 1) (w.set i (w.getD i 0 / 2 ^ 0)) (by omega) (by simpa using hw) (wL.set i ⟨hx0, by simpa using hx.2⟩) ?_ ?_)
      · simp only [exact_divide.l2, exact_divide.b2, Int.toNat_natCast, e1, m1, hf, List.length_set]
        rw [bp (by omega), if_pos (by omega), if_neg (by omega), if_pos (by omega), bn (by omega)]
      · rw [List.drop_set, if_pos (by omega)]; exact hz
      · rw [wv_take_succ i (by simp; omega), List.take_set_of_le (Nat.le_refl i), hg, set_drop_ge, ← hv, hdr, Int.pow_succ]
        simp only [Int.pow_zero, Int.ediv_one]
        grind

theorem div_steps (s : Nat) (hs : s ≤ 63) (t7 v : List Int) (n : Nat) (hn2 : 2 ≤ n) (hn : n ≤ 17592186044416) (hv : v = (t7.drop 0).take n) (hvl : v.length = n) (vL : Lim_ B64 v) (V A : Int) (eV : wv B64 v = V) (hVp : 1 ≤ v.getD (n - 1) 0) (la : Nat) (hla : la ≤ 17592186044416) (P : List Int × List Int → Prop)
    (hP : ∀ w q : List Int, w.length = la + 1 → Lim_ B64 w → q.length + n = la + 1 → Lim_ B64 q → 0 ≤ wv B64 w → wv B64 w < V → A = wv B64 w + V * wv B64 q → Res2 (fun k m => exact_divide.l2 k m s n n 0 w q) P) :
    ∀ (j : Nat) (w q : List Int), j + n ≤ la + 1 → w.length = la + 1 → Lim_ B64 w → q.length + n = la + 1 → Lim_ B64 q → wv B64 (q.take j) = 0 → wv B64 (w.drop j) < V → A = wv B64 w + V * wv B64 q →
      Res2 (fun k m => exact_divide.l1 k m s n n ((j : Int) - 1) t7 w q) P
  | 0, w, q, hj, hw, wL, hq, qL, hz, hlt, hA => by
    refine Res2.succ (fun k m => ?_) (hP w q hw wL hq qL (wv_nonneg (by decide) wL) (by simpa using hlt) hA)
    simp only [exact_divide.l1, exact_divide.b1]
    rw [bn (by omega)]
  | j + 1, w, q, hj, hw, wL, hq, qL, hz, hlt, hA => by
    have hjl : j < w.length := by omega
    have hg := wL.get j hjl
    have hDn := wv_nonneg (by decide) (wL.drop (j + 1))
    -- what is divided now
    have hdr : wv B64 (w.drop j) = w.getD j 0 + B64 * wv B64 (w.drop (j + 1)) := wv_drop j (by omega)
    have hUlt : wv B64 (w.drop j) < V * B64 := by
      have := Int.mul_le_mul_of_nonneg_left (show wv B64 (w.drop (j + 1)) + 1 ≤ V by omega) (show (0 : Int) ≤ B64 by decide)
      rw [Int.mul_add, Int.mul_one] at this
      rw [Int.mul_comm V, hdr]
      omega
    have hVlt : V < B64 ^ n := by rw [← eV]; have := wv_lt (B := B64) (by decide) vL; rwa [hvl] at this
    have hU0 := wv_nonneg (by decide) (wL.drop j)
    have hVpos : 0 < V := by omega
    -- its part
    have hsp := wv_split (B := B64) (n + 1) (l := w.drop j) (by simp; omega)
    rw [List.drop_drop] at hsp
    have hPn : (0 : Int) < B64 ^ (n + 1) := Int.pow_pos (by decide)
    have hX0 := wv_nonneg (by decide) ((wL.drop j).take (n + 1))
    have hY0 := wv_nonneg (by decide) (wL.drop (j + (n + 1)))
    have hrest : wv B64 (w.drop (j + (n + 1))) = 0 := by
      have h1 : V * B64 ≤ B64 ^ (n + 1) := by rw [Int.pow_succ]; exact Int.mul_le_mul_of_nonneg_right (by omega) (by decide)
      rcases Int.lt_or_le 0 (wv B64 (w.drop (j + (n + 1)))) with h2 | h2
      · have := Int.mul_le_mul_of_nonneg_left (show 1 ≤ wv B64 (w.drop (j + (n + 1))) by omega) (show 0 ≤ B64 ^ (n + 1) by omega)
        omega
      · omega
    rw [hrest, Int.mul_zero, Int.add_zero] at hsp
    have hdm := Int.emod_add_mul_ediv (wv B64 (w.drop j)) V
    have hm0 := Int.emod_nonneg (wv B64 (w.drop j)) (show V ≠ 0 by omega)
    have hm1 := Int.emod_lt_of_pos (wv B64 (w.drop j)) hVpos
    have hQ0 : 0 ≤ wv B64 (w.drop j) / V := Int.ediv_nonneg hU0 (by omega)
    have hKD : KD n ((w.drop j).take (n + 1)) v _ _ _ _ _ (wv B64 (w.drop j)) V (wv B64 (w.drop j) / V) :=
      ⟨hn2, hn, by rw [List.length_take, List.length_drop]; omega, hvl, (wL.drop j).take _, vL, rfl, rfl, rfl, rfl, rfl, hsp.symm, eV, hVp, hUlt, hQ0, by rw [Int.mul_comm]; omega, by rw [Int.add_mul, Int.one_mul, Int.mul_comm]; omega⟩
    have hst := step_ok hKD
    have hQB := hKD.Qlt
    have e1 : IntKind.wrap .i64 ((j : Int) + (n : Int)) = ((j + n : Nat) : Int) := by rw [wi _ (by omega) (by omega)]; omega
    have e2 : IntKind.wrap .i64 (((j + n : Nat) : Int) + 1) = ((j + n + 1 : Nat) : Int) := by rw [wi _ (by omega) (by omega)]; omega
    have e3 : IntKind.wrap .i64 ((j : Int) - 1) = (j : Int) - 1 := by rw [wi _ (by omega) (by omega)]
    have e0 : ((j + 1 : Nat) : Int) - 1 = (j : Int) := by omega
    have e4 : j + n + 1 - j = n + 1 := by omega
    -- the quotient's limb was zero
    rw [wv_take_succ j (by omega)] at hz
    have hPj : 0 < B64 ^ j := Int.pow_pos (by decide)
    have z0 := wv_nonneg (by decide) (qL.take j)
    have z1 := Int.mul_nonneg (show 0 ≤ B64 ^ j by omega) (qL.get j (by omega)).1
    have z2 : q.getD j 0 = 0 := by
      have : B64 ^ j * q.getD j 0 = B64 ^ j * 0 := by omega
      exact Int.eq_of_mul_eq_mul_left (by omega) this
    refine Res2.succ (g := fun k m => (exact_step k ((w.drop j).take (n + 1)) v).bind fun pt10 => exact_divide.l1 k m s n n ((j : Int) - 1) t7 (w.take j ++ (pt10.2 ++ w.drop (j + (n + 1)))) (q.set j pt10.1)) (fun k m => ?_)
      (Res2.call (g := fun k m pt10 => exact_divide.l1 k m s n n ((j : Int) - 1) t7 (w.take j ++ (pt10.2 ++ w.drop (j + (n + 1)))) (q.set j pt10.1)) hst ?_)
    · simp only [exact_divide.l1, exact_divide.b1, e0]
      simp only [Int.toNat_natCast, e1, e2, e3, e4, ← hv]
      rw [bp (by omega), if_pos (by omega), if_pos (by omega)]
      congr 1
      funext pt
      rw [if_pos (by omega)]
    · rintro ⟨x1, x2⟩ ⟨hx1, hx2, hx3, hx4⟩
      simp only at hx1 hx2 hx3 hx4
      subst hx1
      have hsw := wv_split (B := B64) j (l := w) (by omega)
      have hnl : (w.take j).length = j := by rw [List.length_take]; omega
      refine div_steps s hs t7 v n hn2 hn hv hvl vL V A eV hVp la hla P hP j (w.take j ++ (x2 ++ w.drop (j + (n + 1)))) (q.set j (wv B64 (w.drop j) / V)) (by omega) ?_ ((wL.take j).append (hx3.append (wL.drop _))) (by simpa using hq) (qL.set j ⟨hQ0, hQB⟩) ?_ ?_ ?_
      · rw [List.length_append, List.length_append, hnl, hx2, List.length_drop]; omega
      · rw [List.take_set_of_le (Nat.le_refl j)]; omega
      · rw [List.drop_left' hnl, wv_append, hrest, hx4, Int.mul_zero, Int.add_zero, Int.mul_comm]; omega
      · rw [wv_append, hnl, wv_append, hrest, hx4, wv_set (by omega), z2, hA, hsw]
        grind
end Go.Proofs.YthghchjbomlpfaaGreat.Ev

namespace Go.Proofs.YthghchjbomlpfaaGreat.Ev
set_option linter.unusedVariables false

theorem pow_le_iff {a b : Nat} (h : (B64 : Int) ^ a < B64 ^ b) : a < b := by
  rcases Nat.lt_or_ge a b with h1 | h1
  · exact h1
  · obtain ⟨d, rfl⟩ := Nat.exists_eq_add_of_le h1
    rw [Int.pow_add] at h
    have h2 : (0 : Int) < B64 ^ d := Int.pow_pos (by decide)
    have h3 : (0 : Int) < B64 ^ b := Int.pow_pos (by decide)
    have := Int.mul_le_mul_of_nonneg_left (show (1 : Int) ≤ B64 ^ d by omega) (show (0 : Int) ≤ B64 ^ b by omega)
    omega

theorem can_top {l : List Int} (hL : Lim_ B64 l) (hc : Can l) (hn : l ≠ []) : 1 ≤ l.getD (l.length - 1) 0 := by
  obtain ⟨m, x, rfl⟩ : ∃ m x, l = m ++ [x] := ⟨l.dropLast, l.getLast hn, (List.dropLast_concat_getLast hn).symm⟩
  have h1 := hL x (by simp)
  have h2 : x ≠ 0 := fun e => by subst e; exact hc (by simp)
  have : (m ++ [x]).getD ((m ++ [x]).length - 1) 0 = x := by simp [List.getD]
  rw [this]; omega

theorem can_wv {l : List Int} (hL : Lim_ B64 l) (hc : Can l) : l = [] ∨ 0 < wv B64 l := by
  by_cases hn : l = []
  · exact .inl hn
  · have := can_lower (B := B64) (by decide) hL hc hn
    have h2 : (0 : Int) < B64 ^ (l.length - 1) := Int.pow_pos (by decide)
    exact .inr (by omega)

theorem divide_ok (a b : List Int) (hla : a.length ≤ 17592186044415) (hlb : b.length ≤ 17592186044415) (ha : Lim_ B64 a) (hb : Lim_ B64 b) (hca : Can a) (hcb : Can b) (hbn : b ≠ []) : Res (fun k => exact_divide k a b) (DivP a b) := by
  have hbl := can_lower (B := B64) (by decide) hb hcb hbn
  have hP0 : (0 : Int) < B64 ^ (b.length - 1) := Int.pow_pos (by decide)
  have hA0 := wv_nonneg (by decide) ha
  have hAlt := wv_lt (by decide) ha
  have hBlt := wv_lt (by decide) hb
  have hbl0 : 0 < b.length := List.length_pos_iff.2 hbn
  refine Res.of_eq (g := fun k => (exact_compareWords k a b).bind fun t1 => bif decide (t1 < 0) then (some (([] : List Int), a)) else (bif decide ((b.length : Int) = 1) then (if 0 ≤ (a.length : Int) then (if (Int.toNat (a.length : Int)) ≤ 281474976710656 / 8 then (exact_divide.l0 k k 0 (IntKind.wrap .i64 ((a.length : Int) - 1)) a b (List.replicate (Int.toNat (a.length : Int)) 0 : List Int)) else none) else none) else (if 0 ≤ (IntKind.wrap .i64 ((b.length : Int) - 1)) ∧ (IntKind.wrap .i64 ((b.length : Int) - 1)) < (b.length : Int) then ((bits_LeadingZeros64 k (List.getD b (Int.toNat (IntKind.wrap .i64 ((b.length : Int) - 1))) 0)).bind fun t6 => (exact_shiftUp k b t6).bind fun t7 => (exact_trim k t7).bind fun t8 => (exact_shiftUp k a t6).bind fun t9 => if 0 ≤ (IntKind.wrap .i64 ((IntKind.wrap .i64 ((a.length : Int) - (t8 : Int))) + 1)) then (if (Int.toNat (IntKind.wrap .i64 ((IntKind.wrap .i64 ((a.length : Int) - (t8 : Int))) + 1))) ≤ 281474976710656 / 8 then (exact_divide.l1 k k t6 t8 (t8 : Int) (IntKind.wrap .i64 ((a.length : Int) - (t8 : Int))) t7 t9 (List.replicate (Int.toNat (IntKind.wrap .i64 ((IntKind.wrap .i64 ((a.length : Int) - (t8 : Int))) + 1))) 0 : List Int)) else none) else none) else none))) ?_ (fun k => rfl)
  refine Res.bind (R := fun t => cmp (wv B64 a) (wv B64 b) = t) ⟨_, cmpW_ok a b (by omega) (by omega) (by decide) ha hb hca hcb, rfl⟩ ?_
  rintro _ rfl
  have e1 : IntKind.wrap .i64 ((a.length : Int) - 1) = (a.length : Int) - 1 := by rw [wi _ (by omega) (by omega)]
  have e2 : IntKind.wrap .i64 ((b.length : Int) - 1) = ((b.length - 1 : Nat) : Int) := by rw [wi _ (by omega) (by omega)]; omega
  by_cases hc : wv B64 a < wv B64 b
  · have hcmp : cmp (wv B64 a) (wv B64 b) = -1 := by rw [cmp, if_pos hc]
    refine Res.of_eq (Res.pure (r := (([] : List Int), a)) ⟨(fun _ h => by simp at h), ha, can_nil, hca, ?_, ?_, by simp, Nat.le_refl _⟩) (fun k => by rw [hcmp, bp (by omega)])
    · show (0 : Int) = _
      rw [Int.ediv_eq_zero_of_lt hA0 hc]
    · exact (Int.emod_eq_of_lt hA0 hc).symm
  · have hcmp : ¬ cmp (wv B64 a) (wv B64 b) < 0 := by rw [cmp, if_neg hc]; split <;> omega
    have hlen : b.length ≤ a.length := by
      have : b.length - 1 < a.length := pow_le_iff (by omega)
      omega
    by_cases h1 : b.length = 1
    · obtain ⟨b0, rfl⟩ : ∃ b0, b = [b0] := by
        match b, h1 with
        | [x], _ => exact ⟨x, rfl⟩
      have hb0 := hb b0 (by simp)
      have eb : wv B64 [b0] = b0 := by simp [wv]
      have hbt := can_top hb hcb (by simp)
      simp only [List.length_singleton, Nat.sub_self, List.getD_cons_zero] at hbt
      refine Res.of_eq (div1_loop a ha (by omega) b0 hbt hb0.2 (DivP a [b0]) (fun q r a1 a2 a3 a4 a5 a6 a7 a8 => ⟨a1, a2, a3, a4, by rw [eb]; exact a5, by rw [eb]; exact a6, a7, Nat.le_trans a8 hlen⟩) a.length 0 (List.replicate a.length 0) (Nat.le_refl _) (by simp) (Lim_.rep (by decide) _) (by omega) (by omega) ?_ ?_).diag (fun k => ?_)
      · rw [List.take_replicate, wv_rep]
      · rw [wv_rep, List.take_of_length_le (Nat.le_refl _)]; simp
      · rw [bn hcmp, bp (by simp), if_pos (by omega), if_pos (by omega), e1, Int.toNat_natCast]
    · -- at least two limbs
      have hbt := can_top hb hcb hbn
      have hbg := hb.get (b.length - 1) (by omega)
      obtain ⟨bt, hbt'⟩ := Int.eq_ofNat_of_zero_le hbg.1
      obtain ⟨s, hs, hlead, hS1, hS2⟩ := lead_ok bt (by omega) (by simp only [B64] at *; omega)
      have hp : (0 : Int) < 2 ^ s := Int.pow_pos (by omega)
      have hcast : ((bt * 2 ^ s : Nat) : Int) = (bt : Int) * 2 ^ s := by push_cast; rfl
      have hS1' : (9223372036854775808 : Int) ≤ (bt : Int) * 2 ^ s := by omega
      have hS2' : (bt : Int) * 2 ^ s < 18446744073709551616 := by omega
      refine Res.of_eq (g := fun k => (bits_LeadingZeros64 k (bt : Int)).bind fun t6 => (exact_shiftUp k b t6).bind fun t7 => (exact_trim k t7).bind fun t8 => (exact_shiftUp k a t6).bind fun t9 => if 0 ≤ (IntKind.wrap .i64 ((IntKind.wrap .i64 ((a.length : Int) - (t8 : Int))) + 1)) then (if (Int.toNat (IntKind.wrap .i64 ((IntKind.wrap .i64 ((a.length : Int) - (t8 : Int))) + 1))) ≤ 281474976710656 / 8 then (exact_divide.l1 k k t6 t8 (t8 : Int) (IntKind.wrap .i64 ((a.length : Int) - (t8 : Int))) t7 t9 (List.replicate (Int.toNat (IntKind.wrap .i64 ((IntKind.wrap .i64 ((a.length : Int) - (t8 : Int))) + 1))) 0 : List Int)) else none) else none) ?_ (fun k => by
        rw [bn hcmp, bn (by omega), e2, if_pos (by omega), Int.toNat_natCast, hbt'])
      refine Res.bind (R := fun t => (s : Int) = t) ⟨_, hlead, rfl⟩ ?_
      rintro _ rfl
      refine Res.bind (shift_ok b hb (by omega) s hs) ?_
      rintro t7 ⟨v1, v2, v3⟩
      obtain ⟨t, w1, w2, w3, w4⟩ := trim_ok t7 (by omega)
      refine Res.bind (R := fun x => t = x) ⟨_, w2, rfl⟩ ?_
      rintro _ rfl
      refine Res.bind (shift_ok a ha (by omega) s hs) ?_
      rintro t9 ⟨u1, u2, u3⟩
      have w5 := w4 B64
      rw [v3] at w5
      -- the divisor: its length, its highest limb
      have hbsplit : wv B64 b = wv B64 (b.take (b.length - 1)) + B64 ^ (b.length - 1) * (bt : Int) := by
        have := wv_take_succ (B := B64) (l := b) (b.length - 1) (by omega)
        rw [show b.length - 1 + 1 = b.length by omega, List.take_of_length_le (Nat.le_refl _), hbt'] at this
        exact this
      have hbt0 := wv_nonneg (by decide) (hb.take (b.length - 1))
      have hbt1 := wv_lt (by decide) (hb.take (b.length - 1))
      rw [List.length_take, Nat.min_eq_left (by omega)] at hbt1
      have hVlow : B64 ^ (b.length - 1) * 9223372036854775808 ≤ wv B64 b * 2 ^ s := by
        have h3 := Int.mul_le_mul_of_nonneg_left hS1' (show (0 : Int) ≤ B64 ^ (b.length - 1) by omega)
        have h4 := Int.mul_nonneg hbt0 (show (0 : Int) ≤ 2 ^ s by omega)
        have : wv B64 b * 2 ^ s = wv B64 (b.take (b.length - 1)) * 2 ^ s + B64 ^ (b.length - 1) * ((bt : Int) * 2 ^ s) := by rw [hbsplit]; grind
        omega
      have hVup : wv B64 b * 2 ^ s < B64 ^ b.length := by
        -- (bt + 1) 2^s ≤ B
        have h3 : ((bt : Int) + 1) * 2 ^ s ≤ B64 := by
          have e64 : (B64 : Int) = 2 ^ (64 - s) * 2 ^ s := by rw [← Int.pow_add, show 64 - s + s = 64 by omega]; rfl
          have h5 : (bt : Int) < 2 ^ (64 - s) := by
            have : (bt : Int) * 2 ^ s < 2 ^ (64 - s) * 2 ^ s := by rw [← e64]; exact hS2'
            exact Int.lt_of_mul_lt_mul_right this (by omega)
          rw [e64]
          exact Int.mul_le_mul_of_nonneg_right (by omega) (by omega)
        have h4 : wv B64 b < B64 ^ (b.length - 1) * ((bt : Int) + 1) := by rw [Int.mul_add, Int.mul_one]; omega
        have h5 := Int.mul_lt_mul_of_pos_right h4 hp
        have h6 := Int.mul_le_mul_of_nonneg_left h3 (show (0 : Int) ≤ B64 ^ (b.length - 1) by omega)
        have h7 : B64 ^ b.length = B64 ^ (b.length - 1) * B64 := by rw [← Int.pow_succ, show (b.length - 1).succ = b.length by omega]
        have h8 : B64 ^ (b.length - 1) * ((bt : Int) + 1) * 2 ^ s = B64 ^ (b.length - 1) * (((bt : Int) + 1) * 2 ^ s) := Int.mul_assoc _ _ _
        omega
      have vL : Lim_ B64 (t7.take t) := v2.take t
      have hvl : (t7.take t).length = t := by rw [List.length_take]; omega
      have ht : t = b.length := by
        have g1 := wv_lt (B := B64) (by decide) vL
        rw [hvl, w5] at g1
        have g2 : b.length - 1 < t := pow_le_iff (by omega)
        have hne : t7.take t ≠ [] := fun e => by rw [e] at hvl; simp at hvl; omega
        have g3 := can_lower (B := B64) (by decide) vL w3 hne
        rw [hvl, w5] at g3
        have g4 : t - 1 < b.length := pow_le_iff (by omega)
        omega
      subst ht
      have hne : t7.take b.length ≠ [] := fun e => by rw [e] at hvl; simp at hvl; omega
      have hvtop := can_top vL w3 hne
      rw [hvl] at hvtop
      have e3 : IntKind.wrap .i64 ((a.length : Int) - (b.length : Int)) = ((a.length - b.length : Nat) : Int) := by rw [wi _ (by omega) (by omega)]; omega
      have e4 : IntKind.wrap .i64 (((a.length - b.length : Nat) : Int) + 1) = ((a.length - b.length + 1 : Nat) : Int) := by rw [wi _ (by omega) (by omega)]; omega
      -- the highest limbs of the dividend
      have hwsplit := wv_split (B := B64) (a.length - b.length + 1) (l := t9) (by omega)
      have hw0 := wv_nonneg (by decide) (u2.take (a.length - b.length + 1))
      have htopl : wv B64 (t9.drop (a.length - b.length + 1)) < wv B64 b * 2 ^ s := by
        have hPd : (0 : Int) < B64 ^ (a.length - b.length + 1) := Int.pow_pos (by decide)
        have h3 : wv B64 a * 2 ^ s < B64 ^ a.length * 9223372036854775808 := by
          have : (2 : Int) ^ s ≤ 9223372036854775808 := by
            have h4 : (2 : Nat) ^ s ≤ 2 ^ 63 := Nat.pow_le_pow_right (by omega) hs
            have e : ((2 ^ s : Nat) : Int) = 2 ^ s := by push_cast; rfl
            omega
          have h5 := Int.mul_lt_mul_of_pos_right hAlt hp
          have h6 := Int.mul_le_mul_of_nonneg_left this (show (0 : Int) ≤ B64 ^ a.length from Int.pow_nonneg (by decide))
          omega
        have h4 : B64 ^ a.length = B64 ^ (a.length - b.length + 1) * B64 ^ (b.length - 1) := by rw [← Int.pow_add]; congr 1; omega
        have h5 : B64 ^ (a.length - b.length + 1) * wv B64 (t9.drop (a.length - b.length + 1)) < B64 ^ (a.length - b.length + 1) * (wv B64 b * 2 ^ s) := by
          have h6 := Int.mul_le_mul_of_nonneg_left hVlow (show (0 : Int) ≤ B64 ^ (a.length - b.length + 1) by omega)
          rw [← Int.mul_assoc, ← h4] at h6
          omega
        exact Int.lt_of_mul_lt_mul_left h5 (by omega)
      have hVpos : 0 < wv B64 b := by omega
      have hfin := div_steps s hs t7 (t7.take b.length) b.length (by omega) (by omega) (by simp) hvl vL (wv B64 b * 2 ^ s) (wv B64 a * 2 ^ s) w5 hvtop a.length (by omega) (DivP a b) (fun w q c1 c2 c3 c4 c5 c6 c7 => by
        have hqv : wv B64 a * 2 ^ s = wv B64 q * (wv B64 b * 2 ^ s) + wv B64 w := by rw [c7, Int.mul_comm (wv B64 b * 2 ^ s)]; omega
        -- the same without the shift
        have hwm : wv B64 w = (wv B64 a - wv B64 q * wv B64 b) * 2 ^ s := by grind
        have hwd : wv B64 w / 2 ^ s = wv B64 a - wv B64 q * wv B64 b := by rw [hwm, Int.mul_ediv_cancel _ (by omega)]
        have hr0 : 0 ≤ wv B64 w / 2 ^ s := Int.ediv_nonneg c5 (by omega)
        have hr1 : wv B64 w / 2 ^ s < wv B64 b := by rw [Int.ediv_lt_iff_lt_mul hp]; exact c6
        have hu := div_uniq (a := wv B64 a) (y := wv B64 b) (q := wv B64 q) (r := wv B64 w / 2 ^ s) (by omega) hr0 hr1
        refine div_back s hs b.length (by omega) q (by omega) (wv B64 w) _ (fun w' d1 d2 d3 => ?_) b.length 0 w (by omega) (by omega) c2 ?_ (by simp [wv])
        · obtain ⟨t', k1, k2, k3, k4⟩ := trim_ok q (by omega)
          obtain ⟨t'', m1, m2, m3, m4⟩ := trim_ok (w'.take b.length) (by rw [List.length_take]; omega)
          refine Res2.succ (g := fun k m => (exact_trim k q).bind fun t12 => (exact_trim k (w'.take b.length)).bind fun t13 => some (List.take t12 (List.drop 0 q), List.take t13 (List.drop 0 w'))) (fun k m => ?_)
            (Res2.call (R := fun x => t' = x) (g := fun k m t12 => (exact_trim k (w'.take b.length)).bind fun t13 => some (List.take t12 (List.drop 0 q), List.take t13 (List.drop 0 w'))) ⟨_, k2, rfl⟩ ?_)
          · simp only [exact_divide.l2, exact_divide.b2, Int.toNat_natCast, Nat.sub_zero, List.drop_zero]
            rw [bn (by omega)]
            congr 1
            funext t12
            rw [if_pos (by omega)]
          · rintro _ rfl
            refine Res2.call (R := fun x => t'' = x) (g := fun k m t13 => some (List.take t' (List.drop 0 q), List.take t13 (List.drop 0 w'))) ⟨_, m2, rfl⟩ ?_
            rintro _ rfl
            rw [List.length_take] at m1
            have htt : (w'.take b.length).take t'' = w'.take t'' := by rw [List.take_take, Nat.min_eq_left (by omega)]
            rw [htt] at m3 m4
            refine Res2.pure ⟨c4.take t', d2.take t'', k3, m3, ?_, ?_, ?_, ?_⟩
            · show wv B64 (q.take t') = _
              rw [k4, hu.1]
            · show wv B64 (w'.take t'') = _
              rw [m4, d3, hu.2]
            · show (q.take t').length ≤ _
              rw [List.length_take]; omega
            · show (w'.take t'').length ≤ _
              rw [List.length_take]; omega
        · -- above it nothing is left
          have hs1 := wv_split (B := B64) b.length (l := w) (by omega)
          have hs2 := wv_nonneg (by decide) (c2.take b.length)
          have hs3 := wv_nonneg (by decide) (c2.drop b.length)
          have hPb : (0 : Int) < B64 ^ b.length := Int.pow_pos (by decide)
          rcases Int.lt_or_le 0 (wv B64 (w.drop b.length)) with h2 | h2
          · have := Int.mul_le_mul_of_nonneg_left (show 1 ≤ wv B64 (w.drop b.length) by omega) (show 0 ≤ B64 ^ b.length by omega)
            omega
          · omega) (a.length - b.length + 1) t9 (List.replicate (a.length - b.length + 1) 0) (by omega) u1 u2 (by simp; omega) (Lim_.rep (by decide) _) (by rw [List.take_replicate, wv_rep]) htopl (by rw [wv_rep, u3]; simp)
      refine Res.of_eq hfin.diag (fun k => ?_)
      rw [e3, e4, if_pos (by omega), if_pos (by omega), Int.toNat_natCast, show (((a.length - b.length + 1 : Nat) : Int) - 1) = ((a.length - b.length : Nat) : Int) by omega]

theorem gcd_loop : ∀ (m : Nat) (x y : List Int), wv B64 y < m → x.length ≤ 17592186044415 → y.length ≤ 17592186044415 → Lim_ B64 x → Lim_ B64 y → Can x → Can y →
    Res2 (fun k n => exact_NatGcd.l0 k n x y) fun c => Nat_ c ∧ nv c = Int.gcd (wv B64 x) (wv B64 y)
  | 0, x, y, hm, _, _, _, hy, _, _ => by have := wv_nonneg (by decide) hy; omega
  | m + 1, x, y, hm, hlx, hly, hx, hy, hcx, hcy => by
    rcases can_wv hy hcy with h0 | h0
    · subst h0
      refine Res2.succ (g := fun k n => (exact_pack k x).bind fun t5 => some t5) (fun k n => ?_) (Res2.call (g := fun k n t5 => some t5) (pack_ok x hx (by omega)) ?_)
      · simp only [exact_NatGcd.l0, exact_NatGcd.b0]
        rw [bn (by simp)]
      · rintro c ⟨c1, c2, c3⟩
        refine Res2.pure ⟨c1, ?_⟩
        have := wv_nonneg (by decide) hx
        rw [nv, c2]
        simp only [wv, Int.gcd_zero_right]
        omega
    · have hne : y ≠ [] := fun e => by rw [e] at h0; simp [wv] at h0
      have hlen : 0 < y.length := List.length_pos_iff.2 hne
      refine Res2.succ (g := fun k n => (exact_divide k x y).bind fun pt3 => exact_NatGcd.l0 k n y pt3.2) (fun k n => ?_) (Res2.call (g := fun k n pt3 => exact_NatGcd.l0 k n y pt3.2) (divide_ok x y hlx hly hx hy hcx hcy hne) ?_)
      · simp only [exact_NatGcd.l0, exact_NatGcd.b0]
        rw [bp (by omega)]
      · rintro ⟨q, r⟩ ⟨d1, d2, d3, d4, d5, d6, d7, d8⟩
        simp only at d1 d2 d3 d4 d5 d6 d7 d8
        have hm1 := Int.emod_lt_of_pos (wv B64 x) h0
        refine (gcd_loop m y r (by omega) hly (by omega) hy d2 hcy d4).mono fun c hc => ⟨hc.1, ?_⟩
        have hdm := Int.emod_add_mul_ediv (wv B64 x) (wv B64 y)
        rw [hc.2, d6, Int.gcd_comm (wv B64 x), ← Int.gcd_add_mul_right_right (wv B64 y) (wv B64 x % wv B64 y) (wv B64 x / wv B64 y), Int.mul_comm (wv B64 x / wv B64 y), hdm]

theorem natGcd_ok (a b : ByteArray) (hla : a.size ≤ 1099511627776) (hlb : b.size ≤ 1099511627776) : Res (fun k => exact_NatGcd k a b) fun c => Nat_ c ∧ nv c = Int.gcd (nv a) (nv b) := by
  obtain ⟨x, h1, h2, h3, h4, h5⟩ := words_ok a (by omega)
  obtain ⟨y, g1, g2, g3, g4, g5⟩ := words_ok b (by omega)
  unfold exact_NatGcd
  refine Res.bind (R := fun t => x = t) (f := fun k => exact_words k a) (g := fun k t1 => (exact_words k b).bind fun t2 => exact_NatGcd.l0 k k t1 t2) ⟨x, h1, rfl⟩ ?_
  rintro x rfl
  refine Res.bind (R := fun t => y = t) ⟨y, g1, rfl⟩ ?_
  rintro y rfl
  have := (gcd_loop ((wv B64 y).toNat + 1) x y (by omega) (by omega) (by omega) h2 g2 h3 g3).diag
  rw [h4, g4] at this
  exact this

theorem natDivMod_ok (a b : ByteArray) (hla : a.size ≤ 1099511627776) (hlb : b.size ≤ 1099511627776) (hb : nv b ≠ 0) : Res (fun k => exact_NatDivMod k a b) fun c => Nat_ c.1 ∧ Nat_ c.2 ∧ nv c.1 = nv a / nv b ∧ nv c.2 = nv a % nv b := by
  obtain ⟨x, h1, h2, h3, h4, h5⟩ := words_ok a (by omega)
  obtain ⟨y, g1, g2, g3, g4, g5⟩ := words_ok b (by omega)
  have hne : y ≠ [] := fun e => by rw [e] at g4; simp only [wv] at g4; exact hb g4.symm
  unfold exact_NatDivMod
  refine Res.bind (R := fun t => x = t) ⟨x, h1, rfl⟩ ?_
  rintro x rfl
  refine Res.bind (R := fun t => y = t) ⟨y, g1, rfl⟩ ?_
  rintro y rfl
  refine Res.bind (divide_ok x y (by omega) (by omega) h2 g2 h3 g3 hne) ?_
  rintro ⟨q, r⟩ ⟨d1, d2, d3, d4, d5, d6, d7, d8⟩
  simp only at d1 d2 d3 d4 d5 d6 d7 d8
  refine Res.bind (pack_ok q d1 (by omega)) ?_
  rintro c ⟨c1, c2, c3⟩
  refine Res.bind (pack_ok r d2 (by omega)) ?_
  rintro e ⟨e1, e2, e3⟩
  exact Res.pure ⟨c1, e1, by rw [nv, c2, d5, h4, g4]; rfl, by rw [nv, e2, d6, h4, g4]; rfl⟩
end Go.Proofs.YthghchjbomlpfaaGreat.Ev

namespace Go.Proofs.YthghchjbomlpfaaGreat.Ev
set_option linter.unusedVariables false

abbrev B32 : Int := 4294967296
theorem p32 : (4294967296 : Int) = 256 ^ 4 := by decide

theorem rtrim_loop (l : List Int) (hl : l.length < 4611686018427387904) : ∀ i : Nat, i ≤ l.length → ∃ m, m ≤ i ∧ Evt (fun n => galoisref01_trim.l0 n i l) m ∧ Can (l.take m) ∧ ∀ B, wv B (l.take m) = wv B (l.take i)
  | 0, _ => ⟨0, Nat.le_refl _, Evt.succ (g := fun _ => some 0) (fun n => by simp [galoisref01_trim.l0, galoisref01_trim.b0]) Evt.pure, by simpa using can_nil, fun _ => rfl⟩
  | i + 1, hi => by
    have e : IntKind.wrap .i64 (((i + 1 : Nat) : Int) - 1) = (i : Int) := by rw [wi _ (by omega) (by omega)]; omega
    by_cases hz : l.getD i 0 = 0
    · obtain ⟨m, h1, h2, h3, h4⟩ := rtrim_loop l hl i (by omega)
      refine ⟨m, by omega, Evt.succ (fun n => ?_) h2, h3, fun B => ?_⟩
      · simp only [galoisref01_trim.l0, galoisref01_trim.b0, e, Int.toNat_natCast, Nat.zero_add, Nat.sub_zero]
        rw [bp (by omega), if_pos (by omega), bp hz, if_pos (by omega)]
      · rw [h4, wv_take_succ i (by omega), hz]; simp
    · refine ⟨i + 1, Nat.le_refl _, Evt.succ (g := fun _ => some (i + 1)) (fun n => ?_) Evt.pure, can_take (by omega) hz, fun _ => rfl⟩
      simp only [galoisref01_trim.l0, galoisref01_trim.b0, e, Int.toNat_natCast, Nat.zero_add]
      rw [bp (by omega), if_pos (by omega), bn hz]

theorem rtrim_ok (l : List Int) (hl : l.length < 4611686018427387904) : ∃ m, m ≤ l.length ∧ Evt (fun k => galoisref01_trim k l) m ∧ Can (l.take m) ∧ ∀ B, wv B (l.take m) = wv B l := by
  obtain ⟨m, h1, h2, h3, h4⟩ := rtrim_loop l hl l.length (Nat.le_refl _)
  refine ⟨m, h1, h2, h3, fun B => ?_⟩
  rw [h4, List.take_of_length_le (Nat.le_refl _)]

theorem limb_in (b : ByteArray) (hs : b.size ≤ 1099511627776) (o : List Int) (ho : o.length ≤ 1099511627776) (st en : Nat) (hse : st ≤ en) (hen : en ≤ b.size) (h4 : en ≤ st + 4) (Q : List Int → Prop)
    (hn : ∀ x : Int, 0 ≤ x → x < 256 ^ (en - st) → x + bz (b.data.toList.take st) * 256 ^ (en - st) = bz (b.data.toList.take en) → Res2 (fun k n => galoisref01_limbs.l0 k n b ((en : Int) - 4) (o ++ [x])) Q) :
    ∀ (d i : Nat) (x : Int), i + d = en → st ≤ i → 0 ≤ x → x < 256 ^ (i - st) → x + bz (b.data.toList.take st) * 256 ^ (i - st) = bz (b.data.toList.take i) → Res2 (fun k n => galoisref01_limbs.l1 k n b en x i o) Q
  | 0, i, x, hd, hi, h0, h1, hv => by
    obtain rfl : i = en := by omega
    have e1 : IntKind.wrap .i64 ((i : Int) - 4) = (i : Int) - 4 := by rw [wi _ (by omega) (by omega)]
    refine Res2.succ (fun k n => ?_) (hn x h0 h1 hv)
    simp only [galoisref01_limbs.l1, galoisref01_limbs.b1, e1]
    rw [bn (by omega), if_pos (by simp; omega)]
  | d + 1, i, x, hd, hi, h0, h1, hv => by
    have e1 : IntKind.wrap .i64 ((i : Int) + 1) = ((i + 1 : Nat) : Int) := by rw [wi _ (by omega) (by omega)]; omega
    have hx := u8_lt (b.data.toList.getD i 0)
    have hbl : b.data.toList.length = b.size := by simp
    have hxs : x < 16777216 := by
      have h5 : (256 : Int) ^ (i - st) ≤ 16777216 := by
        have : i - st = 0 ∨ i - st = 1 ∨ i - st = 2 ∨ i - st = 3 := by omega
        rcases this with h | h | h | h <;> rw [h] <;> decide
      omega
    have e2 : IntKind.wrap .u64 (IntKind.wrap .u64 (x * 256) + IntKind.wrap .u64 (((b.data.toList.getD i 0).toNat : Nat) : Int)) = x * 256 + ((b.data.toList.getD i 0).toNat : Int) := by
      rw [wu, wu, wu]; omega
    have e3 : i + 1 - st = i - st + 1 := by omega
    refine Res2.succ (fun k n => ?_) (limb_in b hs o ho st en hse hen h4 Q hn d (i + 1) (x * 256 + ((b.data.toList.getD i 0).toNat : Int)) (by omega) (by omega) (by omega) ?_ ?_)
    · simp only [galoisref01_limbs.l1, galoisref01_limbs.b1, e1, Int.toNat_natCast, e2]
      rw [bp (by omega), if_pos (by omega)]
    · rw [e3, Int.pow_succ]; omega
    · rw [e3, Int.pow_succ, bz_take _ _ (by omega), ← hv]; grind

theorem limbs_loop (b : ByteArray) (hs : b.size ≤ 1099511627776) : ∀ (m : Nat) (en : Int) (o : List Int), en ≤ m → en ≤ b.size → -3 ≤ en → 4 * (o.length : Int) + en ≤ b.size + 4 → Lim_ B32 o → wv B32 o + B32 ^ o.length * bz (b.data.toList.take en.toNat) = bz b.data.toList →
    Res2 (fun k n => galoisref01_limbs.l0 k n b en o) fun l => Lim_ B32 l ∧ Can l ∧ wv B32 l = bz b.data.toList ∧ 4 * l.length ≤ b.size + 7
  | 0, en, o, hm, hb, h4, hl, hL, hv => by
    obtain ⟨t, h1, h2, h3, h5⟩ := rtrim_ok o (by omega)
    have e0 : en.toNat = 0 := by omega
    rw [e0, List.take_zero, bz_nil, Int.mul_zero, Int.add_zero] at hv
    refine Res2.succ (g := fun k n => (galoisref01_trim k o).bind fun t1 => some (List.take t1 (List.drop 0 o))) (fun k n => ?_) (Res2.call (R := fun x => t = x) (g := fun k n t1 => some (List.take t1 (List.drop 0 o))) ⟨_, h2, rfl⟩ ?_)
    · simp only [galoisref01_limbs.l0, galoisref01_limbs.b0]
      rw [bn (by omega)]
    · rintro _ rfl
      refine Res2.pure ⟨hL.take t, h3, ?_, ?_⟩
      · rw [List.drop_zero, h5, hv]
      · rw [List.length_take]; simp; omega
  | m + 1, en, o, hm, hb, h4, hl, hL, hv => by
    by_cases h0 : 0 < en
    · obtain ⟨e, rfl⟩ := Int.eq_ofNat_of_zero_le (show 0 ≤ en by omega)
      rw [Int.toNat_natCast] at hv
      have e1 : IntKind.wrap .i64 ((e : Int) - 4) = (e : Int) - 4 := by rw [wi _ (by omega) (by omega)]
      have e2 : (if (e : Int) - 4 > 0 then (e : Int) - 4 else 0) = ((e - 4 : Nat) : Int) := by split <;> omega
      have hP : (0 : Int) < B32 ^ o.length := Int.pow_pos (by decide)
      refine Res2.succ (fun k n => ?_) (limb_in b hs o (by omega) (e - 4) e (by omega) (by omega) (by omega) _ (fun x x0 x1 x2 => ?_) (e - (e - 4)) (e - 4) 0 (by omega) (by omega) (by omega) (by simp) (by simp))
      · simp only [galoisref01_limbs.l0, galoisref01_limbs.b0, e1, e2]
        rw [bp (by omega)]
      · have hx : x < B32 := by
          have h5 : (256 : Int) ^ (e - (e - 4)) ≤ 4294967296 := by
            have : e - (e - 4) = 1 ∨ e - (e - 4) = 2 ∨ e - (e - 4) = 3 ∨ e - (e - 4) = 4 := by omega
            rcases this with h | h | h | h <;> rw [h] <;> decide
          simp only [B32]; omega
        refine limbs_loop b hs m ((e : Int) - 4) (o ++ [x]) (by omega) (by omega) (by omega) (by simp; omega) (hL.append (Lim_.cons ⟨x0, hx⟩ (fun _ h => by simp at h))) ?_
        rw [wv_append, List.length_append, List.length_singleton, Int.pow_succ, ← hv, ← x2]
        have : ((e : Int) - 4).toNat = e - 4 := by omega
        rw [this]
        simp only [wv]
        rcases Nat.lt_or_ge e 4 with h6 | h6
        · have e0 : e - 4 = 0 := by omega
          rw [e0]; simp [bz_nil]
        · have e4 : e - (e - 4) = 4 := by omega
          rw [e4]
          simp only [B32]
          grind
    · exact limbs_loop b hs m en o (by omega) hb h4 hl hL hv

theorem limbs_ok (b : ByteArray) (hs : b.size ≤ 1099511627776) : Res (fun k => galoisref01_limbs k b) fun l => Lim_ B32 l ∧ Can l ∧ wv B32 l = bz b.data.toList ∧ 4 * l.length ≤ b.size + 7 := by
  refine Res.of_eq (limbs_loop b hs b.size b.size [] (by omega) (by omega) (by omega) (by simp; omega) (fun _ h => by simp at h) ?_).diag (fun k => rfl)
  rw [Int.toNat_natCast, List.take_of_length_le (by simp)]
  simp [wv]

theorem rpack_limb (l : List Int) (hl : l.length ≤ 17592186044416) (i : Nat) (hi : i < l.length) (hx : 0 ≤ l.getD i 0 ∧ l.getD i 0 < B32) (V : Int) (Q : ByteArray → Prop)
    (hn : ∀ o : List Int, Lim_ 256 o → o.head? ≠ some 0 → o.length ≤ 4 * (l.length - i) → wv 256 o.reverse = V * 256 ^ 4 + l.getD i 0 → Res (fun n => galoisref01_pack.l0 n ((i : Int) - 1) l o) Q) :
    ∀ (t : Nat) (o : List Int), t ≤ 4 → Lim_ 256 o → o.head? ≠ some 0 → o.length ≤ 4 * (l.length - i) - t → wv 256 o.reverse = V * 256 ^ (4 - t) + l.getD i 0 / 256 ^ t → Res (fun n => galoisref01_pack.l1 n i (8 * (t : Int) - 8) l o) Q
  | 0, o, ht, hL, hh, hol, hv => by
    have e1 : IntKind.wrap .i64 ((i : Int) - 1) = (i : Int) - 1 := by rw [wi _ (by omega) (by omega)]
    refine Res.succ (fun n => ?_) (hn o hL hh (by omega) (by simpa using hv))
    simp only [galoisref01_pack.l1, galoisref01_pack.b1, e1]
    rw [bn (by omega)]
  | t + 1, o, ht, hL, hh, hol, hv => by
    have e1 : IntKind.wrap .i64 (8 * ((t + 1 : Nat) : Int) - 8 - 8) = 8 * (t : Int) - 8 := by rw [wi _ (by omega) (by omega)]; omega
    have e0 : 8 * ((t + 1 : Nat) : Int) - 8 = ((8 * t : Nat) : Int) := by omega
    have m1 : min (8 * t) 64 = 8 * t := by omega
    have e2 : IntKind.wrap .u8 (Int.fdiv (l.getD i 0) (2 ^ (8 * t))) = l.getD i 0 / 256 ^ t % 256 := by rw [p2, wb, fd _ _ (Int.pow_nonneg (by omega))]
    have b0 := Int.emod_nonneg (l.getD i 0 / 256 ^ t) (show (256 : Int) ≠ 0 by omega)
    have b1 := Int.emod_lt_of_pos (l.getD i 0 / 256 ^ t) (show (0 : Int) < 256 by omega)
    have hval : wv 256 o.reverse * 256 + l.getD i 0 / 256 ^ t % 256 = V * 256 ^ (4 - t) + l.getD i 0 / 256 ^ t := by
      have h1 : 4 - t = 4 - (t + 1) + 1 := by omega
      have h2 : l.getD i 0 / 256 ^ (t + 1) = l.getD i 0 / 256 ^ t / 256 := by
        rw [Int.pow_succ, Int.ediv_ediv_of_nonneg (Int.pow_nonneg (by omega))]
      have h3 := Int.emod_add_mul_ediv (l.getD i 0 / 256 ^ t) 256
      rw [hv, h1, h2, Int.pow_succ]
      grind
    have hgo : ∀ c : Int, 0 ≤ c → c < 256 → c = l.getD i 0 / 256 ^ t % 256 → (o ≠ [] ∨ 0 < c) → Res (fun n => galoisref01_pack.l1 n i (8 * (t : Int) - 8) l (o ++ [c])) Q := by
      intro c c0 c1 hc hne
      refine rpack_limb l hl i hi hx V Q hn t (o ++ [c]) (by omega) (hL.append (Lim_.cons ⟨c0, c1⟩ (fun _ h => by simp at h))) ?_ (by simp; omega) ?_
      · cases o with
        | nil =>
          rcases hne with h | h
          · simp at h
          · simp; omega
        | cons z o => simpa using hh
      · rw [List.reverse_append]
        simp only [List.reverse_cons, List.reverse_nil, List.nil_append, List.singleton_append, wv]
        rw [hc]; omega
    by_cases ho : o = []
    · subst ho
      by_cases hc : 0 < l.getD i 0 / 256 ^ t % 256
      · refine Res.succ (fun n => ?_) (hgo _ b0 b1 rfl (.inr hc))
        simp only [galoisref01_pack.l1, galoisref01_pack.b1, e1]
        simp only [e0, Int.toNat_natCast, m1, e2]
        rw [bp (by omega), if_pos (by omega), if_neg (by omega), bn (by simp), bp hc, if_pos (by simp)]
      · have hz : l.getD i 0 / 256 ^ t % 256 = 0 := by omega
        refine Res.succ (fun n => ?_) (rpack_limb l hl i hi hx V Q hn t [] (by omega) hL hh (by omega) ?_)
        · simp only [galoisref01_pack.l1, galoisref01_pack.b1, e1]
          simp only [e0, Int.toNat_natCast, m1, e2]
          rw [bp (by omega), if_pos (by omega), if_neg (by omega), bn (by simp), bn hc]
        · rw [hz] at hval
          simp only [List.reverse_nil, wv] at hval ⊢
          omega
    · have hpos : 0 < o.length := List.length_pos_iff.2 ho
      refine Res.succ (fun n => ?_) (hgo _ b0 b1 rfl (.inl ho))
      simp only [galoisref01_pack.l1, galoisref01_pack.b1, e1]
      simp only [e0, Int.toNat_natCast, m1, e2]
      rw [bp (by omega), if_pos (by omega), if_neg (by omega), bp (by omega), if_pos (by simp; omega)]

theorem rpack_loop (l : List Int) (hl : l.length ≤ 17592186044416) (hL0 : Lim_ B32 l) : ∀ (i : Nat) (o : List Int), i ≤ l.length → Lim_ 256 o → o.head? ≠ some 0 → o.length ≤ 4 * (l.length - i) → wv 256 o.reverse = wv B32 (l.drop i) →
    Res (fun n => galoisref01_pack.l0 n ((i : Int) - 1) l o) fun b => Nat_ b ∧ nv b = wv B32 l ∧ b.size ≤ 4 * l.length
  | 0, o, hi, hL, hh, hol, hv => by
    refine Res.succ (g := fun _ => some (strOf o)) (fun n => ?_) (Res.pure ⟨?_, ?_, ?_⟩)
    · simp only [galoisref01_pack.l0, galoisref01_pack.b0]
      rw [bn (by omega)]
    · cases o with
      | nil => simp [Nat_, Nrm, strOf]
      | cons z o =>
        have hz := hL z (by simp)
        have hz0 : z ≠ 0 := fun e => by subst e; simp at hh
        have h3 : (UInt8.ofNat z.toNat).toNat = z.toNat := by rw [UInt8.toNat_ofNat']; omega
        intro h
        have h4 : UInt8.ofNat z.toNat = 0 := by simpa [strOf] using h
        rw [h4] at h3
        have : (0 : UInt8).toNat = 0 := rfl
        omega
    · rw [nv, bz_strOf o hL, hv]; simp
    · have : (strOf o).size = o.length := by simp [strOf, ByteArray.size]
      rw [this]; omega
  | i + 1, o, hi, hL, hh, hol, hv => by
    have hg := hL0.get i (by omega)
    have e0 : ((i + 1 : Nat) : Int) - 1 = (i : Int) := by omega
    refine Res.succ (fun n => ?_) (rpack_limb l hl i (by omega) hg (wv B32 (l.drop (i + 1))) _ (fun o' a1 a2 a3 a4 => ?_) 4 o (by omega) hL hh (by omega) ?_)
    · simp only [galoisref01_pack.l0, galoisref01_pack.b0, e0]
      rw [bp (by omega)]
      rfl
    · refine rpack_loop l hl hL0 i o' (by omega) a1 a2 a3 ?_
      rw [a4, wv_drop i (by omega), ← p32]
      simp only [B32]; omega
    · rw [hv, show 4 - 4 = 0 from rfl, ← p32, Int.ediv_eq_zero_of_lt hg.1 hg.2]; simp

theorem rpack_ok (l : List Int) (hl : l.length ≤ 17592186044416) (hL : Lim_ B32 l) : Res (fun k => galoisref01_pack k l) fun b => Nat_ b ∧ nv b = wv B32 l ∧ b.size ≤ 4 * l.length := by
  have e1 : IntKind.wrap .i64 ((l.length : Int) - 1) = (l.length : Int) - 1 := by rw [wi _ (by omega) (by omega)]
  refine Res.of_eq (rpack_loop l hl hL l.length [] (Nat.le_refl _) (fun _ h => by simp at h) (by simp) (by simp) (by simp [wv])) (fun k => ?_)
  simp only [galoisref01_pack, galoisref01_pack.top, e1]
end Go.Proofs.YthghchjbomlpfaaGreat.Ev

namespace Go.Proofs.YthghchjbomlpfaaGreat.Ev
set_option linter.unusedVariables false

section
variable {B : Int}
theorem rbelow_loop (x y : List Int) (t : Nat) (htx : t ≤ x.length) (hty : t = y.length) (hs : t < 4611686018427387904) (hB : 0 < B) (hx : Lim_ B x) (hy : Lim_ B y) : ∀ i : Nat, i ≤ t →
    Evt2 (fun k n => galoisref01_below.l0 k n t ((i : Int) - 1) x y) (decide (wv B (x.take i) < wv B (y.take i)))
  | 0, _ => Evt2.succ (g := fun _ _ => some false) (fun k n => by simp [galoisref01_below.l0, galoisref01_below.b0]) (by simpa [wv] using Evt2.pure)
  | i + 1, hi => by
    have e0 : ((i + 1 : Nat) : Int) - 1 = (i : Int) := by omega
    have e : IntKind.wrap .i64 ((i : Int) - 1) = (i : Int) - 1 := wi _ (by omega) (by omega)
    rw [wv_take_succ i (by omega), wv_take_succ i (by omega)]
    have h1 := wv_lt hB (hx.take i)
    have h2 := wv_lt hB (hy.take i)
    have h3 := wv_nonneg (by omega) (hx.take i)
    have h4 := wv_nonneg (by omega) (hy.take i)
    rw [List.length_take, Nat.min_eq_left (by omega)] at h1 h2
    have hP : 0 < B ^ i := Int.pow_pos hB
    by_cases hz : x.getD i 0 = y.getD i 0
    · have := rbelow_loop x y t htx hty hs hB hx hy i (by omega)
      have ec : decide (wv B (x.take i) + B ^ i * x.getD i 0 < wv B (y.take i) + B ^ i * y.getD i 0) = decide (wv B (x.take i) < wv B (y.take i)) := by
        rw [hz]; exact decide_eq_decide.2 (by omega)
      rw [ec]
      refine Evt2.succ (fun k n => ?_) this
      simp only [galoisref01_below.l0, galoisref01_below.b0, e0, e, Int.toNat_natCast, Nat.zero_add]
      rw [bp (by omega), if_pos (by omega), if_pos (by omega), bnp hz]
    · have ec : decide (wv B (x.take i) + B ^ i * x.getD i 0 < wv B (y.take i) + B ^ i * y.getD i 0) = decide (x.getD i 0 < y.getD i 0) := by
        refine decide_eq_decide.2 ⟨fun h => ?_, fun h => ?_⟩
        · rcases Int.lt_or_le (x.getD i 0) (y.getD i 0) with h5 | h5
          · exact h5
          · have hm := Int.mul_le_mul_of_nonneg_left (show y.getD i 0 + 1 ≤ x.getD i 0 by omega) (show 0 ≤ B ^ i by omega)
            rw [Int.mul_add, Int.mul_one] at hm
            omega
        · have hm := Int.mul_le_mul_of_nonneg_left (show x.getD i 0 + 1 ≤ y.getD i 0 by omega) (show 0 ≤ B ^ i by omega)
          rw [Int.mul_add, Int.mul_one] at hm
          omega
      rw [ec]
      refine Evt2.succ (fun k n => ?_) Evt2.pure
      simp only [galoisref01_below.l0, galoisref01_below.b0, e0, e, Int.toNat_natCast, Nat.zero_add]
      rw [bp (by omega), if_pos (by omega), if_pos (by omega), bnn hz, if_pos (by omega), if_pos (by omega)]

theorem can_len_lt (hB : 0 < B) {x y : List Int} (hx : Lim_ B x) (hy : Lim_ B y) (hc : Can y) (h : x.length < y.length) : wv B x < wv B y := by
  have h1 := wv_lt hB hx
  have h2 := can_lower hB hy hc (fun e => by rw [e] at h; simp at h)
  have h3 : B ^ x.length ≤ B ^ (y.length - 1) := by
    obtain ⟨d, hd⟩ : ∃ d, y.length - 1 = x.length + d := ⟨y.length - 1 - x.length, by omega⟩
    rw [hd, Int.pow_add]
    have h5 : 0 < B ^ d := Int.pow_pos hB
    have h4 : 0 < B ^ x.length := Int.pow_pos hB
    have := Int.mul_le_mul_of_nonneg_left (show (1 : Int) ≤ B ^ d by omega) (show 0 ≤ B ^ x.length by omega)
    omega
  omega

theorem rbelow_ok (x y : List Int) (hsx : x.length < 4611686018427387904) (hsy : y.length < 4611686018427387904) (hB : 0 < B) (hx : Lim_ B x) (hy : Lim_ B y) (hcy : Can y) : Evt (fun k => galoisref01_below k x y) (decide (wv B x < wv B y)) := by
  obtain ⟨t, h1, h2, h3, h4⟩ := rtrim_ok x hsx
  have h5 := h4 B
  refine Evt.of_eq (g := fun k => (galoisref01_trim k x).bind fun (t1 : Nat) => bif !decide ((t1 : Int) = (y.length : Int)) then (some (decide ((t1 : Int) < (y.length : Int)))) else (galoisref01_below.l0 k k t1 (IntKind.wrap .i64 ((t1 : Int) - 1)) x y)) (Evt.bind (g := fun k (t1 : Nat) => bif !decide ((t1 : Int) = (y.length : Int)) then (some (decide ((t1 : Int) < (y.length : Int)))) else (galoisref01_below.l0 k k t1 (IntKind.wrap .i64 ((t1 : Int) - 1)) x y)) h2 ?_) (fun k => rfl)
  have htl : (x.take t).length = t := by rw [List.length_take]; omega
  by_cases hl : t = y.length
  · have := (rbelow_loop x y t h1 hl (by omega) hB hx hy t (Nat.le_refl _)).diag
    rw [h5, List.take_of_length_le (by omega : y.length ≤ t)] at this
    refine Evt.of_eq this fun k => ?_
    rw [bnp (by omega), wi _ (by omega) (by omega)]
  · refine Evt.of_eq (g := fun _ => some (decide (wv B x < wv B y))) Evt.pure fun k => ?_
    rw [bnn (by omega)]
    congr 1
    refine decide_eq_decide.2 ⟨fun h => ?_, fun h => ?_⟩
    · rw [← h5]; exact can_len_lt hB (hx.take t) hy hcy (by omega)
    · rcases Nat.lt_or_gt_of_ne hl with h6 | h6
      · omega
      · have := can_len_lt hB hy (hx.take t) h3 (by omega)
        omega
end

theorem rmul_in (a b : List Int) (hla : a.length ≤ 17592186044416) (hlb : b.length ≤ 17592186044416) (ha : Lim_ B32 a) (hb : Lim_ B32 b) (i : Nat) (hi : i < a.length) (v : Int) (Q : ByteArray → Prop)
    (hn : ∀ o : List Int, o.length = a.length + b.length → Lim_ B32 o → wv B32 o = v + a.getD i 0 * wv B32 b * B32 ^ i → Res2 (fun k n => galoisref01_Mul.l0 k n ((i + 1 : Nat) : Int) a b o) Q) :
    ∀ (d j : Nat) (o : List Int) (c : Int), j + d = b.length → o.length = a.length + b.length → Lim_ B32 o → (0 ≤ c ∧ c < B32) → o.getD (i + b.length) 0 = 0 → wv B32 o + c * B32 ^ (i + j) = v + a.getD i 0 * wv B32 (b.take j) * B32 ^ i →
      Res2 (fun k n => galoisref01_Mul.l1 k n i c j a b o) Q
  | 0, j, o, c, hd, hl, hL, hc, hz, hv => by
    obtain rfl : j = b.length := by omega
    have e1 : IntKind.wrap .i64 ((i : Int) + (b.length : Int)) = ((i + b.length : Nat) : Int) := by rw [wi _ (by omega) (by omega)]; omega
    have e2 : IntKind.wrap .i64 ((i : Int) + 1) = ((i + 1 : Nat) : Int) := by rw [wi _ (by omega) (by omega)]; omega
    refine Res2.succ (fun k n => ?_) (hn (o.set (i + b.length) c) (by simpa using hl) (hL.set _ hc) ?_)
    · simp only [galoisref01_Mul.l1, galoisref01_Mul.b1, e1, e2, Int.toNat_natCast]
      rw [bn (by omega), if_pos (by omega)]
    · rw [wv_set (by omega), hz, Int.sub_zero, hv, List.take_of_length_le (Nat.le_refl _)]
  | d + 1, j, o, c, hd, hl, hL, hc, hz, hv => by
    have e1 : IntKind.wrap .i64 ((i : Int) + (j : Int)) = ((i + j : Nat) : Int) := by rw [wi _ (by omega) (by omega)]; omega
    have e2 : IntKind.wrap .i64 ((j : Int) + 1) = ((j + 1 : Nat) : Int) := by rw [wi _ (by omega) (by omega)]; omega
    have hai := ha.get i hi
    have hbj := hb.get j (by omega)
    have hoj := hL.get (i + j) (by omega)
    have h2 := Int.mul_nonneg hai.1 hbj.1
    have h1 : a.getD i 0 * b.getD j 0 ≤ (B32 - 1) * (B32 - 1) := Int.mul_le_mul (by omega) (by omega) hbj.1 (by decide)
    have es : IntKind.wrap .u64 (IntKind.wrap .u64 (o.getD (i + j) 0 + IntKind.wrap .u64 (a.getD i 0 * b.getD j 0)) + c) = o.getD (i + j) 0 + a.getD i 0 * b.getD j 0 + c := by
      generalize a.getD i 0 * b.getD j 0 = p at *
      simp only [B32] at *
      rw [ule (x := p) (by omega) (by omega), ule (x := o.getD (i + j) 0 + p) (by omega) (by omega), ule (by omega) (by omega)]
    have hS0 : 0 ≤ o.getD (i + j) 0 + a.getD i 0 * b.getD j 0 + c := by omega
    have hS1 : o.getD (i + j) 0 + a.getD i 0 * b.getD j 0 + c < 18446744073709551616 := by simp only [B32] at *; omega
    have hsum : o.getD (i + j) 0 + a.getD i 0 * b.getD j 0 + c = (o.getD (i + j) 0 + a.getD i 0 * b.getD j 0 + c) % 4294967296 + 4294967296 * ((o.getD (i + j) 0 + a.getD i 0 * b.getD j 0 + c) / 4294967296) := (Int.emod_add_mul_ediv _ _).symm
    have hq0 : 0 ≤ (o.getD (i + j) 0 + a.getD i 0 * b.getD j 0 + c) % 4294967296 ∧ (o.getD (i + j) 0 + a.getD i 0 * b.getD j 0 + c) % 4294967296 < B32 := by simp only [B32]; omega
    have hq1 : 0 ≤ (o.getD (i + j) 0 + a.getD i 0 * b.getD j 0 + c) / 4294967296 ∧ (o.getD (i + j) 0 + a.getD i 0 * b.getD j 0 + c) / 4294967296 < B32 := by simp only [B32]; omega
    refine Res2.succ (fun k n => ?_) (rmul_in a b hla hlb ha hb i hi v Q hn d (j + 1) (o.set (i + j) ((o.getD (i + j) 0 + a.getD i 0 * b.getD j 0 + c) % 4294967296)) ((o.getD (i + j) 0 + a.getD i 0 * b.getD j 0 + c) / 4294967296) (by omega) (by simpa using hl) (hL.set _ hq0) hq1 ?_ ?_)
    · simp only [galoisref01_Mul.l1, galoisref01_Mul.b1, e1, e2, Int.toNat_natCast, es]
      rw [bp (by omega), if_pos (by omega), if_pos (by omega), if_pos (by omega), if_pos (by omega), and32 _ hS0 hS1, fd _ _ (by omega)]
    · rw [getD_set_ne (by omega)]; exact hz
    · rw [wv_set (by omega), wv_take_succ j (by omega)]
      have e3 : B32 ^ (i + (j + 1)) = B32 ^ (i + j) * B32 := by rw [← Nat.add_assoc, Int.pow_succ]
      have e4 : B32 ^ (i + j) = B32 ^ i * B32 ^ j := Int.pow_add _ _ _
      rw [e3]
      generalize (o.getD (i + j) 0 + a.getD i 0 * b.getD j 0 + c) % 4294967296 = lo at *
      generalize (o.getD (i + j) 0 + a.getD i 0 * b.getD j 0 + c) / 4294967296 = hi' at *
      generalize o.getD (i + j) 0 = oj at *
      generalize b.getD j 0 = bj at *
      simp only [B32] at *
      grind

theorem rmul_out (a b : List Int) (hla : a.length ≤ 1099511627776) (hlb : b.length ≤ 1099511627776) (ha : Lim_ B32 a) (hb : Lim_ B32 b) : ∀ (d i : Nat) (o : List Int), i + d = a.length → o.length = a.length + b.length → Lim_ B32 o → wv B32 o = wv B32 (a.take i) * wv B32 b →
    Res2 (fun k n => galoisref01_Mul.l0 k n i a b o) fun c => Nat_ c ∧ nv c = wv B32 a * wv B32 b ∧ c.size ≤ 4 * (a.length + b.length)
  | 0, i, o, hd, hl, hL, hv => by
    obtain rfl : i = a.length := by omega
    refine Res2.succ (g := fun k n => (galoisref01_pack k o).bind fun t3 => some t3) (fun k n => ?_) (Res2.call (g := fun k n t3 => some t3) (rpack_ok o (by omega) hL) ?_)
    · simp only [galoisref01_Mul.l0, galoisref01_Mul.b0]
      rw [bn (by omega)]
    · rintro c ⟨c1, c2, c3⟩
      refine Res2.pure ⟨c1, ?_, by omega⟩
      rw [c2, hv, List.take_of_length_le (Nat.le_refl _)]
  | d + 1, i, o, hd, hl, hL, hv => by
    refine Res2.succ (fun k n => ?_) (rmul_in a b (by omega) (by omega) ha hb i (by omega) (wv B32 o) _ (fun o' a1 a2 a3 => ?_) b.length 0 o 0 (by omega) hl hL (by decide) ?_ (by simp [wv]))
    · simp only [galoisref01_Mul.l0, galoisref01_Mul.b0]
      rw [bp (by omega)]
      rfl
    · refine rmul_out a b hla hlb ha hb d (i + 1) o' (by omega) a1 a2 ?_
      rw [a3, wv_take_succ i (by omega), hv]
      grind
    · refine limb_zero (by decide) hL (p := i + b.length) ?_
      rw [hv, Int.pow_add]
      have h1 := wv_nonneg (by decide) (ha.take i)
      have h2 := wv_lt (by decide) (ha.take i)
      have h3 := wv_nonneg (by decide) hb
      have h4 := wv_lt (by decide) hb
      rw [List.length_take, Nat.min_eq_left (by omega)] at h2
      have hP : 0 < B32 ^ i := Int.pow_pos (by decide)
      calc wv B32 (a.take i) * wv B32 b ≤ B32 ^ i * wv B32 b := Int.mul_le_mul_of_nonneg_right (by omega) h3
        _ < B32 ^ i * B32 ^ b.length := Int.mul_lt_mul_of_pos_left h4 hP

theorem rmul_ok (a b : ByteArray) (hla : a.size ≤ 1099511627776) (hlb : b.size ≤ 1099511627776) : Res (fun k => galoisref01_Mul k a b) fun c => Nat_ c ∧ nv c = nv a * nv b := by
  refine Res.of_eq (g := fun k => (galoisref01_limbs k a).bind fun t1 => (galoisref01_limbs k b).bind fun t2 => if 0 ≤ (IntKind.wrap .i64 ((t1.length : Int) + (t2.length : Int))) then (if (Int.toNat (IntKind.wrap .i64 ((t1.length : Int) + (t2.length : Int)))) ≤ 281474976710656 / 8 then (galoisref01_Mul.l0 k k 0 t1 t2 (List.replicate (Int.toNat (IntKind.wrap .i64 ((t1.length : Int) + (t2.length : Int)))) 0 : List Int)) else none) else none) ?_ (fun k => rfl)
  refine Res.bind (limbs_ok a hla) ?_
  rintro x ⟨x1, x2, x3, x4⟩
  refine Res.bind (limbs_ok b hlb) ?_
  rintro y ⟨y1, y2, y3, y4⟩
  have e1 : IntKind.wrap .i64 ((x.length : Int) + (y.length : Int)) = ((x.length + y.length : Nat) : Int) := by rw [wi _ (by omega) (by omega)]; omega
  have := (rmul_out x y (by omega) (by omega) x1 y1 x.length 0 (List.replicate (x.length + y.length) 0) (by omega) (by simp) (Lim_.rep (by decide) _) (by simp [wv_rep, wv])).diag
  refine Res.of_eq (this.mono fun c hc => ⟨hc.1, by rw [hc.2.1, x3, y3]; rfl⟩) fun k => ?_
  rw [e1, Int.toNat_natCast, if_pos (by omega), if_pos (by omega)]
  rfl
end Go.Proofs.YthghchjbomlpfaaGreat.Ev

namespace Go.Proofs.YthghchjbomlpfaaGreat.Ev
set_option linter.unusedVariables false

theorem wv_take_succ' {B : Int} {l : List Int} (i : Nat) : wv B (l.take (i + 1)) = wv B (l.take i) + B ^ i * l.getD i 0 := by
  by_cases h : i < l.length
  · exact wv_take_succ i h
  · have : l.getD i 0 = 0 := by simp [List.getD, List.getElem?_eq_none (Nat.le_of_not_lt h)]
    rw [this, List.take_of_length_le (by omega), List.take_of_length_le (by omega)]; simp

theorem add_loop (x y : List Int) (hlx : x.length ≤ 1099511627776) (hyx : y.length ≤ x.length) (hx : Lim_ B64 x) (hy : Lim_ B64 y) : ∀ (d i : Nat) (o : List Int) (c : Int), i + d = x.length → o.length = x.length + 1 → Lim_ B64 o → 0 ≤ c → c ≤ 1 → (∀ p, i ≤ p → o.getD p 0 = 0) →
    wv B64 o + c * B64 ^ i = wv B64 (x.take i) + wv B64 (y.take i) → Res2 (fun k n => exact_NatAdd.l1 k n c x.length i x y o) fun b => Nat_ b ∧ nv b = wv B64 x + wv B64 y ∧ b.size ≤ 8 * (x.length + 1)
  | 0, i, o, c, hd, ho, oL, hc, hc', hz, hv => by
    obtain rfl : i = x.length := by omega
    refine Res2.succ (g := fun k n => (exact_pack k (o.set x.length c)).bind fun t7 => some t7) (fun k n => ?_) (Res2.call (g := fun k n t7 => some t7) (pack_ok (o.set x.length c) (oL.set _ (by simp only [B64]; omega)) (by simp; omega)) ?_)
    · simp only [exact_NatAdd.l1, exact_NatAdd.b1, Int.toNat_natCast]
      rw [bn (by omega), if_pos (by omega)]
    · rintro b ⟨b1, b2, b3⟩
      refine Res2.pure ⟨b1, ?_, by simpa [ho] using b3⟩
      rw [nv, b2, wv_set (by omega), hz _ (Nat.le_refl _), Int.sub_zero, hv, List.take_of_length_le (Nat.le_refl _), List.take_of_length_le hyx]
  | d + 1, i, o, c, hd, ho, oL, hc, hc', hz, hv => by
    have hg := hx.get i (by omega)
    have hgy := hy.getD (by decide) i
    have e1 : IntKind.wrap .i64 ((i : Int) + 1) = ((i + 1 : Nat) : Int) := by rw [wi _ (by omega) (by omega)]; omega
    have next : Res2 (fun k n => exact_NatAdd.l1 k n ((x.getD i 0 + y.getD i 0 + c) / 18446744073709551616) x.length ((i + 1 : Nat) : Int) x y (o.set i ((x.getD i 0 + y.getD i 0 + c) % 18446744073709551616))) fun b => Nat_ b ∧ nv b = wv B64 x + wv B64 y ∧ b.size ≤ 8 * (x.length + 1) := by
      refine add_loop x y hlx hyx hx hy d (i + 1) _ _ (by omega) (by simpa using ho) (oL.set i (by simp only [B64]; omega)) (by simp only [B64] at *; omega) (by simp only [B64] at *; omega) (fun p hp => by rw [getD_set_ne (by omega)]; exact hz p (by omega)) ?_
      rw [wv_set (by omega), hz i (Nat.le_refl _), wv_take_succ', wv_take_succ', Int.pow_succ]
      have := Int.emod_add_mul_ediv (x.getD i 0 + y.getD i 0 + c) 18446744073709551616
      simp only [B64] at *
      grind
    by_cases hyl : i < y.length
    · refine Res2.succ (fun k n => ?_) next
      simp only [exact_NatAdd.l1, exact_NatAdd.b1, Int.toNat_natCast, e1]
      rw [bp (by omega), bp (by omega), if_pos (by omega), if_pos (by omega), add64_ok' hg.1 hgy.1 hc hc']
      simp only [Option.bind_some]
      rw [if_pos (by omega)]
    · have hy0 : y.getD i 0 = 0 := by simp [List.getD, List.getElem?_eq_none (Nat.le_of_not_lt hyl)]
      rw [hy0] at next
      refine Res2.succ (fun k n => ?_) next
      simp only [exact_NatAdd.l1, exact_NatAdd.b1, Int.toNat_natCast, e1]
      rw [bp (by omega), bn (by omega), if_pos (by omega), add64_ok' hg.1 (by omega) hc hc']
      simp only [Option.bind_some]
      rw [if_pos (by omega)]

theorem natAdd_ok (a b : ByteArray) (hla : a.size ≤ 1099511627776) (hlb : b.size ≤ 1099511627776) : Res (fun k => exact_NatAdd k a b) fun c => Nat_ c ∧ nv c = nv a + nv b := by
  obtain ⟨x, h1, h2, h3, h4, h5⟩ := words_ok a (by omega)
  obtain ⟨y, g1, g2, g3, g4, g5⟩ := words_ok b (by omega)
  have go : ∀ (x y : List Int), x.length ≤ 1099511627776 → y.length ≤ x.length → Lim_ B64 x → Lim_ B64 y → Res (fun k => exact_NatAdd.l0 k k x y) fun c => Nat_ c ∧ nv c = wv B64 x + wv B64 y := by
    intro x y hlx hyx hx hy
    have e1 : IntKind.wrap .i64 ((x.length : Int) + 1) = ((x.length + 1 : Nat) : Int) := by rw [wi _ (by omega) (by omega)]; omega
    have h := add_loop x y hlx hyx hx hy x.length 0 (List.replicate (x.length + 1) 0) 0 (by omega) (by simp) (Lim_.rep (by decide) _) (by omega) (by omega) (fun p _ => by simp only [List.getD, List.getElem?_replicate]; split <;> rfl) (by simp [wv_rep, wv])
    refine Res2.diag (f := fun k n => exact_NatAdd.l0 k n x y) (Res2.succ (fun k n => ?_) (h.mono fun c hc => ⟨hc.1, hc.2.1⟩))
    simp only [exact_NatAdd.l0, exact_NatAdd.b0, e1, Int.toNat_natCast]
    rw [if_pos (by omega), if_pos (by omega)]
    rfl
  unfold exact_NatAdd exact_NatAdd.top
  refine Res.bind (R := fun t => x = t) (g := fun k t1 => (exact_words k b).bind fun t2 => bif decide ((t1.length : Int) < (t2.length : Int)) then (exact_NatAdd.l0 k k t2 t1) else (exact_NatAdd.l0 k k t1 t2)) ⟨x, h1, rfl⟩ ?_
  rintro x rfl
  refine Res.bind (R := fun t => y = t) (g := fun k t2 => bif decide ((x.length : Int) < (t2.length : Int)) then (exact_NatAdd.l0 k k t2 x) else (exact_NatAdd.l0 k k x t2)) ⟨y, g1, rfl⟩ ?_
  rintro y rfl
  by_cases h : x.length < y.length
  · refine Res.of_eq ((go y x (by omega) (by omega) g2 h2).mono fun c hc => ⟨hc.1, by rw [hc.2, h4, g4, nv, nv]; omega⟩) fun k => by rw [bp (by omega)]
  · refine Res.of_eq ((go x y (by omega) (by omega) h2 g2).mono fun c hc => ⟨hc.1, by rw [hc.2, h4, g4]; rfl⟩) fun k => by rw [bn (by omega)]

theorem sub_loop (y : List Int) (n0 : Nat) (hlx : n0 ≤ 1099511627776) (hyx : y.length ≤ n0) (hy : Lim_ B64 y) (X : Int) (hX : wv B64 y ≤ X) : ∀ (d i : Nat) (x : List Int) (c : Int), i + d = n0 → x.length = n0 → Lim_ B64 x → 0 ≤ c → c ≤ 1 →
    wv B64 x = X - wv B64 (y.take i) + c * B64 ^ i → Res2 (fun k n => exact_NatSub.l0 k n c n0 i x y) fun b => Nat_ b ∧ nv b = X - wv B64 y
  | 0, i, x, c, hd, hx, xL, hc, hc', hv => by
    obtain rfl : i = n0 := by omega
    rw [List.take_of_length_le hyx] at hv
    have hlt := wv_lt (B := B64) (by decide) xL
    have hP : (0 : Int) < B64 ^ i := Int.pow_pos (by decide)
    have hc0 : c = 0 := by
      rcases Int.lt_or_le 0 c with h | h
      · have : c = 1 := by omega
        subst this
        rw [hx] at hlt; omega
      · omega
    refine Res2.succ (g := fun k n => (exact_pack k x).bind fun t7 => some t7) (fun k n => ?_) (Res2.call (g := fun k n t7 => some t7) (pack_ok x xL (by omega)) ?_)
    · simp only [exact_NatSub.l0, exact_NatSub.b0]
      rw [bn (by omega)]
    · rintro b ⟨b1, b2, b3⟩
      exact Res2.pure ⟨b1, by rw [nv, b2, hv, hc0]; omega⟩
  | d + 1, i, x, c, hd, hx, xL, hc, hc', hv => by
    have hg := xL.get i (by omega)
    have hgy := hy.getD (by decide) i
    have e1 : IntKind.wrap .i64 ((i : Int) + 1) = ((i + 1 : Nat) : Int) := by rw [wi _ (by omega) (by omega)]; omega
    obtain ⟨e, b, hs, he, hb, hsub⟩ := sub64_ok' hg hgy ⟨hc, hc'⟩
    have next : Res2 (fun k n => exact_NatSub.l0 k n b n0 ((i + 1 : Nat) : Int) (x.set i e) y) fun b => Nat_ b ∧ nv b = X - wv B64 y := by
      refine sub_loop y n0 hlx hyx hy X hX d (i + 1) _ b (by omega) (by simpa using hx) (xL.set i he) hb.1 hb.2 ?_
      rw [wv_set (by omega), hv, wv_take_succ', Int.pow_succ]
      grind
    by_cases hyl : i < y.length
    · refine Res2.succ (fun k n => ?_) next
      simp only [exact_NatSub.l0, exact_NatSub.b0, Int.toNat_natCast, e1]
      rw [bp (by omega), bp (by omega), if_pos (by omega), if_pos (by omega), hs]
      simp only [Option.bind_some]
      rw [if_pos (by omega)]
    · have hy0 : y.getD i 0 = 0 := by simp [List.getD, List.getElem?_eq_none (Nat.le_of_not_lt hyl)]
      rw [hy0] at hs
      refine Res2.succ (fun k n => ?_) next
      simp only [exact_NatSub.l0, exact_NatSub.b0, Int.toNat_natCast, e1]
      rw [bp (by omega), bn (by omega), if_pos (by omega), hs]
      simp only [Option.bind_some]
      rw [if_pos (by omega)]
end Go.Proofs.YthghchjbomlpfaaGreat.Ev

namespace Go.Proofs.YthghchjbomlpfaaGreat.Ev
set_option linter.unusedVariables false

theorem natSub_ok (a b : ByteArray) (hla : a.size ≤ 1099511627776) (hlb : b.size ≤ 1099511627776) (hle : nv b ≤ nv a) : Res (fun k => exact_NatSub k a b) fun c => Nat_ c ∧ nv c = nv a - nv b := by
  obtain ⟨x, h1, h2, h3, h4, h5⟩ := words_ok a (by omega)
  obtain ⟨y, g1, g2, g3, g4, g5⟩ := words_ok b (by omega)
  have hxy : wv B64 y ≤ wv B64 x := by rw [h4, g4]; exact hle
  have hlen : y.length ≤ x.length := by
    by_cases hn : y = []
    · subst hn; simp
    · have a1 := can_lower (B := B64) (by decide) g2 g3 hn
      have a2 := wv_lt (B := B64) (by decide) h2
      have : y.length - 1 < x.length := pow_le_iff (by omega)
      omega
  unfold exact_NatSub exact_NatSub.top
  refine Res.bind (R := fun t => x = t) (g := fun k t1 => (exact_words k b).bind fun t2 => exact_NatSub.l0 k k 0 (t1.length : Int) 0 t1 t2) ⟨x, h1, rfl⟩ ?_
  rintro x rfl
  refine Res.bind (R := fun t => y = t) (g := fun k t2 => exact_NatSub.l0 k k 0 (x.length : Int) 0 x t2) ⟨y, g1, rfl⟩ ?_
  rintro y rfl
  have h := (sub_loop y x.length (by omega) hlen g2 (wv B64 x) hxy x.length 0 x 0 (by omega) rfl h2 (by omega) (by omega) (by simp [wv])).diag
  exact h.mono fun c hc => ⟨hc.1, by rw [hc.2, h4, g4]; rfl⟩

theorem natOf_ok (u : Int) (h0 : 0 ≤ u) (h1 : u < B64) : Res (fun k => exact_NatOf k u) fun c => Nat_ c ∧ nv c = u := by
  unfold exact_NatOf
  refine Res.bind (g := fun k t1 => some t1) (pack_ok [u] (Lim_.cons ⟨h0, h1⟩ (fun _ h => by simp at h)) (by simp)) ?_
  rintro c ⟨c1, c2, c3⟩
  exact Res.pure ⟨c1, by rw [nv, c2]; simp [wv]⟩
end Go.Proofs.YthghchjbomlpfaaGreat.Ev

namespace Go.Proofs.YthghchjbomlpfaaGreat.Ev
set_option linter.unusedVariables false

theorem radd_loop (x y : List Int) (hlx : x.length ≤ 1099511627776) (hly : y.length ≤ 1099511627776) (hx : Lim_ B32 x) (hy : Lim_ B32 y) : ∀ (d i : Nat) (o : List Int) (c : Int), max x.length y.length + 1 ≤ i + d → i ≤ max x.length y.length + 1 → (i = max x.length y.length + 1 → c = 0) → o.length = i → Lim_ B32 o → 0 ≤ c → c ≤ 1 →
    wv B32 o + c * B32 ^ i = wv B32 (x.take i) + wv B32 (y.take i) → Res2 (fun k n => galoisref01_Add.l0 k n c i x y o) fun b => Nat_ b ∧ nv b = wv B32 x + wv B32 y
  | d, i, o, c, hd, hi, hc1, ho, oL, hc, hc', hv => by
    have hgx := hx.getD (by decide) i
    have hgy := hy.getD (by decide) i
    by_cases hstop : ¬ i < x.length ∧ ¬ i < y.length ∧ ¬ 0 < c
    · have hc0 : c = 0 := by omega
      rw [hc0, List.take_of_length_le (by omega), List.take_of_length_le (by omega)] at hv
      refine Res2.succ (g := fun k n => galoisref01_Add.l1 k n c i false x y o) (fun k n => ?_) (Res2.succ (g := fun k n => (galoisref01_pack k o).bind fun t3 => some t3) (fun k n => ?_) (Res2.call (g := fun k n t3 => some t3) (rpack_ok o (by omega) oL) ?_))
      · simp only [galoisref01_Add.l0, galoisref01_Add.b0]
        rw [bn (by omega), bn (by omega), decide_eq_false hstop.2.2]
      · simp only [galoisref01_Add.l1, galoisref01_Add.b1, cond_false]
      · rintro b ⟨b1, b2, b3⟩
        exact Res2.pure ⟨b1, by rw [b2]; omega⟩
    · match d, hd with
      | 0, hd =>
        have : i = max x.length y.length + 1 := by omega
        have := hc1 this
        omega
      | d + 1, hd =>
        have e1 : IntKind.wrap .i64 ((i : Int) + 1) = ((i + 1 : Nat) : Int) := by rw [wi _ (by omega) (by omega)]; omega
        have next : Res2 (fun k n => galoisref01_Add.l0 k n ((c + x.getD i 0 + y.getD i 0) / 4294967296) ((i + 1 : Nat) : Int) x y (o ++ [(c + x.getD i 0 + y.getD i 0) % 4294967296])) fun b => Nat_ b ∧ nv b = wv B32 x + wv B32 y := by
          refine radd_loop x y hlx hly hx hy d (i + 1) _ _ (by omega) ?_ ?_ (by simp [ho]) (oL.append (Lim_.cons (by simp only [B32]; omega) (fun _ h => by simp at h))) (by simp only [B32] at *; omega) (by simp only [B32] at *; omega) ?_
          · have := hc1; omega
          · intro h
            have hx0 : x.getD i 0 = 0 := by simp [List.getD, List.getElem?_eq_none (show x.length ≤ i by omega)]
            have hy0 : y.getD i 0 = 0 := by simp [List.getD, List.getElem?_eq_none (show y.length ≤ i by omega)]
            rw [hx0, hy0]; omega
          · rw [wv_append, ho, wv_take_succ', wv_take_succ', Int.pow_succ]
            have := Int.emod_add_mul_ediv (c + x.getD i 0 + y.getD i 0) 4294967296
            simp only [wv, B32] at *
            grind
        have hl1 : Res2 (fun k n => galoisref01_Add.l1 k n c i true x y o) fun b => Nat_ b ∧ nv b = wv B32 x + wv B32 y := by
          refine Res2.succ (fun k n => ?_) next
          simp only [galoisref01_Add.l1, galoisref01_Add.b1, cond_true, Int.toNat_natCast, e1, List.length_singleton]
          have zx : ¬ i < x.length → x.getD i 0 = 0 := fun h => by simp [List.getD, List.getElem?_eq_none (Nat.le_of_not_lt h)]
          have zy : ¬ i < y.length → y.getD i 0 = 0 := fun h => by simp [List.getD, List.getElem?_eq_none (Nat.le_of_not_lt h)]
          have u1 : IntKind.wrap .u64 (c + x.getD i 0) = c + x.getD i 0 := ule (by omega) (by simp only [B32] at *; omega)
          have u2 : IntKind.wrap .u64 (c + x.getD i 0 + y.getD i 0) = c + x.getD i 0 + y.getD i 0 := ule (by omega) (by simp only [B32] at *; omega)
          have u3 : IntKind.wrap .u64 (c + y.getD i 0) = c + y.getD i 0 := ule (by omega) (by simp only [B32] at *; omega)
          by_cases hix : i < x.length
          · rw [bp (by omega), if_pos (by omega)]
            by_cases hiy : i < y.length
            · rw [bp (by omega), if_pos (by omega), if_pos (by omega), u1, u2, and32 _ (by omega) (by simp only [B32] at *; omega), fd _ _ (by omega)]
            · rw [bn (by omega), if_pos (by omega), u1, and32 _ (by omega) (by simp only [B32] at *; omega), fd _ _ (by omega), zy hiy, Int.add_zero]
          · rw [bn (by omega), zx hix, Int.add_zero]
            by_cases hiy : i < y.length
            · rw [bp (by omega), if_pos (by omega), if_pos (by omega), u3, and32 _ (by omega) (by simp only [B32] at *; omega), fd _ _ (by omega)]
            · rw [bn (by omega), if_pos (by omega), and32 _ (by omega) (by omega), fd _ _ (by omega), zy hiy, Int.add_zero]
        refine Res2.succ (fun k n => ?_) hl1
        simp only [galoisref01_Add.l0, galoisref01_Add.b0]
        by_cases hix : i < x.length
        · rw [bp (by omega)]
        · by_cases hiy : i < y.length
          · rw [bn (by omega), bp (by omega)]
          · rw [bn (by omega), bn (by omega), decide_eq_true (by omega)]

theorem radd_ok (a b : ByteArray) (hla : a.size ≤ 1099511627776) (hlb : b.size ≤ 1099511627776) : Res (fun k => galoisref01_Add k a b) fun c => Nat_ c ∧ nv c = nv a + nv b := by
  unfold galoisref01_Add galoisref01_Add.top
  refine Res.bind (g := fun k t1 => (galoisref01_limbs k b).bind fun t2 => galoisref01_Add.l0 k k 0 0 t1 t2 ([] : List Int)) (limbs_ok a hla) ?_
  rintro x ⟨x1, x2, x3, x4⟩
  refine Res.bind (g := fun k t2 => galoisref01_Add.l0 k k 0 0 x t2 ([] : List Int)) (limbs_ok b hlb) ?_
  rintro y ⟨y1, y2, y3, y4⟩
  have h := (radd_loop x y (by omega) (by omega) x1 y1 (max x.length y.length + 1) 0 [] 0 (by omega) (by omega) (fun h => rfl) rfl (fun _ h => by simp at h) (by omega) (by omega) (by simp [wv])).diag
  exact h.mono fun c hc => ⟨hc.1, by rw [hc.2, x3, y3]; rfl⟩

theorem rof_ok (u : Int) (h0 : 0 ≤ u) (h1 : u < B64) : Res (fun k => galoisref01_Of k u) fun c => Nat_ c ∧ nv c = u := by
  unfold galoisref01_Of
  have e1 := and32 u h0 h1
  have e2 : Int.fdiv u 4294967296 = u / 4294967296 := fd _ _ (by omega)
  simp only [e1, e2]
  refine Res.bind (g := fun k t1 => some t1) (rpack_ok [u % 4294967296, u / 4294967296] (by simp) (Lim_.cons (by simp only [B32]; omega) (Lim_.cons (by simp only [B32, B64] at *; omega) (fun _ h => by simp at h)))) ?_
  rintro c ⟨c1, c2, c3⟩
  refine Res.pure ⟨c1, ?_⟩
  rw [c2]
  simp only [wv, B32]
  omega
end Go.Proofs.YthghchjbomlpfaaGreat.Ev

namespace Go.Proofs.YthghchjbomlpfaaGreat.Ev
set_option linter.unusedVariables false

structure RD (y : List Int) (n : Nat) (V y1 : Int) : Prop where
  n1 : 1 ≤ n
  nl : n ≤ 1099511627776
  yl : y.length = n
  yL : Lim_ B32 y
  yC : Can y
  eV : wv B32 y = V
  ey : y.getD (n - 1) 0 = y1

section
variable {y : List Int} {n : Nat} {V y1 : Int}

theorem RD.Vlt (h : RD y n V y1) : V < (y1 + 1) * B32 ^ (n - 1) := by
  have h1 := wv_take_succ (B := B32) (l := y) (n - 1) (by have := h.yl; have := h.n1; omega)
  rw [show n - 1 + 1 = n by have := h.n1; omega, List.take_of_length_le (by rw [h.yl]; exact Nat.le_refl _), h.eV, h.ey] at h1
  have h2 := wv_lt (B := B32) (by decide) (h.yL.take (n - 1))
  rw [List.length_take, h.yl, Nat.min_eq_left (by omega)] at h2
  rw [h1, Int.add_mul, Int.one_mul, Int.mul_comm]
  omega
theorem RD.Vtop (h : RD y n V y1) : y1 * B32 ^ (n - 1) ≤ V := by
  have h1 := wv_take_succ (B := B32) (l := y) (n - 1) (by have := h.yl; have := h.n1; omega)
  rw [show n - 1 + 1 = n by have := h.n1; omega, List.take_of_length_le (by rw [h.yl]; exact Nat.le_refl _), h.eV, h.ey] at h1
  have h2 := wv_nonneg (B := B32) (by decide) (h.yL.take (n - 1))
  rw [h1, Int.mul_comm]
  omega
theorem RD.y1p (h : RD y n V y1) : 1 ≤ y1 ∧ y1 < B32 := by
  have hn := h.n1
  have hl := h.yl
  have h1 := h.yL.get (n - 1) (by omega)
  rw [h.ey] at h1
  refine ⟨?_, h1.2⟩
  obtain ⟨m, x, rfl⟩ : ∃ m x, y = m ++ [x] := ⟨y.dropLast, y.getLast (fun e => by rw [e] at hl; simp at hl; omega), (List.dropLast_concat_getLast _).symm⟩
  have h2 : x ≠ 0 := fun e => by subst e; exact h.yC (by simp)
  have h3 : (m ++ [x]).getD (n - 1) 0 = x := by
    have : n - 1 = m.length := by simp at hl; omega
    rw [this]; simp [List.getD]
  rw [← h.ey, h3] at h1 ⊢
  omega
theorem RD.V1 (h : RD y n V y1) : B32 ^ (n - 1) ≤ V := by
  have h1 := h.Vtop
  have h2 := h.y1p
  have h3 : (0 : Int) ≤ B32 ^ (n - 1) := Int.pow_nonneg (by decide)
  have := Int.mul_le_mul_of_nonneg_right h2.1 h3
  omega
theorem RD.Vpos (h : RD y n V y1) : 1 ≤ V := by
  have h1 := h.V1
  have h3 : (0 : Int) < B32 ^ (n - 1) := Int.pow_pos (by decide)
  omega

theorem rdiv_sub (h : RD y n V y1) (kx : Nat) (hk : kx ≤ 1099511627776) (g : Int) (g0 : 0 ≤ g) (g1 : g < B32) (q T0 : List Int) (N : Nat) (hN : kx + n < N) (W : Int) (hW : g * V ≤ W) (hWlt : W < B32 ^ (n + 1)) (Q : ByteArray × ByteArray → Prop)
    (hn : ∀ r : List Int, r.length = N → Lim_ B32 r → r.take kx = T0 → wv B32 (r.drop kx) = W - g * V → Res2 (fun k m => galoisref01_DivMod.l1 k m n kx y r q) Q) :
    ∀ (d i : Nat) (b : Int) (r : List Int), i + d = n → r.length = N → Lim_ B32 r → 0 ≤ b → b < B32 → r.take kx = T0 → wv B32 (r.drop kx) = W - g * wv B32 (y.take i) + b * B32 ^ i → wv B32 (r.drop (kx + (n + 1))) = 0 →
      Res2 (fun k m => galoisref01_DivMod.l2 k m n kx g b i y r q) Q
  | 0, i, b, r, hd, hr, rL, hb, hb', hT, hv, hz => by
    obtain rfl : i = n := by omega
    have hnl := h.nl
    have e1 : IntKind.wrap .i64 ((kx : Int) + (i : Int)) = ((kx + i : Nat) : Int) := by rw [wi _ (by omega) (by omega)]; omega
    rw [List.take_of_length_le (by rw [h.yl]; exact Nat.le_refl _), h.eV] at hv
    have hg := rL.get (kx + i) (by omega)
    -- the highest limb is not below what is borrowed
    have hs := wv_split (B := B32) i (l := r.drop kx) (by simp; omega)
    have ht0 := wv_nonneg (B := B32) (by decide) ((rL.drop kx).take i)
    have ht1 := wv_lt (B := B32) (by decide) ((rL.drop kx).take i)
    rw [List.length_take, List.length_drop, Nat.min_eq_left (by omega)] at ht1
    rw [wv_drop i (by simp; omega), List.drop_drop, getD_drop, hz, Int.mul_zero, Int.add_zero] at hs
    have hP : (0 : Int) < B32 ^ i := Int.pow_pos (by decide)
    have hle : b ≤ r.getD (kx + i) 0 := by
      rcases Int.lt_or_le (r.getD (kx + i) 0) b with h1 | h1
      · have := Int.mul_le_mul_of_nonneg_left (show r.getD (kx + i) 0 + 1 ≤ b by omega) (show (0 : Int) ≤ B32 ^ i by omega)
        rw [Int.mul_add, Int.mul_one, Int.mul_comm _ b] at this
        omega
      · exact h1
    have e2 : IntKind.wrap .u64 (r.getD (kx + i) 0 - b) = r.getD (kx + i) 0 - b := ule (by omega) (by simp only [B32] at *; omega)
    refine Res2.succ (fun k m => ?_) (hn (r.set (kx + i) (r.getD (kx + i) 0 - b)) (by simpa using hr) (rL.set _ (by omega)) (by rw [List.take_set_of_le (by omega)]; exact hT) ?_)
    · simp only [galoisref01_DivMod.l2, galoisref01_DivMod.b2, e1, Int.toNat_natCast, e2]
      rw [bn (by omega), if_pos (by omega), if_pos (by omega)]
    · rw [List.drop_set, if_neg (by omega), show kx + i - kx = i by omega, wv_set (by simp; omega), getD_drop, hv]
      grind
  | d + 1, i, b, r, hd, hr, rL, hb, hb', hT, hv, hz => by
    have hnl := h.nl
    have hyl := h.yl
    have e1 : IntKind.wrap .i64 ((kx : Int) + (i : Int)) = ((kx + i : Nat) : Int) := by rw [wi _ (by omega) (by omega)]; omega
    have e2 : IntKind.wrap .i64 ((i : Int) + 1) = ((i + 1 : Nat) : Int) := by rw [wi _ (by omega) (by omega)]; omega
    have hy := h.yL.get i (by omega)
    have hg := rL.get (kx + i) (by omega)
    have hp0 := Int.mul_nonneg hy.1 g0
    have hp1 : y.getD i 0 * g ≤ (B32 - 1) * (B32 - 1) := Int.mul_le_mul (by omega) (by omega) g0 (by decide)
    have ep : IntKind.wrap .u64 (IntKind.wrap .u64 (y.getD i 0 * g) + b) = y.getD i 0 * g + b := by
      generalize y.getD i 0 * g = p at *
      simp only [B32] at *
      rw [ule (x := p) (by omega) (by omega), ule (by omega) (by omega)]
    have hpb0 : 0 ≤ y.getD i 0 * g + b := by omega
    have hpb1 : y.getD i 0 * g + b < 18446744073709551616 := by simp only [B32] at *; omega
    -- the new limb and what is borrowed
    have key : ∀ (x b' : Int), (0 ≤ x ∧ x < B32) → 0 ≤ b' → b' < B32 → r.getD (kx + i) 0 - (y.getD i 0 * g + b) = x - B32 * b' → Res2 (fun k m => galoisref01_DivMod.l2 k m n kx g b' ((i + 1 : Nat) : Int) y (r.set (kx + i) x) q) Q := by
      intro x b' hx hb0 hb1 hxe
      refine rdiv_sub h kx hk g g0 g1 q T0 N hN W hW hWlt Q hn d (i + 1) b' (r.set (kx + i) x) (by omega) (by simpa using hr) (rL.set _ hx) hb0 hb1 (by rw [List.take_set_of_le (by omega)]; exact hT) ?_ ?_
      · rw [List.drop_set, if_neg (by omega), show kx + i - kx = i by omega, wv_set (by simp; omega), getD_drop, hv, wv_take_succ i (by omega), Int.pow_succ]
        grind
      · rw [List.drop_set, if_pos (by omega)]; exact hz
    by_cases hlt : r.getD (kx + i) 0 < (y.getD i 0 * g + b) % 4294967296
    · have e3 : IntKind.wrap .u64 (r.getD (kx + i) 0 + 4294967296) = r.getD (kx + i) 0 + 4294967296 := ule (by omega) (by simp only [B32] at *; omega)
      have e4 : (r.set (kx + i) (r.getD (kx + i) 0 + 4294967296)).getD (kx + i) 0 = r.getD (kx + i) 0 + 4294967296 := by simp [List.getD, show kx + i < r.length by omega]
      have e5 : IntKind.wrap .u64 (r.getD (kx + i) 0 + 4294967296 - (y.getD i 0 * g + b) % 4294967296) = r.getD (kx + i) 0 + 4294967296 - (y.getD i 0 * g + b) % 4294967296 := ule (by omega) (by simp only [B32] at *; omega)
      have e6 : IntKind.wrap .u64 ((y.getD i 0 * g + b) / 4294967296 + 1) = (y.getD i 0 * g + b) / 4294967296 + 1 := ule (by omega) (by omega)
      refine Res2.succ (fun k m => ?_) (key (r.getD (kx + i) 0 + 4294967296 - (y.getD i 0 * g + b) % 4294967296) ((y.getD i 0 * g + b) / 4294967296 + 1) ?_ ?_ ?_ ?_)
      · simp only [galoisref01_DivMod.l2, galoisref01_DivMod.b2, e1, e2, Int.toNat_natCast, ep, and32 _ hpb0 hpb1, e3, e4, fd _ 4294967296 (show (0 : Int) ≤ 4294967296 by omega), e5, e6, List.set_set, List.length_set]
        rw [bp (by omega), if_pos (by omega), if_pos (by omega), bp hlt, if_pos (by omega), if_pos (by omega), if_pos (by omega), if_pos (by omega)]
      · simp only [B32] at *; omega
      · omega
      · simp only [B32] at *; omega
      · simp only [B32] at *; omega
    · have e5 : IntKind.wrap .u64 (r.getD (kx + i) 0 - (y.getD i 0 * g + b) % 4294967296) = r.getD (kx + i) 0 - (y.getD i 0 * g + b) % 4294967296 := ule (by omega) (by simp only [B32] at *; omega)
      refine Res2.succ (fun k m => ?_) (key (r.getD (kx + i) 0 - (y.getD i 0 * g + b) % 4294967296) ((y.getD i 0 * g + b) / 4294967296) ?_ ?_ ?_ ?_)
      · simp only [galoisref01_DivMod.l2, galoisref01_DivMod.b2, e1, e2, Int.toNat_natCast, ep, and32 _ hpb0 hpb1, fd _ 4294967296 (show (0 : Int) ≤ 4294967296 by omega), e5]
        rw [bp (by omega), if_pos (by omega), if_pos (by omega), bn hlt, if_pos (by omega), if_pos (by omega)]
      · simp only [B32] at *; omega
      · omega
      · simp only [B32] at *; omega
      · simp only [B32] at *; omega

theorem RD.guess (h : RD y n V y1) {r : List Int} {kx : Nat} (rL : Lim_ B32 r) (hk : kx + n < r.length) (hge : V ≤ wv B32 (r.drop kx)) (hlt : wv B32 (r.drop kx) < V * B32) :
    ∃ g, (if IntKind.wrap .u64 (Int.tdiv (IntKind.wrap .u64 (IntKind.wrap .u64 (r.getD (kx + n) 0 * 4294967296) + r.getD (kx + n - 1) 0)) (IntKind.wrap .u64 (y1 + 1))) > 1 then IntKind.wrap .u64 (Int.tdiv (IntKind.wrap .u64 (IntKind.wrap .u64 (r.getD (kx + n) 0 * 4294967296) + r.getD (kx + n - 1) 0)) (IntKind.wrap .u64 (y1 + 1))) else 1) = g ∧
      1 ≤ g ∧ g < B32 ∧ g * V ≤ wv B32 (r.drop kx) ∧ wv B32 (r.drop (kx + (n + 1))) = 0 ∧ wv B32 (r.drop kx) < B32 ^ (n + 1) := by
  have hn := h.n1
  have hy1 := h.y1p
  have hVp := h.Vpos
  have hVl := h.Vlt
  have hVt := h.Vtop
  have a1 := rL.get (kx + n) hk
  have a2 := rL.get (kx + n - 1) (by omega)
  have hP : (0 : Int) < B32 ^ (n - 1) := Int.pow_pos (by decide)
  have en : B32 ^ n = B32 ^ (n - 1) * B32 := by rw [← Int.pow_succ, show (n - 1).succ = n by omega]
  have en1 : B32 ^ (n + 1) = B32 ^ (n - 1) * B32 * B32 := by rw [Int.pow_succ, en]
  have hVn : V < B32 ^ n := by rw [← h.eV, ← h.yl]; exact wv_lt (by decide) h.yL
  have hWn : wv B32 (r.drop kx) < B32 ^ (n + 1) := by
    rw [Int.pow_succ]
    have := Int.mul_le_mul_of_nonneg_right (show V ≤ B32 ^ n by omega) (show (0 : Int) ≤ B32 by decide)
    omega
  -- the parts
  have hs := wv_split (B := B32) (n - 1) (l := r.drop kx) (by simp; omega)
  have ht0 := wv_nonneg (B := B32) (by decide) ((rL.drop kx).take (n - 1))
  have ht1 := wv_lt (B := B32) (by decide) ((rL.drop kx).take (n - 1))
  rw [List.length_take, List.length_drop, Nat.min_eq_left (by omega)] at ht1
  have hz0 := wv_nonneg (B := B32) (by decide) (rL.drop (kx + (n + 1)))
  rw [wv_drop (n - 1) (by simp; omega), getD_drop, show kx + (n - 1) = kx + n - 1 by omega, show n - 1 + 1 = n by omega, wv_drop n (by simp; omega), getD_drop, List.drop_drop] at hs
  have hz : wv B32 (r.drop (kx + (n + 1))) = 0 := by
    rcases Int.lt_or_le 0 (wv B32 (r.drop (kx + (n + 1)))) with h1 | h1
    · have h2 : B32 ^ (n - 1) * (B32 * (B32 * 1)) ≤ B32 ^ (n - 1) * (r.getD (kx + n - 1) 0 + B32 * (r.getD (kx + n) 0 + B32 * wv B32 (r.drop (kx + (n + 1))))) := Int.mul_le_mul_of_nonneg_left (by simp only [B32] at *; omega) (by omega)
      have h3 : B32 ^ (n - 1) * (B32 * (B32 * 1)) = B32 ^ (n - 1) * B32 * B32 := by grind
      omega
    · omega
  rw [hz, Int.mul_zero, Int.add_zero] at hs
  have e1 : IntKind.wrap .u64 (IntKind.wrap .u64 (r.getD (kx + n) 0 * 4294967296) + r.getD (kx + n - 1) 0) = r.getD (kx + n) 0 * 4294967296 + r.getD (kx + n - 1) 0 := by
    simp only [B32] at *
    rw [ule (x := r.getD (kx + n) 0 * 4294967296) (by omega) (by omega), ule (by omega) (by omega)]
  have e2 : IntKind.wrap .u64 (y1 + 1) = y1 + 1 := ule (by omega) (by simp only [B32] at *; omega)
  have hN0 : 0 ≤ r.getD (kx + n) 0 * 4294967296 + r.getD (kx + n - 1) 0 := by omega
  have hd0 : 0 ≤ (r.getD (kx + n) 0 * 4294967296 + r.getD (kx + n - 1) 0) / (y1 + 1) := Int.ediv_nonneg hN0 (by omega)
  have hd1 : (r.getD (kx + n) 0 * 4294967296 + r.getD (kx + n - 1) 0) / (y1 + 1) < 4294967296 := by
    rw [Int.ediv_lt_iff_lt_mul (by omega)]
    -- w_n ≤ y1
    have h1 : r.getD (kx + n) 0 ≤ y1 := by
      have h2 : r.getD (kx + n) 0 * (B32 ^ (n - 1) * B32) < (y1 + 1) * (B32 ^ (n - 1) * B32) := by
        have h3 : B32 ^ (n - 1) * (r.getD (kx + n - 1) 0 + B32 * r.getD (kx + n) 0) = B32 ^ (n - 1) * r.getD (kx + n - 1) 0 + r.getD (kx + n) 0 * (B32 ^ (n - 1) * B32) := by grind
        have h4 := Int.mul_nonneg (show 0 ≤ B32 ^ (n - 1) by omega) a2.1
        have h5 := Int.mul_lt_mul_of_pos_right hVl (show (0 : Int) < B32 by decide)
        have h6 : (y1 + 1) * B32 ^ (n - 1) * B32 = (y1 + 1) * (B32 ^ (n - 1) * B32) := Int.mul_assoc _ _ _
        omega
      have := Int.lt_of_mul_lt_mul_right h2 (Int.mul_nonneg (by omega) (by decide))
      omega
    have h7 := Int.mul_le_mul_of_nonneg_right (show r.getD (kx + n) 0 + 1 ≤ y1 + 1 by omega) (show (0 : Int) ≤ 4294967296 by decide)
    simp only [B32] at *
    omega
  have hgV : (r.getD (kx + n) 0 * 4294967296 + r.getD (kx + n - 1) 0) / (y1 + 1) * V ≤ wv B32 (r.drop kx) := by
    have h1 : (r.getD (kx + n) 0 * 4294967296 + r.getD (kx + n - 1) 0) / (y1 + 1) * (y1 + 1) ≤ r.getD (kx + n) 0 * 4294967296 + r.getD (kx + n - 1) 0 := Int.ediv_mul_le _ (by omega)
    have h2 := Int.mul_le_mul_of_nonneg_left (show V ≤ (y1 + 1) * B32 ^ (n - 1) by omega) hd0
    have h3 := Int.mul_le_mul_of_nonneg_right h1 (show 0 ≤ B32 ^ (n - 1) by omega)
    rw [Int.mul_assoc] at h3
    have h4 : (r.getD (kx + n) 0 * 4294967296 + r.getD (kx + n - 1) 0) * B32 ^ (n - 1) = B32 ^ (n - 1) * (r.getD (kx + n - 1) 0 + B32 * r.getD (kx + n) 0) := by simp only [B32]; grind
    omega
  rw [e1, e2, td _ _ hN0, ule hd0 (by omega)]
  refine ⟨_, rfl, ?_⟩
  split
  · exact ⟨by omega, hd1, hgV, hz, hWn⟩
  · exact ⟨by omega, by decide, by rw [Int.one_mul]; exact hge, hz, hWn⟩

theorem rdiv_digit (h : RD y n V y1) (kx : Nat) (hk : kx ≤ 1099511627776) (T0 : List Int) (N : Nat) (hN : kx + n < N) (hN' : N ≤ 1099511627777) (M : Nat) (hM : kx < M) (A : Int) (Q : ByteArray × ByteArray → Prop)
    (hn : ∀ (r q : List Int), r.length = N → Lim_ B32 r → q.length = M → Lim_ B32 q → wv B32 (q.take kx) = 0 → wv B32 (r.drop kx) < V → A = wv B32 r + V * wv B32 q → Res2 (fun k m => galoisref01_DivMod.l0 k m n ((kx : Int) - 1) y r q) Q) :
    ∀ (j : Nat) (r q : List Int), wv B32 (r.drop kx) ≤ j → r.length = N → Lim_ B32 r → q.length = M → Lim_ B32 q → wv B32 (q.take kx) = 0 → q.getD kx 0 * V + wv B32 (r.drop kx) < V * B32 → A = wv B32 r + V * wv B32 q →
      Res2 (fun k m => galoisref01_DivMod.l1 k m n kx y r q) Q := by
  intro j
  have hn1 := h.n1
  have hnl := h.nl
  have hyl := h.yl
  have hVp := h.Vpos
  have e1 : IntKind.wrap .i64 ((kx : Int) + (n : Int)) = ((kx + n : Nat) : Int) := by rw [wi _ (by omega) (by omega)]; omega
  have e2 : IntKind.wrap .i64 (((kx + n : Nat) : Int) - 1) = ((kx + n - 1 : Nat) : Int) := by rw [wi _ (by omega) (by omega)]; omega
  have e3 : IntKind.wrap .i64 ((n : Int) - 1) = ((n - 1 : Nat) : Int) := by rw [wi _ (by omega) (by omega)]; omega
  have e4 : IntKind.wrap .i64 ((kx : Int) - 1) = (kx : Int) - 1 := by rw [wi _ (by omega) (by omega)]
  have stop : ∀ r q : List Int, r.length = N → Lim_ B32 r → q.length = M → Lim_ B32 q → wv B32 (q.take kx) = 0 → wv B32 (r.drop kx) < V → A = wv B32 r + V * wv B32 q → Res2 (fun k m => galoisref01_DivMod.l1 k m n kx y r q) Q := by
    intro r q hr rL hq qL hz hlt hA
    have hbel := rbelow_ok (B := B32) (r.drop kx) y (by simp; omega) (by omega) (by decide) (rL.drop kx) h.yL h.yC
    rw [h.eV, decide_eq_true hlt] at hbel
    refine Res2.succ (g := fun k m => (galoisref01_below k (r.drop kx) y).bind fun t3 => bif t3 then galoisref01_DivMod.l0 k m n ((kx : Int) - 1) y r q else galoisref01_DivMod.l1 k (m + 1) n kx y r q) (fun k m => ?_) (Res2.call (R := fun x => true = x) (g := fun k m t3 => bif t3 then galoisref01_DivMod.l0 k m n ((kx : Int) - 1) y r q else galoisref01_DivMod.l1 k (m + 1) n kx y r q) ⟨_, hbel, rfl⟩ ?_)
    · have hl : List.take (r.length - kx) (List.drop kx r) = r.drop kx := List.take_of_length_le (by simp)
      simp only [galoisref01_DivMod.l1, galoisref01_DivMod.b1, Int.toNat_natCast, hl, e4]
      rw [if_pos (by omega)]
      cases hb : galoisref01_below k (r.drop kx) y with
      | none => rfl
      | some t =>
        cases t with
        | true => rfl
        | false => simp only [Option.bind_some, Bool.not_false, cond_true, cond_false]
    · rintro _ rfl
      exact hn r q hr rL hq qL hz hlt hA
  induction j with
  | zero =>
    intro r q hj hr rL hq qL hz hlt hA
    exact stop r q hr rL hq qL hz (by omega) hA
  | succ j ih =>
    intro r q hj hr rL hq qL hz hlt hA
    by_cases hc : wv B32 (r.drop kx) < V
    · exact stop r q hr rL hq qL hz hc hA
    · have hqg := qL.get kx (by omega)
      have hqV := Int.mul_nonneg hqg.1 (show 0 ≤ V by omega)
      obtain ⟨g, eg, g0, g1, g2, g3, g4⟩ := h.guess rL (by omega) (by omega : V ≤ wv B32 (r.drop kx)) (by omega)
      have hbel := rbelow_ok (B := B32) (r.drop kx) y (by simp; omega) (by omega) (by decide) (rL.drop kx) h.yL h.yC
      rw [h.eV, decide_eq_false hc] at hbel
      -- the digit stays one
      have hqb : q.getD kx 0 + g < B32 := by
        have h1 : (q.getD kx 0 + g) * V < B32 * V := by rw [Int.add_mul, Int.mul_comm B32]; omega
        exact Int.lt_of_mul_lt_mul_right h1 (by omega)
      have e5 : IntKind.wrap .u64 (q.getD kx 0 + g) = q.getD kx 0 + g := ule (by omega) (by simp only [B32] at *; omega)
      have e6 : IntKind.wrap .u64 (y1 + 1) = y1 + 1 := by have := h.y1p; exact ule (by omega) (by simp only [B32] at *; omega)
      have hsub := rdiv_sub h kx hk g (by omega) g1 (q.set kx (q.getD kx 0 + g)) (r.take kx) N hN (wv B32 (r.drop kx)) g2 g4 Q (fun r' b1 b2 b3 b4 => by
        have hgV := Int.mul_le_mul_of_nonneg_right g0 (show 0 ≤ V by omega)
        refine ih r' (q.set kx (q.getD kx 0 + g)) (by rw [b4]; omega) b1 b2 (by simpa using hq) (qL.set _ ⟨by omega, hqb⟩) (by rw [List.take_set_of_le (Nat.le_refl _)]; exact hz) ?_ ?_
        · have : (q.set kx (q.getD kx 0 + g)).getD kx 0 = q.getD kx 0 + g := by simp [List.getD, show kx < q.length by omega]
          rw [this, b4, Int.add_mul]; omega
        · have s1 := wv_split (B := B32) kx (l := r) (by omega)
          have s2 := wv_split (B := B32) kx (l := r') (by omega)
          rw [b3, b4] at s2
          rw [wv_set (by omega), hA, s2, s1]
          grind) n 0 0 r (by omega) hr rL (by omega) (by decide) rfl (by simp [wv]) g3
      refine Res2.succ (g := fun k m => (galoisref01_below k (r.drop kx) y).bind fun t3 => bif t3 then galoisref01_DivMod.l0 k m n ((kx : Int) - 1) y r q else galoisref01_DivMod.l2 k m n kx g 0 0 y r (q.set kx (q.getD kx 0 + g))) (fun k m => ?_) (Res2.call (R := fun x => false = x) (g := fun k m t3 => bif t3 then galoisref01_DivMod.l0 k m n ((kx : Int) - 1) y r q else galoisref01_DivMod.l2 k m n kx g 0 0 y r (q.set kx (q.getD kx 0 + g))) ⟨_, hbel, rfl⟩ ?_)
      · have hl : List.take (r.length - kx) (List.drop kx r) = r.drop kx := List.take_of_length_le (by simp)
        have hy1 := h.y1p
        simp only [galoisref01_DivMod.l1, galoisref01_DivMod.b1, Int.toNat_natCast, hl, e1, e2, e3, e4, h.ey, eg, e5]
        rw [if_pos (by omega)]
        congr 1
        funext t3
        cases t3 with
        | true => rfl
        | false =>
          simp only [Bool.not_false, cond_true, cond_false]
          rw [if_pos (by omega), if_pos (by omega), if_pos (by omega), e6, if_neg (by omega), if_pos (by omega), if_pos (by omega)]
      · rintro _ rfl
        exact hsub
end
end Go.Proofs.YthghchjbomlpfaaGreat.Ev

namespace Go.Proofs.YthghchjbomlpfaaGreat.Ev
set_option linter.unusedVariables false

theorem rdiv_loop {y : List Int} {n : Nat} {V y1 : Int} (h : RD y n V y1) (N : Nat) (hN' : N ≤ 1099511627777) (M : Nat) (hMN : M = 0 ∨ M + n = N) (A : Int) :
    ∀ (kx : Nat) (r q : List Int), kx ≤ M → r.length = N → Lim_ B32 r → q.length = M → Lim_ B32 q → wv B32 (q.take kx) = 0 → wv B32 (r.drop kx) < V → A = wv B32 r + V * wv B32 q →
      Res2 (fun k m => galoisref01_DivMod.l0 k m n ((kx : Int) - 1) y r q) fun x => Nat_ x.1 ∧ Nat_ x.2 ∧ nv x.1 = A / V ∧ nv x.2 = A % V
  | 0, r, q, hk, hr, rL, hq, qL, hz, hlt, hA => by
    rw [List.drop_zero] at hlt
    have hr0 := wv_nonneg (B := B32) (by decide) rL
    have hu := div_uniq (a := A) (y := V) (q := wv B32 q) (r := wv B32 r) (by rw [hA, Int.mul_comm]; omega) hr0 hlt
    refine Res2.succ (g := fun k m => (galoisref01_pack k q).bind fun t4 => (galoisref01_pack k r).bind fun t5 => some (t4, t5)) (fun k m => ?_) (Res2.call (g := fun k m t4 => (galoisref01_pack k r).bind fun t5 => some (t4, t5)) (rpack_ok q (by omega) qL) ?_)
    · simp only [galoisref01_DivMod.l0, galoisref01_DivMod.b0]
      rw [bn (by omega)]
    · rintro c ⟨c1, c2, c3⟩
      refine Res2.call (g := fun k m t5 => some (c, t5)) (rpack_ok r (by omega) rL) ?_
      rintro e ⟨e1, e2, e3⟩
      exact Res2.pure ⟨c1, e1, by rw [c2, hu.1], by rw [e2, hu.2]⟩
  | kx + 1, r, q, hk, hr, rL, hq, qL, hz, hlt, hA => by
    have hn := h.n1
    have hg := rL.get kx (by omega)
    have hqg := qL.get kx (by omega)
    have hP : (0 : Int) < B32 ^ kx := Int.pow_pos (by decide)
    rw [wv_take_succ kx (by omega)] at hz
    have z0 := wv_nonneg (B := B32) (by decide) (qL.take kx)
    have z1 := Int.mul_nonneg (show 0 ≤ B32 ^ kx by omega) hqg.1
    have z2 : q.getD kx 0 = 0 := by
      have : B32 ^ kx * q.getD kx 0 = B32 ^ kx * 0 := by omega
      exact Int.eq_of_mul_eq_mul_left (by omega) this
    have e0 : ((kx + 1 : Nat) : Int) - 1 = (kx : Int) := by omega
    have hd := rdiv_digit h kx (by omega) [] N (by omega) hN' M (by omega) A _ (fun r' q' a1 a2 a3 a4 a5 a6 a7 => rdiv_loop h N hN' M hMN A kx r' q' (by omega) a1 a2 a3 a4 a5 a6 a7) (wv B32 (r.drop kx)).toNat r q (by have := wv_nonneg (B := B32) (by decide) (rL.drop kx); omega) hr rL hq qL (by omega) ?_ hA
    · refine Res2.succ (fun k m => ?_) hd
      simp only [galoisref01_DivMod.l0, galoisref01_DivMod.b0, e0]
      rw [bp (by omega)]
    · rw [z2, wv_drop kx (by omega)]
      have := Int.mul_le_mul_of_nonneg_left (show wv B32 (r.drop (kx + 1)) + 1 ≤ V by omega) (show (0 : Int) ≤ B32 by decide)
      rw [Int.mul_add, Int.mul_one, Int.mul_comm _ V] at this
      omega

theorem nat_ne {b : ByteArray} (h : Nat_ b) : b.data.toList = [] ↔ nv b = 0 := by
  constructor
  · intro e; rw [nv, e]; rfl
  · intro e
    by_cases hn : b.data.toList = []
    · exact hn
    · have := bz_low h hn
      have h5 : (0 : Int) < 256 ^ (b.data.toList.length - 1) := Int.pow_pos (by omega)
      rw [nv] at e; omega

theorem toList_data (b : ByteArray) : b.toList = b.data.toList := by
  exact ByteArray.toList_eq b

theorem beq_nil (b : ByteArray) : (b.toList == (⟨#[]⟩ : ByteArray).toList) = decide (b.data.toList = []) := by
  rw [toList_data, toList_data]
  cases h : b.data.toList with
  | nil => rfl
  | cons x l => rfl

theorem rdivmod_ok (a b : ByteArray) (hla : a.size ≤ 1099511627776) (hlb : b.size ≤ 1099511627776) (hb : nv b ≠ 0) : Res (fun k => galoisref01_DivMod k a b) fun c => Nat_ c.1 ∧ Nat_ c.2 ∧ nv c.1 = nv a / nv b ∧ nv c.2 = nv a % nv b := by
  have hne : b.data.toList ≠ [] := fun e => hb (by rw [nv, e]; rfl)
  refine Res.of_eq (g := fun k => (galoisref01_limbs k a).bind fun t1 => (galoisref01_limbs k b).bind fun t2 => if t1.length + ([0] : List Int).length < 140737488355328 / 8 then (if 0 ≤ (if (IntKind.wrap .i64 ((IntKind.wrap .i64 ((t1.length : Int) - (t2.length : Int))) + 1)) > 0 then (IntKind.wrap .i64 ((IntKind.wrap .i64 ((t1.length : Int) - (t2.length : Int))) + 1)) else 0) then (if (Int.toNat (if (IntKind.wrap .i64 ((IntKind.wrap .i64 ((t1.length : Int) - (t2.length : Int))) + 1)) > 0 then (IntKind.wrap .i64 ((IntKind.wrap .i64 ((t1.length : Int) - (t2.length : Int))) + 1)) else 0)) ≤ 281474976710656 / 8 then (galoisref01_DivMod.l0 k k (t2.length : Int) (IntKind.wrap .i64 (((List.replicate (Int.toNat (if (IntKind.wrap .i64 ((IntKind.wrap .i64 ((t1.length : Int) - (t2.length : Int))) + 1)) > 0 then (IntKind.wrap .i64 ((IntKind.wrap .i64 ((t1.length : Int) - (t2.length : Int))) + 1)) else 0)) 0 : List Int).length : Int) - 1)) t2 (t1 ++ ([0] : List Int)) (List.replicate (Int.toNat (if (IntKind.wrap .i64 ((IntKind.wrap .i64 ((t1.length : Int) - (t2.length : Int))) + 1)) > 0 then (IntKind.wrap .i64 ((IntKind.wrap .i64 ((t1.length : Int) - (t2.length : Int))) + 1)) else 0)) 0 : List Int)) else none) else none) else none) ?_ (fun k => by
    simp only [galoisref01_DivMod, galoisref01_DivMod.top, beq_nil, decide_eq_false hne, cond_false])
  refine Res.bind (limbs_ok a hla) ?_
  rintro x ⟨x1, x2, x3, x4⟩
  refine Res.bind (limbs_ok b hlb) ?_
  rintro y ⟨y1, y2, y3, y4⟩
  have hyv : wv B32 y = nv b := y3
  have hxv : wv B32 x = nv a := x3
  have hyn : 1 ≤ y.length := by
    cases y with
    | nil => simp only [wv] at hyv; omega
    | cons => simp
  have hRD : RD y y.length (wv B32 y) (y.getD (y.length - 1) 0) := ⟨hyn, by omega, rfl, y1, y2, rfl, rfl⟩
  have e1 : IntKind.wrap .i64 ((x.length : Int) - (y.length : Int)) = (x.length : Int) - (y.length : Int) := by rw [wi _ (by omega) (by omega)]
  have e2 : IntKind.wrap .i64 ((x.length : Int) - (y.length : Int) + 1) = (x.length : Int) - (y.length : Int) + 1 := by rw [wi _ (by omega) (by omega)]
  have e3 : (if (x.length : Int) - (y.length : Int) + 1 > 0 then (x.length : Int) - (y.length : Int) + 1 else 0) = ((x.length + 1 - y.length : Nat) : Int) := by split <;> omega
  have e4 : IntKind.wrap .i64 (((x.length + 1 - y.length : Nat) : Int) - 1) = ((x.length + 1 - y.length : Nat) : Int) - 1 := by rw [wi _ (by omega) (by omega)]
  have hdr : wv B32 ((x ++ [0]).drop (x.length + 1 - y.length)) < wv B32 y := by
    have h1 : (x ++ [0]).drop (x.length + 1 - y.length) = x.drop (x.length + 1 - y.length) ++ [0] := List.drop_append_of_le_length (by omega)
    rw [h1, wv_append]
    simp only [wv, Int.mul_zero, Int.add_zero]
    have h2 := wv_lt (B := B32) (by decide) (x1.drop (x.length + 1 - y.length))
    rw [List.length_drop] at h2
    have h3 := hRD.V1
    have h4 : B32 ^ (x.length - (x.length + 1 - y.length)) ≤ B32 ^ (y.length - 1) := by
      obtain ⟨d, hd⟩ : ∃ d, y.length - 1 = x.length - (x.length + 1 - y.length) + d := ⟨y.length - 1 - (x.length - (x.length + 1 - y.length)), by omega⟩
      rw [hd, Int.pow_add]
      have h5 : (0 : Int) < B32 ^ d := Int.pow_pos (by decide)
      have h6 : (0 : Int) < B32 ^ (x.length - (x.length + 1 - y.length)) := Int.pow_pos (by decide)
      have := Int.mul_le_mul_of_nonneg_left (show (1 : Int) ≤ B32 ^ d by omega) (show 0 ≤ B32 ^ (x.length - (x.length + 1 - y.length)) by omega)
      omega
    omega
  have := (rdiv_loop hRD (x.length + 1) (by omega) (x.length + 1 - y.length) (by omega) (nv a) (x.length + 1 - y.length) (x ++ [0]) (List.replicate (x.length + 1 - y.length) 0) (Nat.le_refl _) (by simp) (x1.append (Lim_.cons (by decide) (fun _ h => by simp at h))) (by simp) (Lim_.rep (by decide) _) (by rw [List.take_replicate, wv_rep]) hdr (by rw [wv_rep, wv_append]; simp [wv, hxv])).diag
  rw [hyv] at this
  refine Res.of_eq this fun k => ?_
  rw [e1, e2, e3, Int.toNat_natCast, List.length_replicate, e4, if_pos (by simp; omega), if_pos (by omega), if_pos (by omega)]

theorem rgcd_loop : ∀ (m : Nat) (a b : ByteArray), nv b < m → a.size ≤ 1099511627776 → b.size ≤ 1099511627776 → Nat_ a → Nat_ b →
    Res2 (fun k n => galoisref01_Gcd.l0 k n a b) fun c => Nat_ c ∧ nv c = Int.gcd (nv a) (nv b)
  | 0, a, b, hm, _, _, _, _ => by have := nv_nonneg b; omega
  | m + 1, a, b, hm, hla, hlb, ha, hb => by
    by_cases h0 : nv b = 0
    · refine Res2.succ (g := fun _ _ => some a) (fun k n => ?_) (Res2.pure ⟨ha, ?_⟩)
      · simp only [galoisref01_Gcd.l0, galoisref01_Gcd.b0, beq_nil]
        rw [decide_eq_true ((nat_ne hb).2 h0)]; rfl
      · have := nv_nonneg a
        rw [h0, Int.gcd_zero_right]; omega
    · have hne : b.data.toList ≠ [] := fun e => h0 ((nat_ne hb).1 e)
      have hb0 := nv_nonneg b
      refine Res2.succ (g := fun k n => (galoisref01_DivMod k a b).bind fun pt1 => galoisref01_Gcd.l0 k n b pt1.2) (fun k n => ?_) (Res2.call (g := fun k n pt1 => galoisref01_Gcd.l0 k n b pt1.2) (rdivmod_ok a b hla hlb h0) ?_)
      · simp only [galoisref01_Gcd.l0, galoisref01_Gcd.b0, beq_nil]
        rw [decide_eq_false hne]; rfl
      · rintro ⟨q, r⟩ ⟨d1, d2, d3, d4⟩
        simp only at d1 d2 d3 d4
        have hm1 := Int.emod_lt_of_pos (nv a) (show 0 < nv b by omega)
        have hrs : r.size ≤ 1099511627776 := by
          -- the remainder is no longer than the divisor
          by_cases hr : r.data.toList = []
          · have : r.size = r.data.toList.length := by simp
            rw [this, hr]; simp
          · have h1 := bz_low d2 hr
            have h2 := (bz_bounds b.data.toList).2
            have h3 : (256 : Int) ^ (r.data.toList.length - 1) < 256 ^ b.data.toList.length := by
              have : bz r.data.toList = nv r := rfl
              have : bz b.data.toList = nv b := rfl
              omega
            have h4 : r.data.toList.length - 1 < b.data.toList.length := by
              rcases Nat.lt_or_ge (r.data.toList.length - 1) b.data.toList.length with h5 | h5
              · exact h5
              · obtain ⟨d, hd⟩ := Nat.exists_eq_add_of_le h5
                rw [hd, Int.pow_add] at h3
                have h6 : (0 : Int) < 256 ^ d := Int.pow_pos (by omega)
                have h7 : (0 : Int) < 256 ^ b.data.toList.length := Int.pow_pos (by omega)
                have := Int.mul_le_mul_of_nonneg_left (show (1 : Int) ≤ 256 ^ d by omega) (show (0 : Int) ≤ 256 ^ b.data.toList.length by omega)
                omega
            have e1 : r.size = r.data.toList.length := by simp
            have e2 : b.size = b.data.toList.length := by simp
            omega
        refine (rgcd_loop m b r (by omega) hlb hrs hb d2).mono fun c hc => ⟨hc.1, ?_⟩
        have hdm := Int.emod_add_mul_ediv (nv a) (nv b)
        rw [hc.2, d4, Int.gcd_comm (nv a), ← Int.gcd_add_mul_right_right (nv b) (nv a % nv b) (nv a / nv b), Int.mul_comm (nv a / nv b), hdm]

theorem rgcd_ok (a b : ByteArray) (hla : a.size ≤ 1099511627776) (hlb : b.size ≤ 1099511627776) (ha : Nat_ a) (hb : Nat_ b) : Res (fun k => galoisref01_Gcd k a b) fun c => Nat_ c ∧ nv c = Int.gcd (nv a) (nv b) :=
  Res.of_eq (rgcd_loop ((nv b).toNat + 1) a b (by omega) hla hlb ha hb).diag fun k => rfl
end Go.Proofs.YthghchjbomlpfaaGreat.Ev

namespace Go.Proofs.YthghchjbomlpfaaGreat.Ev
set_option linter.unusedVariables false

theorem beq_bytes (a b : ByteArray) : (a.toList == b.toList) = decide (a.data.toList = b.data.toList) := by
  rw [toList_data, toList_data]
  by_cases h : a.data.toList = b.data.toList
  · rw [h]; simp
  · rw [decide_eq_false h]
    exact beq_eq_false_iff_ne.2 h
theorem bytes_eq {a b : ByteArray} : a.data.toList = b.data.toList ↔ a = b := by
  constructor
  · intro h; cases a; cases b; congr 1; exact Array.toList_inj.1 h
  · intro h; rw [h]
theorem beq_nv {a b : ByteArray} (ha : Nat_ a) (hb : Nat_ b) : (a.toList == b.toList) = decide (nv a = nv b) := by
  rw [beq_bytes]
  exact decide_eq_decide.2 ⟨fun h => by rw [nv, nv, h], fun h => by rw [nv_inj ha hb h]⟩
theorem one_nat : Nat_ (⟨#[1]⟩ : ByteArray) ∧ nv (⟨#[1]⟩ : ByteArray) = 1 := by
  constructor
  · simp [Nat_, Nrm]
  · rfl
theorem nil_nat : Nat_ (⟨#[]⟩ : ByteArray) ∧ nv (⟨#[]⟩ : ByteArray) = 0 := by
  constructor
  · simp [Nat_, Nrm]
  · rfl
theorem size_len (b : ByteArray) : b.size = b.data.toList.length := by simp

def natE (b : ByteArray) : Int := if b.data.toList.head? = some 0 then 1 else if 1024 < b.size then 4 else 0
def intE (n : Bool × ByteArray) : Int := if natE n.2 = 1 then 1 else if n.1 = true ∧ n.2.data.toList = [] then 1 else natE n.2
def ratE (x : (Bool × ByteArray) × ByteArray) : Int :=
  if intE x.1 = 1 ∨ natE x.2 = 1 ∨ x.2.data.toList = [] then 1 else if intE x.1 ≠ 0 then intE x.1 else if natE x.2 ≠ 0 then natE x.2 else if Int.gcd (nv x.1.2) (nv x.2) = 1 then 0 else 1

theorem natE_one {b : ByteArray} : natE b = 1 ↔ b.data.toList.head? = some 0 := by
  unfold natE; split
  · simp [*]
  · split <;> simp [*]
theorem natE_zero {b : ByteArray} : natE b = 0 ↔ Nat_ b ∧ b.size ≤ 1024 := by
  unfold natE Nat_ Nrm; split
  · simp [*]
  · split <;> simp [*] <;> omega
theorem natE_cases (b : ByteArray) : natE b = 0 ∨ natE b = 1 ∨ natE b = 4 := by unfold natE; split <;> (try split) <;> simp

theorem head_zero (x : UInt8) : ((x.toNat : Int) = 0) ↔ x = 0 := by
  constructor
  · intro h
    exact UInt8.toNat_inj.1 (show x.toNat = (0 : UInt8).toNat by have : (0 : UInt8).toNat = 0 := rfl; omega)
  · intro h; rw [h]; rfl

theorem natural_Check_ok (b : ByteArray) : Evt (fun k => natural_Check k b) (natE b) := by
  refine Evt.succ (fun n => ?_) Evt.pure
  have hsz := size_len b
  cases hl : b.data.toList with
  | nil =>
    rw [hl] at hsz
    simp only [List.length_nil] at hsz
    simp only [natural_Check, natural_Check.top, natural_Check.l0, natural_Check.b0, natE, hl, hsz]
    rfl
  | cons x l =>
    rw [hl] at hsz
    simp only [List.length_cons] at hsz
    simp only [natural_Check, natural_Check.top, natural_Check.l0, natural_Check.b0, natE, hl]
    rw [bp (by omega), if_pos (by omega)]
    simp only [List.getD_cons_zero, List.head?_cons, Option.some.injEq, head_zero]
    by_cases hx : x = 0
    · rw [bp hx, if_pos hx]
    · rw [bn hx, if_neg hx]
      by_cases hs : 1024 < b.size
      · rw [bp (by omega), if_pos hs]
      · rw [bn (by omega), if_neg hs]

theorem integer_Check_ok (n : Bool × ByteArray) : Evt (fun k => integer_Check k n) (intE n) := by
  obtain ⟨s, b⟩ := n
  unfold integer_Check
  refine Evt.bind (g := fun k t1 => bif decide (t1 = 1) then (some t1) else ((integer_zero).bind fun t2 => bif !(Ty.eqb (.pair .bool .str) (s, b) t2) then (bif b.toList == (⟨#[]⟩ : ByteArray).toList then (some 1) else (some t1)) else (some t1))) (natural_Check_ok b) ?_
  refine Evt.of_eq (g := fun _ => some (intE (s, b))) Evt.pure fun k => ?_
  simp only [intE]
  by_cases h1 : natE b = 1
  · rw [bp h1, if_pos h1, h1]
  · rw [bn h1, if_neg h1]
    simp only [integer_zero, Option.bind_some, Ty.eqb, beq_bytes]
    by_cases h2 : b.data.toList = []
    · cases s <;> simp [h2]
    · simp [h2]

theorem rational_Check_ok (x : (Bool × ByteArray) × ByteArray) : Evt (fun k => rational_Check k x) (ratE x) := by
  have hfin : ∀ (t : Bool), t = decide (intE x.1 = 1 ∨ natE x.2 = 1 ∨ x.2.data.toList = []) → Evt (fun k => rational_Check.l0 k k (intE x.1) (natE x.2) t x) (ratE x) := by
    intro t ht
    suffices h2 : Evt2 (fun k n => rational_Check.l0 k n (intE x.1) (natE x.2) t x) (ratE x) from h2.diag
    refine Evt2.succ (g := fun k _ => rational_Check.b0 k (intE x.1) (natE x.2) t x) (fun k n => rfl) ?_
    unfold rational_Check.b0 ratE
    by_cases h1 : intE x.1 = 1 ∨ natE x.2 = 1 ∨ x.2.data.toList = []
    · rw [ht, if_pos h1, decide_eq_true h1]; exact Evt2.pure
    · rw [ht, if_neg h1, decide_eq_false h1]
      simp only [cond_false]
      by_cases h2 : intE x.1 = 0
      · have e1 : ∀ {α : Type} (a b : α), (bif !decide (intE x.1 = 0) then a else b) = b := fun a b => bnp h2
        simp only [e1]
        rw [if_neg (by simp [h2])]
        by_cases h3 : natE x.2 = 0
        · have e2 : ∀ {α : Type} (a b : α), (bif !decide (natE x.2 = 0) then a else b) = b := fun a b => bnp h3
          simp only [e2]
          rw [if_neg (by simp [h3])]
          obtain ⟨n2, s2⟩ := natE_zero.1 h3
          have hi : natE x.1.2 = 0 := by
            unfold intE at h2
            split at h2
            · simp at h2
            · split at h2
              · simp at h2
              · exact h2
          obtain ⟨n1, s1⟩ := natE_zero.1 hi
          simp only [beq_nv n2 one_nat.1, one_nat.2]
          by_cases h4 : nv x.2 = 1
          · have e3 : ∀ {α : Type} (a b : α), (bif !decide (nv x.2 = 1) then a else b) = b := fun a b => bnp h4
            simp only [e3]
            rw [h4, if_pos (by simp)]
            exact Evt2.pure
          · have e3 : ∀ {α : Type} (a b : α), (bif !decide (nv x.2 = 1) then a else b) = a := fun a b => bnn h4
            simp only [e3]
            obtain ⟨c, hc, c1, c2⟩ := natGcd_ok x.1.2 x.2 (by omega) (by omega)
            refine Evt2.call (g := fun k n t3 => bif !(t3.toList == (⟨#[1]⟩ : ByteArray).toList) then (some (1 : Int)) else (some 0)) hc ?_
            simp only [beq_nv c1 one_nat.1, one_nat.2, c2]
            by_cases h5 : Int.gcd (nv x.1.2) (nv x.2) = 1
            · rw [if_pos h5]
              have e4 : ∀ {α : Type} (a b : α), (bif !decide (((Int.gcd (nv x.1.2) (nv x.2) : Nat) : Int) = 1) then a else b) = b := fun a b => bnp (by omega)
              simp only [e4]; exact Evt2.pure
            · rw [if_neg h5]
              have e4 : ∀ {α : Type} (a b : α), (bif !decide (((Int.gcd (nv x.1.2) (nv x.2) : Nat) : Int) = 1) then a else b) = a := fun a b => bnn (by omega)
              simp only [e4]; exact Evt2.pure
        · have e2 : ∀ {α : Type} (a b : α), (bif !decide (natE x.2 = 0) then a else b) = a := fun a b => bnn h3
          simp only [e2]
          rw [if_pos h3]; exact Evt2.pure
      · have e1 : ∀ {α : Type} (a b : α), (bif !decide (intE x.1 = 0) then a else b) = a := fun a b => bnn h2
        simp only [e1]
        rw [if_pos h2]; exact Evt2.pure
  unfold rational_Check rational_Check.top
  refine Evt.bind (g := fun k t1 => (natural_Check k x.2).bind fun t2 => bif decide (t1 = 1) then (rational_Check.l0 k k t1 t2 true x) else (bif decide (t2 = 1) then (rational_Check.l0 k k t1 t2 true x) else (rational_Check.l0 k k t1 t2 (x.2.toList == (⟨#[]⟩ : ByteArray).toList) x))) (integer_Check_ok x.1) ?_
  refine Evt.bind (g := fun k t2 => bif decide (intE x.1 = 1) then (rational_Check.l0 k k (intE x.1) t2 true x) else (bif decide (t2 = 1) then (rational_Check.l0 k k (intE x.1) t2 true x) else (rational_Check.l0 k k (intE x.1) t2 (x.2.toList == (⟨#[]⟩ : ByteArray).toList) x))) (natural_Check_ok x.2) ?_
  by_cases h1 : intE x.1 = 1
  · refine Evt.of_eq (hfin true (by simp [h1])) fun k => by rw [bp h1]
  · by_cases h2 : natE x.2 = 1
    · refine Evt.of_eq (hfin true (by simp [h2])) fun k => by rw [bn h1, bp h2]
    · refine Evt.of_eq (hfin (x.2.toList == (⟨#[]⟩ : ByteArray).toList) (by rw [beq_nil]; simp [h1, h2])) fun k => by rw [bn h1, bn h2]

theorem rvalid_ok (b : ByteArray) : galoisref01_Valid b = some (decide (natE b ≠ 1)) := by
  have hsz := size_len b
  unfold galoisref01_Valid
  rw [beq_nil]
  cases hl : b.data.toList with
  | nil => simp [natE_one, hl]
  | cons x l =>
    rw [hl] at hsz
    simp only [List.length_cons] at hsz
    rw [decide_eq_false (by simp), cond_false, if_pos (by omega)]
    simp only [List.getD_cons_zero, head_zero, Ne, natE_one, hl, List.head?_cons, Option.some.injEq]
    simp

theorem rfits_ok (b : ByteArray) : galoisref01_Fits b = some (if 1024 < b.size then 4 else 0) := by
  unfold galoisref01_Fits
  by_cases h : 1024 < b.size
  · rw [bp (by omega), if_pos h]
  · rw [bn (by omega), if_neg h]

theorem ivalid_ok (n : Bool × ByteArray) : galoisref02_Valid n = some (decide (intE n ≠ 1)) := by
  obtain ⟨s, b⟩ := n
  unfold galoisref02_Valid
  simp only [rvalid_ok, Option.bind_some, beq_nil]
  have h4 := natE_cases b
  by_cases h1 : natE b = 1
  · simp [h1, intE]
  · cases s with
    | false => simp [h1, intE]
    | true =>
      by_cases h2 : b.data.toList = []
      · simp [h1, h2, intE]
      · simp [h1, h2, intE]

theorem rcheck_ok (x : (Bool × ByteArray) × ByteArray) : Evt (fun k => galoisref03_Check k x) (ratE x) := by
  have hfin : ∀ (t : Bool), t = decide (intE x.1 = 1 ∨ natE x.2 = 1 ∨ x.2.data.toList = []) → Evt (fun k => galoisref03_Check.l0 k k t x) (ratE x) := by
    intro t ht
    suffices h2 : Evt2 (fun k n => galoisref03_Check.l0 k n t x) (ratE x) from h2.diag
    refine Evt2.succ (g := fun k _ => galoisref03_Check.b0 k t x) (fun k n => rfl) ?_
    unfold galoisref03_Check.b0 ratE
    by_cases h1 : intE x.1 = 1 ∨ natE x.2 = 1 ∨ x.2.data.toList = []
    · rw [ht, if_pos h1, decide_eq_true h1]; exact Evt2.pure
    · rw [ht, if_neg h1, decide_eq_false h1]
      simp only [cond_false, galoisref03_Fits, galoisref02_Fits, rfits_ok, Option.bind_some]
      have hi1 : intE x.1 ≠ 1 := fun h => h1 (.inl h)
      have hn1 : natE x.2 ≠ 1 := fun h => h1 (.inr (.inl h))
      have hi : intE x.1 = natE x.1.2 ∧ natE x.1.2 ≠ 1 := by
        unfold intE at hi1 ⊢
        split
        · rename_i h; rw [if_pos h] at hi1; simp at hi1
        · rename_i h
          split
          · rename_i h2; rw [if_neg h, if_pos h2] at hi1; simp at hi1
          · exact ⟨rfl, h⟩
      have na : ∀ b, natE b ≠ 1 → natE b = if 1024 < b.size then 4 else 0 := fun b hb => by
        unfold natE at hb ⊢
        split
        · rename_i h; rw [if_pos h] at hb; simp at hb
        · rfl
      rw [hi.1, na _ hi.2, na _ hn1]
      by_cases h2 : 1024 < x.1.2.size
      · simp only [h2, if_true]
        exact Evt2.pure
      · simp only [h2, if_false]
        by_cases h3 : 1024 < x.2.size
        · simp only [h3, if_true]
          exact Evt2.pure
        · simp only [h3, if_false, decide_true, Bool.not_true, cond_false, ne_eq, not_true_eq_false, Option.bind_some]
          have n1 : Nat_ x.1.2 := fun h => hi.2 (natE_one.2 h)
          have n2 : Nat_ x.2 := fun h => hn1 (natE_one.2 h)
          obtain ⟨c, hc, c1, c2⟩ := rgcd_ok x.1.2 x.2 (by omega) (by omega) n1 n2
          refine Evt2.call (g := fun k n t3 => bif !(t3.toList == (⟨#[1]⟩ : ByteArray).toList) then (some (1 : Int)) else (some 0)) hc ?_
          simp only [beq_nv c1 one_nat.1, one_nat.2, c2]
          by_cases h5 : Int.gcd (nv x.1.2) (nv x.2) = 1
          · rw [if_pos h5]
            have e4 : ∀ {α : Type} (a b : α), (bif !decide (((Int.gcd (nv x.1.2) (nv x.2) : Nat) : Int) = 1) then a else b) = b := fun a b => bnp (by omega)
            simp only [e4]; exact Evt2.pure
          · rw [if_neg h5]
            have e4 : ∀ {α : Type} (a b : α), (bif !decide (((Int.gcd (nv x.1.2) (nv x.2) : Nat) : Int) = 1) then a else b) = a := fun a b => bnn (by omega)
            simp only [e4]; exact Evt2.pure
  unfold galoisref03_Check galoisref03_Check.top
  simp only [ivalid_ok, rvalid_ok, Option.bind_some, beq_nil]
  by_cases h1 : intE x.1 = 1
  · refine Evt.of_eq (hfin true (by simp [h1])) fun k => by simp [h1]
  · by_cases h2 : natE x.2 = 1
    · refine Evt.of_eq (hfin true (by simp [h2])) fun k => by simp [h1, h2]
    · refine Evt.of_eq (hfin (decide (x.2.data.toList = [])) (by simp [h1, h2])) fun k => by simp [h1, h2]
end Go.Proofs.YthghchjbomlpfaaGreat.Ev

namespace Go.Proofs.YthghchjbomlpfaaGreat.Ev
set_option linter.unusedVariables false

theorem bz_cons (x : UInt8) (l : List UInt8) : bz (x :: l) = (x.toNat : Int) * 256 ^ l.length + bz l := by
  have := bz_app [x] l
  simpa [bz] using this

theorem less_iff : ∀ (a b : List UInt8), a.length = b.length → (Op.bytesLess a b = true ↔ bz a < bz b)
  | [], [], _ => by simp [Op.bytesLess]
  | [], _ :: _, h => by simp at h
  | _ :: _, [], h => by simp at h
  | x :: a, y :: b, h => by
    have hl : a.length = b.length := by simpa using h
    have ih := less_iff a b hl
    have ha := bz_bounds a
    have hb := bz_bounds b
    have hP : (0 : Int) < 256 ^ b.length := Int.pow_pos (by omega)
    rw [bz_cons, bz_cons, hl]
    rw [hl] at ha
    simp only [Op.bytesLess, Bool.or_eq_true, Bool.and_eq_true, decide_eq_true_eq, beq_iff_eq, ih]
    have hlt : x < y ↔ x.toNat < y.toNat := UInt8.lt_iff_toNat_lt
    rw [hlt]
    have heq : x = y ↔ x.toNat = y.toNat := UInt8.toNat_inj.symm
    rw [heq]
    rcases Nat.lt_trichotomy x.toNat y.toNat with h1 | h1 | h1
    · have := Int.mul_le_mul_of_nonneg_right (show (x.toNat : Int) + 1 ≤ (y.toNat : Int) by omega) (show (0 : Int) ≤ 256 ^ b.length by omega)
      rw [Int.add_mul, Int.one_mul] at this
      constructor
      · intro _; omega
      · intro _; exact .inl h1
    · rw [h1]
      constructor
      · rintro (h2 | ⟨_, h2⟩)
        · omega
        · omega
      · intro h2; exact .inr ⟨rfl, by omega⟩
    · have := Int.mul_le_mul_of_nonneg_right (show (y.toNat : Int) + 1 ≤ (x.toNat : Int) by omega) (show (0 : Int) ≤ 256 ^ b.length by omega)
      rw [Int.add_mul, Int.one_mul] at this
      constructor
      · rintro (h2 | ⟨h2, _⟩)
        · omega
        · omega
      · intro _; omega

theorem nv_len_lt {a b : ByteArray} (hb : Nat_ b) (h : a.size < b.size) : nv a < nv b := by
  rw [size_len, size_len] at h
  have h1 := (bz_bounds a.data.toList).2
  have h2 := bz_low hb (fun e => by rw [e] at h; simp at h)
  have h3 : (256 : Int) ^ a.data.toList.length ≤ 256 ^ (b.data.toList.length - 1) := by
    obtain ⟨d, hd⟩ : ∃ d, b.data.toList.length - 1 = a.data.toList.length + d := ⟨b.data.toList.length - 1 - a.data.toList.length, by omega⟩
    rw [hd, Int.pow_add]
    have h5 : (0 : Int) < 256 ^ d := Int.pow_pos (by omega)
    have h4 : (0 : Int) < 256 ^ a.data.toList.length := Int.pow_pos (by omega)
    have := Int.mul_le_mul_of_nonneg_left (show (1 : Int) ≤ 256 ^ d by omega) (show (0 : Int) ≤ 256 ^ a.data.toList.length by omega)
    omega
  rw [nv, nv]; omega

theorem cmp_core {a b : ByteArray} (ha : Nat_ a) (hb : Nat_ b) (t : Bool) (ht : t = (bif decide ((a.size : Int) < (b.size : Int)) then true else bif decide ((a.size : Int) = (b.size : Int)) then Op.bytesLess a.toList b.toList else false)) :
    (bif t then (some (-1)) else (bif a.toList == b.toList then (some 0) else (some 1)) : Option Int) = some (cmp (nv a) (nv b)) := by
  have hsa := size_len a
  have hsb := size_len b
  rw [beq_nv ha hb]
  rcases Nat.lt_trichotomy a.size b.size with h | h | h
  · have h1 := nv_len_lt hb h
    rw [bp (by omega)] at ht
    rw [ht, cond_true, cmp, if_pos h1]
  · rw [bn (by omega), bp (by omega), toList_data, toList_data] at ht
    have hl := less_iff a.data.toList b.data.toList (by omega)
    by_cases h1 : nv a < nv b
    · rw [ht, hl.2 h1, cond_true, cmp, if_pos h1]
    · have : Op.bytesLess a.data.toList b.data.toList = false := by
        cases hb' : Op.bytesLess a.data.toList b.data.toList
        · rfl
        · exact absurd (hl.1 hb') h1
      rw [ht, this, cond_false, cmp, if_neg h1]
      by_cases h2 : nv a = nv b
      · rw [bp h2, if_neg (by omega)]
      · rw [bn h2, if_pos (by omega)]
  · have h1 := nv_len_lt ha h
    rw [bn (by omega), bn (by omega)] at ht
    rw [ht, cond_false, cmp, if_neg (by omega), if_pos h1, bn (by omega)]

theorem natCmp_ok (a b : ByteArray) (ha : Nat_ a) (hb : Nat_ b) : Evt (fun k => exact_NatCmp k a b) (cmp (nv a) (nv b)) := by
  refine Evt.succ (fun n => ?_) Evt.pure
  rw [← cmp_core ha hb _ rfl]
  simp only [exact_NatCmp, exact_NatCmp.top, exact_NatCmp.l0, exact_NatCmp.b0]
  cases decide ((a.size : Int) < (b.size : Int)) <;> cases decide ((a.size : Int) = (b.size : Int)) <;> rfl

theorem rcmp_ok (a b : ByteArray) (ha : Nat_ a) (hb : Nat_ b) : Evt (fun k => galoisref01_Compare k a b) (cmp (nv a) (nv b)) := by
  refine Evt.succ (fun n => ?_) Evt.pure
  rw [← cmp_core ha hb _ rfl]
  simp only [galoisref01_Compare, galoisref01_Compare.top, galoisref01_Compare.l0, galoisref01_Compare.b0]
  cases decide ((a.size : Int) < (b.size : Int)) <;> cases decide ((a.size : Int) = (b.size : Int)) <;> rfl

def iv (n : Bool × ByteArray) : Int := if n.1 = true then - nv n.2 else nv n.2
def Int_ (n : Bool × ByteArray) : Prop := Nat_ n.2 ∧ (n.1 = true → nv n.2 ≠ 0)

theorem intE_zero {n : Bool × ByteArray} : intE n = 0 ↔ Int_ n ∧ n.2.size ≤ 1024 := by
  have h4 := natE_zero (b := n.2)
  unfold intE Int_
  constructor
  · intro h
    split at h
    · simp at h
    · rename_i h1
      split at h
      · simp at h
      · rename_i h2
        obtain ⟨h5, h6⟩ := h4.1 h
        exact ⟨⟨h5, fun h7 h8 => h2 ⟨h7, (nat_ne h5).2 h8⟩⟩, h6⟩
  · rintro ⟨⟨h5, h7⟩, h6⟩
    have := h4.2 ⟨h5, h6⟩
    rw [if_neg (by omega), if_neg (fun h => h7 h.1 ((nat_ne h5).1 h.2)), this]

theorem nat_pos {b : ByteArray} (h : nv b ≠ 0) : 0 < nv b := by have := nv_nonneg b; omega

theorem make_ok (s : Bool) (b : ByteArray) (hb : Nat_ b) : ∃ n, exact_IntMake s b = some n ∧ galoisref02_Make s b = some n ∧ Int_ n ∧ iv n = (if s = true then - nv b else nv b) ∧ n.2 = b := by
  cases s with
  | false => exact ⟨(false, b), rfl, rfl, ⟨hb, by simp⟩, by simp [iv], rfl⟩
  | true =>
    by_cases h : nv b = 0
    · have h2 := (nat_ne hb).2 h
      refine ⟨(false, b), ?_, ?_, ⟨hb, by simp⟩, by simp [iv, h], rfl⟩
      · show (some (!(b.toList == (⟨#[]⟩ : ByteArray).toList), b) : Option (Bool × ByteArray)) = _; rw [beq_nil, decide_eq_true h2]; rfl
      · show (some (!(b.toList == (⟨#[]⟩ : ByteArray).toList), b) : Option (Bool × ByteArray)) = _; rw [beq_nil, decide_eq_true h2]; rfl
    · have h2 : b.data.toList ≠ [] := fun e => h ((nat_ne hb).1 e)
      refine ⟨(true, b), ?_, ?_, ⟨hb, fun _ => h⟩, by simp [iv], rfl⟩
      · show (some (!(b.toList == (⟨#[]⟩ : ByteArray).toList), b) : Option (Bool × ByteArray)) = _; rw [beq_nil, decide_eq_false h2]; rfl
      · show (some (!(b.toList == (⟨#[]⟩ : ByteArray).toList), b) : Option (Bool × ByteArray)) = _; rw [beq_nil, decide_eq_false h2]; rfl

theorem intCmp_ok (a b : Bool × ByteArray) (ha : Int_ a) (hb : Int_ b) : Evt (fun k => exact_IntCmp k a b) (cmp (iv a) (iv b)) := by
  obtain ⟨s, x⟩ := a
  obtain ⟨t, y⟩ := b
  have hx := nv_nonneg x
  have hy := nv_nonneg y
  have hc := natCmp_ok x y ha.1 hb.1
  have hc' := natCmp_ok y x hb.1 ha.1
  cases s <;> cases t
  · exact Evt.of_eq (Evt.bind (g := fun k t2 => some t2) hc Evt.pure) (fun k => rfl)
  · have := nat_pos (hb.2 rfl)
    simp only at this
    have e : cmp (iv (false, x)) (iv (true, y)) = 1 := by
      simp only [iv, if_true, Bool.false_eq_true, if_false]
      rw [cmp, if_neg (by omega), if_pos (by omega)]
    rw [e]; exact Evt.of_eq Evt.pure (fun k => rfl)
  · have := nat_pos (ha.2 rfl)
    simp only at this
    have e : cmp (iv (true, x)) (iv (false, y)) = -1 := by
      simp only [iv, if_true, Bool.false_eq_true, if_false]
      rw [cmp, if_pos (by omega)]
    rw [e]; exact Evt.of_eq Evt.pure (fun k => rfl)
  · have e : cmp (iv (true, x)) (iv (true, y)) = cmp (nv y) (nv x) := by
      simp only [iv, if_true]
      simp only [cmp]; split <;> split <;> (try split) <;> (try split) <;> omega
    rw [e]
    exact Evt.of_eq (Evt.bind (g := fun k t2 => some t2) hc' Evt.pure) (fun k => rfl)

theorem sign_ok (a : Bool × ByteArray) (ha : Int_ a) : galoisref02_Sign a = some (cmp (iv a) 0) := by
  obtain ⟨s, x⟩ := a
  have hx := nv_nonneg x
  cases s with
  | true =>
    have := nat_pos (ha.2 rfl)
    simp only at this
    simp only [galoisref02_Sign, iv, cond_true, if_true]
    rw [cmp, if_pos (by omega)]
  | false =>
    simp only [galoisref02_Sign, iv, cond_false, Bool.false_eq_true, if_false, beq_nil]
    by_cases h : nv x = 0
    · rw [bp ((nat_ne ha.1).2 h), h]; rfl
    · rw [bn (fun e => h ((nat_ne ha.1).1 e)), cmp, if_neg (by omega), if_pos (by omega)]

theorem rintCmp_ok (a b : Bool × ByteArray) (ha : Int_ a) (hb : Int_ b) : Evt (fun k => galoisref02_Compare k a b) (cmp (iv a) (iv b)) := by
  have hx := nv_nonneg a.2
  have hy := nv_nonneg b.2
  have hc := rcmp_ok a.2 b.2 ha.1 hb.1
  have hc' := rcmp_ok b.2 a.2 hb.1 ha.1
  have hva : iv a = nv a.2 ∨ (iv a = - nv a.2 ∧ iv a < 0) := by
    unfold iv
    cases h : a.1 with
    | false => left; rfl
    | true => right; have := nat_pos (ha.2 h); exact ⟨rfl, by simp; omega⟩
  have hvb : iv b = nv b.2 ∨ (iv b = - nv b.2 ∧ iv b < 0) := by
    unfold iv
    cases h : b.1 with
    | false => left; rfl
    | true => right; have := nat_pos (hb.2 h); exact ⟨rfl, by simp; omega⟩
  unfold galoisref02_Compare
  simp only [sign_ok a ha, sign_ok b hb, Option.bind_some]
  by_cases h1 : cmp (iv a) 0 < cmp (iv b) 0
  · have e : cmp (iv a) (iv b) = -1 := by
      have : iv a < iv b := by unfold cmp at h1; (repeat' split at h1) <;> omega
      rw [cmp, if_pos this]
    rw [e]
    refine Evt.of_eq Evt.pure fun k => by rw [bp h1]
  · by_cases h2 : cmp (iv b) 0 < cmp (iv a) 0
    · have e : cmp (iv a) (iv b) = 1 := by
        have : iv b < iv a := by unfold cmp at h2; (repeat' split at h2) <;> omega
        rw [cmp, if_neg (by omega), if_pos this]
      rw [e]
      refine Evt.of_eq Evt.pure fun k => by rw [bn h1, bp h2]
    · by_cases h3 : cmp (iv a) 0 < 0
      · have ia : iv a < 0 := by unfold cmp at h3; (repeat' split at h3) <;> omega
        have ib : iv b < 0 := by unfold cmp at h1 h2 h3; (repeat' split at h1) <;> (repeat' split at h2) <;> (repeat' split at h3) <;> omega
        have e : cmp (iv a) (iv b) = cmp (nv b.2) (nv a.2) := by
          have e1 : iv a = - nv a.2 := by omega
          have e2 : iv b = - nv b.2 := by omega
          rw [e1, e2]
          simp only [cmp]; split <;> split <;> (try split) <;> (try split) <;> omega
        rw [e]
        refine Evt.of_eq (Evt.bind (g := fun k t3 => some t3) hc' Evt.pure) fun k => by rw [bn h1, bn h2, bp h3]
      · have ia : 0 ≤ iv a := by unfold cmp at h3; (repeat' split at h3) <;> omega
        have ib : 0 ≤ iv b := by unfold cmp at h1 h2 h3; (repeat' split at h1) <;> (repeat' split at h2) <;> (repeat' split at h3) <;> omega
        have e : cmp (iv a) (iv b) = cmp (nv a.2) (nv b.2) := by
          have e1 : iv a = nv a.2 := by omega
          have e2 : iv b = nv b.2 := by omega
          rw [e1, e2]
        rw [e]
        refine Evt.of_eq (Evt.bind (g := fun k t3 => some t3) hc Evt.pure) fun k => by rw [bn h1, bn h2, bn h3]
end Go.Proofs.YthghchjbomlpfaaGreat.Ev

namespace Go.Proofs.YthghchjbomlpfaaGreat.Ev
set_option linter.unusedVariables false

theorem rsub_loop (y : List Int) (n0 : Nat) (hlx : n0 ≤ 1099511627776) (hyx : y.length ≤ n0) (hy : Lim_ B32 y) (X : Int) (hX : wv B32 y ≤ X) : ∀ (d i : Nat) (x : List Int) (c : Int), i + d = n0 → x.length = n0 → Lim_ B32 x → 0 ≤ c → c ≤ 1 →
    wv B32 x = X - wv B32 (y.take i) + c * B32 ^ i → Res2 (fun k n => galoisref01_Sub.l0 k n c i x y) fun b => Nat_ b ∧ nv b = X - wv B32 y
  | 0, i, x, c, hd, hx, xL, hc, hc', hv => by
    obtain rfl : i = n0 := by omega
    rw [List.take_of_length_le hyx] at hv
    have hlt := wv_lt (B := B32) (by decide) xL
    have hP : (0 : Int) < B32 ^ i := Int.pow_pos (by decide)
    have hc0 : c = 0 := by
      rcases Int.lt_or_le 0 c with h | h
      · have : c = 1 := by omega
        subst this
        rw [hx] at hlt; omega
      · omega
    refine Res2.succ (g := fun k n => (galoisref01_pack k x).bind fun t4 => some t4) (fun k n => ?_) (Res2.call (g := fun k n t4 => some t4) (rpack_ok x (by omega) xL) ?_)
    · simp only [galoisref01_Sub.l0, galoisref01_Sub.b0]
      rw [bn (by omega)]
    · rintro b ⟨b1, b2, b3⟩
      exact Res2.pure ⟨b1, by rw [b2, hv, hc0]; omega⟩
  | d + 1, i, x, c, hd, hx, xL, hc, hc', hv => by
    have hg := xL.get i (by omega)
    have hgy := hy.getD (by decide) i
    have e1 : IntKind.wrap .i64 ((i : Int) + 1) = ((i + 1 : Nat) : Int) := by rw [wi _ (by omega) (by omega)]; omega
    have key : ∀ (e b : Int), (0 ≤ e ∧ e < B32) → 0 ≤ b → b ≤ 1 → x.getD i 0 - y.getD i 0 - c = e - B32 * b → Res2 (fun k n => galoisref01_Sub.l0 k n b ((i + 1 : Nat) : Int) (x.set i e) y) fun b => Nat_ b ∧ nv b = X - wv B32 y := by
      intro e b he hb0 hb1 hsub
      refine rsub_loop y n0 hlx hyx hy X hX d (i + 1) _ b (by omega) (by simpa using hx) (xL.set i he) hb0 hb1 ?_
      rw [wv_set (by omega), hv, wv_take_succ', Int.pow_succ]
      grind
    have u1 : IntKind.wrap .u64 (c + y.getD i 0) = c + y.getD i 0 := ule (by omega) (by simp only [B32] at *; omega)
    have u2 : IntKind.wrap .u64 (x.getD i 0 + 4294967296) = x.getD i 0 + 4294967296 := ule (by omega) (by simp only [B32] at *; omega)
    have u3 : (x.set i (x.getD i 0 + 4294967296)).getD i 0 = x.getD i 0 + 4294967296 := by simp [List.getD, show i < x.length by omega]
    have zy : ¬ i < y.length → y.getD i 0 = 0 := fun h => by simp [List.getD, List.getElem?_eq_none (Nat.le_of_not_lt h)]
    by_cases hlt : x.getD i 0 < c + y.getD i 0
    · have u4 : IntKind.wrap .u64 (x.getD i 0 + 4294967296 - (c + y.getD i 0)) = x.getD i 0 + 4294967296 - (c + y.getD i 0) := ule (by simp only [B32] at *; omega) (by simp only [B32] at *; omega)
      have next := key (x.getD i 0 + 4294967296 - (c + y.getD i 0)) 1 (by simp only [B32] at *; omega) (by omega) (by omega) (by simp only [B32]; omega)
      by_cases hyl : i < y.length
      · refine Res2.succ (fun k n => ?_) next
        simp only [galoisref01_Sub.l0, galoisref01_Sub.b0, Int.toNat_natCast, e1, u1, u2, u3, u4, List.set_set, List.length_set]
        rw [bp (by omega), bp (by omega), if_pos (by omega), if_pos (by omega), bp hlt, if_pos (by omega), if_pos (by omega), if_pos (by omega), if_pos (by omega)]
      · have hy0 := zy hyl
        rw [hy0, Int.add_zero] at u4 next hlt
        refine Res2.succ (fun k n => ?_) next
        simp only [galoisref01_Sub.l0, galoisref01_Sub.b0, Int.toNat_natCast, e1, u2, u3, u4, List.set_set, List.length_set]
        rw [bp (by omega), bn (by omega), if_pos (by omega), bp hlt, if_pos (by omega), if_pos (by omega), if_pos (by omega), if_pos (by omega)]
    · have u4 : IntKind.wrap .u64 (x.getD i 0 - (c + y.getD i 0)) = x.getD i 0 - (c + y.getD i 0) := ule (by omega) (by simp only [B32] at *; omega)
      have next := key (x.getD i 0 - (c + y.getD i 0)) 0 (by simp only [B32] at *; omega) (by omega) (by omega) (by simp only [B32]; omega)
      by_cases hyl : i < y.length
      · refine Res2.succ (fun k n => ?_) next
        simp only [galoisref01_Sub.l0, galoisref01_Sub.b0, Int.toNat_natCast, e1, u1, u4]
        rw [bp (by omega), bp (by omega), if_pos (by omega), if_pos (by omega), bn hlt, if_pos (by omega), if_pos (by omega)]
      · have hy0 := zy hyl
        rw [hy0, Int.add_zero] at u4 next hlt
        refine Res2.succ (fun k n => ?_) next
        simp only [galoisref01_Sub.l0, galoisref01_Sub.b0, Int.toNat_natCast, e1, u4]
        rw [bp (by omega), bn (by omega), if_pos (by omega), bn hlt, if_pos (by omega), if_pos (by omega)]

theorem rsub_ok (a b : ByteArray) (hla : a.size ≤ 1099511627776) (hlb : b.size ≤ 1099511627776) (ha : Nat_ a) (hb : Nat_ b) (hle : nv b ≤ nv a) : Res (fun k => galoisref01_Sub k a b) fun c => Nat_ c ∧ nv c = nv a - nv b := by
  unfold galoisref01_Sub galoisref01_Sub.top
  have hcmp : ¬ cmp (nv a) (nv b) < 0 := by rw [cmp, if_neg (by omega)]; split <;> omega
  refine Res.bind (R := fun t => cmp (nv a) (nv b) = t) (g := fun k t1 => bif decide (t1 < 0) then (some (⟨#[]⟩ : ByteArray)) else ((galoisref01_limbs k a).bind fun t2 => (galoisref01_limbs k b).bind fun t3 => galoisref01_Sub.l0 k k 0 0 t2 t3)) ⟨_, rcmp_ok a b ha hb, rfl⟩ ?_
  rintro _ rfl
  refine Res.of_eq (g := fun k => (galoisref01_limbs k a).bind fun t2 => (galoisref01_limbs k b).bind fun t3 => galoisref01_Sub.l0 k k 0 0 t2 t3) ?_ (fun k => by rw [bn hcmp])
  refine Res.bind (g := fun k t2 => (galoisref01_limbs k b).bind fun t3 => galoisref01_Sub.l0 k k 0 0 t2 t3) (limbs_ok a hla) ?_
  rintro x ⟨x1, x2, x3, x4⟩
  refine Res.bind (g := fun k t3 => galoisref01_Sub.l0 k k 0 0 x t3) (limbs_ok b hlb) ?_
  rintro y ⟨y1, y2, y3, y4⟩
  have hxy : wv B32 y ≤ wv B32 x := by rw [x3, y3]; exact hle
  have hlen : y.length ≤ x.length := by
    rcases Nat.lt_or_ge x.length y.length with h | h
    · have := can_len_lt (B := B32) (by decide) x1 y1 y2 h
      omega
    · exact h
  have h := (rsub_loop y x.length (by omega) hlen y1 (wv B32 x) hxy x.length 0 x 0 (by omega) rfl x1 (by omega) (by omega) (by simp [wv])).diag
  exact h.mono fun c hc => ⟨hc.1, by rw [hc.2, x3, y3]; rfl⟩
end Go.Proofs.YthghchjbomlpfaaGreat.Ev

namespace Go.Proofs.YthghchjbomlpfaaGreat.Ev
set_option linter.unusedVariables false

def Rat_ (x : (Bool × ByteArray) × ByteArray) : Prop := Int_ x.1 ∧ Nat_ x.2 ∧ nv x.2 ≠ 0
def Small (x : (Bool × ByteArray) × ByteArray) : Prop := x.1.2.size ≤ 1099511627776 ∧ x.2.size ≤ 1099511627776

theorem ratE_zero {x : (Bool × ByteArray) × ByteArray} (h : ratE x = 0) : Rat_ x ∧ x.1.2.size ≤ 1024 ∧ x.2.size ≤ 1024 ∧ Int.gcd (nv x.1.2) (nv x.2) = 1 := by
  unfold ratE at h
  split at h
  · simp at h
  · rename_i h1
    split at h
    · rename_i h2; exact absurd h h2
    · rename_i h2
      split at h
      · rename_i h3; exact absurd h h3
      · rename_i h3
        split at h
        · rename_i h4
          have h2' : intE x.1 = 0 := by simpa using h2
          have h3' : natE x.2 = 0 := by simpa using h3
          obtain ⟨a1, a2⟩ := intE_zero.1 h2'
          obtain ⟨b1, b2⟩ := natE_zero.1 h3'
          exact ⟨⟨a1, b1, fun e => h1 (.inr (.inr ((nat_ne b1).2 e)))⟩, a2, b2, h4⟩
        · simp at h

theorem cmp_mul {a b d : Int} (hd : 0 < d) : cmp (a * d) (b * d) = cmp a b := by
  have h1 : a * d < b * d ↔ a < b := ⟨fun h => Int.lt_of_mul_lt_mul_right h (by omega), fun h => Int.mul_lt_mul_of_pos_right h hd⟩
  have h2 : b * d < a * d ↔ b < a := ⟨fun h => Int.lt_of_mul_lt_mul_right h (by omega), fun h => Int.mul_lt_mul_of_pos_right h hd⟩
  simp only [cmp, h1, h2]

theorem neg_ite (s : Bool) (v d : Int) : (if s = true then - (v * d) else v * d) = (if s = true then - v else v) * d := by
  cases s <;> simp [Int.neg_mul]

theorem ratCmp_ok (x y : (Bool × ByteArray) × ByteArray) (hx : Rat_ x) (hy : Rat_ y) (sx : Small x) (sy : Small y) : Evt (fun k => exact_Cmp k x y) (cmp (iv x.1 * nv y.2) (iv y.1 * nv x.2)) := by
  unfold exact_Cmp
  simp only [beq_nv hx.2.1 hy.2.1]
  by_cases h : nv x.2 = nv y.2
  · have hd := nat_pos hy.2.2
    rw [h, cmp_mul hd]
    refine Evt.of_eq (Evt.bind (g := fun k t1 => some t1) (intCmp_ok x.1 y.1 hx.1 hy.1) Evt.pure) fun k => by rw [bp rfl]
  · obtain ⟨c, hc, c1, c2⟩ := natMul_ok x.1.2 y.2 sx.1 sy.2
    obtain ⟨d, hd, d1, d2⟩ := natMul_ok y.1.2 x.2 sy.1 sx.2
    obtain ⟨m, m1, _, m2, m3, _⟩ := make_ok x.1.1 c c1
    obtain ⟨n, n1, _, n2, n3, _⟩ := make_ok y.1.1 d d1
    have e1 : iv m = iv x.1 * nv y.2 := by rw [m3, c2, neg_ite]; rfl
    have e2 : iv n = iv y.1 * nv x.2 := by rw [n3, d2, neg_ite]; rfl
    rw [← e1, ← e2]
    refine Evt.of_eq (g := fun k => (exact_NatMul k x.1.2 y.2).bind fun t2 => (exact_IntMake x.1.1 t2).bind fun t3 => (exact_NatMul k y.1.2 x.2).bind fun t4 => (exact_IntMake y.1.1 t4).bind fun t5 => (exact_IntCmp k t3 t5).bind fun t6 => some t6) ?_ fun k => by rw [bn h]
    refine Evt.bind (g := fun k t2 => (exact_IntMake x.1.1 t2).bind fun t3 => (exact_NatMul k y.1.2 x.2).bind fun t4 => (exact_IntMake y.1.1 t4).bind fun t5 => (exact_IntCmp k t3 t5).bind fun t6 => some t6) hc ?_
    simp only [m1, Option.bind_some]
    refine Evt.bind (g := fun k t4 => (exact_IntMake y.1.1 t4).bind fun t5 => (exact_IntCmp k m t5).bind fun t6 => some t6) hd ?_
    simp only [n1, Option.bind_some]
    exact Evt.bind (g := fun k t6 => some t6) (intCmp_ok m n m2 n2) Evt.pure

theorem rintMul_ok (a b : Bool × ByteArray) (sa : a.2.size ≤ 1099511627776) (sb : b.2.size ≤ 1099511627776) : Res (fun k => galoisref02_Mul k a b) fun c => Int_ c ∧ iv c = iv a * iv b := by
  unfold galoisref02_Mul
  refine Res.bind (g := fun k t1 => (galoisref02_Make (!(a.1 == b.1)) t1).bind fun t2 => some t2) (rmul_ok a.2 b.2 sa sb) ?_
  rintro c ⟨c1, c2⟩
  obtain ⟨n, _, n1, n2, n3, _⟩ := make_ok (!(a.1 == b.1)) c c1
  simp only [n1, Option.bind_some]
  refine Res.pure ⟨n2, ?_⟩
  rw [n3, c2]
  unfold iv
  cases a.1 <;> cases b.1 <;> simp [Int.neg_mul, Int.mul_neg]

theorem rratCmp_ok (x y : (Bool × ByteArray) × ByteArray) (sx : Small x) (sy : Small y) : Evt (fun k => galoisref03_Compare k x y) (cmp (iv x.1 * nv y.2) (iv y.1 * nv x.2)) := by
  unfold galoisref03_Compare
  simp only [galoisref03_denominator, Option.bind_some]
  obtain ⟨c, hc, c1, c2⟩ := rintMul_ok x.1 (false, y.2) sx.1 sy.2
  obtain ⟨d, hd, d1, d2⟩ := rintMul_ok y.1 (false, x.2) sy.1 sx.2
  have e1 : iv c = iv x.1 * nv y.2 := by rw [c2]; simp [iv]
  have e2 : iv d = iv y.1 * nv x.2 := by rw [d2]; simp [iv]
  rw [← e1, ← e2]
  refine Evt.bind (g := fun k t2 => (galoisref02_Mul k y.1 (false, x.2)).bind fun t4 => (galoisref02_Compare k t2 t4).bind fun t5 => some t5) hc ?_
  refine Evt.bind (g := fun k t4 => (galoisref02_Compare k c t4).bind fun t5 => some t5) hd ?_
  exact Evt.bind (g := fun k t5 => some t5) (rintCmp_ok c d c1 d1) Evt.pure

def pow2B (c : Nat) : Bool := decide (IntKind.wrap .u8 (((BitVec.ofInt 8 ((c : Nat) : Int) &&& BitVec.ofInt 8 (IntKind.wrap .u8 (((c : Nat) : Int) - 1))).toNat : Nat) : Int) = 0)
theorem pow2_all : ∀ c : Fin 256, c.val ≠ 0 → pow2B c.val = decide (c.val = 2 ^ (bitLen c.val - 1)) := by decide +kernel
theorem bit8_all : ∀ c : Fin 256, c.val ≠ 0 → 1 ≤ bitLen c.val ∧ bitLen c.val ≤ 8 ∧ (2 ^ (bitLen c.val - 1)) < 256 := by decide +kernel

def dy (l : List UInt8) : Bool := match l with
  | [] => true
  | x :: l => pow2B x.toNat && l.all (· == 0)

theorem drop_getD {α : Type} (l : List α) (z : α) (i : Nat) (hi : i < l.length) : l.drop i = l.getD i z :: l.drop (i + 1) := by
  rw [List.drop_eq_getElem_cons hi]
  simp [List.getD, hi]

theorem rdy_loop (x : (Bool × ByteArray) × ByteArray) (hs : x.2.size ≤ 1099511627776) : ∀ (d i : Nat), i + d = x.2.size → 1 ≤ i → Evt (fun n => galoisref19_Dyadic.l0 n i x) ((x.2.data.toList.drop i).all (· == 0))
  | 0, i, hd, hi => by
    have hsz := size_len x.2
    rw [List.drop_of_length_le (by omega)]
    refine Evt.succ (fun n => ?_) Evt.pure
    simp only [galoisref19_Dyadic.l0, galoisref19_Dyadic.b0]
    rw [bn (by omega)]
    rfl
  | d + 1, i, hd, hi => by
    have hsz := size_len x.2
    have e1 : IntKind.wrap .i64 ((i : Int) + 1) = ((i + 1 : Nat) : Int) := by rw [wi _ (by omega) (by omega)]; omega
    have hdr : x.2.data.toList.drop i = x.2.data.toList.getD i 0 :: x.2.data.toList.drop (i + 1) := drop_getD _ _ _ (by omega)
    rw [hdr, List.all_cons]
    by_cases hz : x.2.data.toList.getD i 0 = 0
    · have ih := rdy_loop x hs d (i + 1) (by omega) (by omega)
      rw [hz]
      simp only [beq_self_eq_true, Bool.true_and]
      refine Evt.succ (fun n => ?_) ih
      simp only [galoisref19_Dyadic.l0, galoisref19_Dyadic.b0, Int.toNat_natCast, e1]
      rw [bp (by omega), if_pos (by omega), bp (by omega), bnp ((head_zero _).2 hz), bn (by omega)]
    · have : (x.2.data.toList.getD i 0 == 0) = false := beq_eq_false_iff_ne.2 hz
      rw [this, Bool.false_and]
      refine Evt.succ (fun n => ?_) Evt.pure
      simp only [galoisref19_Dyadic.l0, galoisref19_Dyadic.b0, Int.toNat_natCast, e1]
      rw [bp (by omega), if_pos (by omega), bp (by omega), bnn (fun h => hz ((head_zero _).1 h))]

theorem rdy_ok (x : (Bool × ByteArray) × ByteArray) (hs : x.2.size ≤ 1099511627776) : Evt (fun k => galoisref19_Dyadic k x) (dy x.2.data.toList) := by
  have hsz := size_len x.2
  cases hl : x.2.data.toList with
  | nil =>
    rw [hl] at hsz
    simp only [List.length_nil] at hsz
    refine Evt.succ (g := fun _ => some true) (fun n => ?_) Evt.pure
    simp only [galoisref19_Dyadic, galoisref19_Dyadic.top, galoisref19_Dyadic.l0, galoisref19_Dyadic.b0]
    rw [bn (by omega)]
  | cons c l =>
    rw [hl] at hsz
    simp only [List.length_cons] at hsz
    have e1 : IntKind.wrap .i64 ((0 : Int) + 1) = ((1 : Nat) : Int) := by rw [wi _ (by omega) (by omega)]; omega
    have hg : x.2.data.toList.getD (Int.toNat 0) 0 = c := by rw [hl]; rfl
    show Evt (fun k => galoisref19_Dyadic k x) (pow2B c.toNat && l.all (· == 0))
    by_cases hp : pow2B c.toNat = true
    · have h1 := rdy_loop x hs l.length 1 (by omega) (by omega)
      rw [hl] at h1
      rw [hp, Bool.true_and]
      refine Evt.succ (fun n => ?_) h1
      simp only [galoisref19_Dyadic, galoisref19_Dyadic.top, galoisref19_Dyadic.l0, galoisref19_Dyadic.b0, hg, e1]
      have hp' := of_decide_eq_true hp
      rw [bp (by omega), if_pos (by omega), bn (by omega), bp trivial, bnp hp']
    · have hp2 : pow2B c.toNat = false := by simpa using hp
      rw [hp2, Bool.false_and]
      refine Evt.succ (fun n => ?_) Evt.pure
      simp only [galoisref19_Dyadic, galoisref19_Dyadic.top, galoisref19_Dyadic.l0, galoisref19_Dyadic.b0, hg, e1]
      have hp' := of_decide_eq_false hp2
      rw [bp (by omega), if_pos (by omega), bn (by omega), bp trivial, bnn hp']

def len8T (T : ByteArray) (a0 : Int) : Option Int :=
  if 0 ≤ a0 ∧ a0 < (T.size : Int) then (some (IntKind.wrap .i64 ((((List.getD T.data.toList (Int.toNat a0) 0).toNat : Nat) : Int)))) else none
set_option maxRecDepth 100000 in
theorem len8_eq (a0 : Int) : bits_Len8 a0 = len8T TAB a0 := rfl
theorem len8_ok (c : Nat) (h : c < 256) : bits_Len8 c = some ((bitLen c : Nat) : Int) := by
  have tsz := tab_size
  have := bitLen_le c 8 h
  rw [len8_eq, len8T, if_pos (by omega), Int.toNat_natCast, tab_get c h, wi _ (by omega) (by omega)]

theorem dyadic_ok (x : (Bool × ByteArray) × ByteArray) (hs : x.2.size ≤ 1099511627776) (hx : Nat_ x.2) (h0 : nv x.2 ≠ 0) : enclosure_dyadic x = some (dy x.2.data.toList) := by
  have hsz := size_len x.2
  have hne : x.2.data.toList ≠ [] := fun e => h0 ((nat_ne hx).1 e)
  cases hl : x.2.data.toList with
  | nil => exact absurd hl hne
  | cons c l =>
    rw [hl] at hsz
    simp only [List.length_cons] at hsz
    have hc0 : c ≠ 0 := fun e => by apply hx; rw [hl, e]; rfl
    have hc : c.toNat ≠ 0 := fun e => hc0 (UInt8.toNat_inj.1 (show c.toNat = (0 : UInt8).toNat from e))
    have hc256 : c.toNat < 256 := by have := u8_lt c; omega
    obtain ⟨b1, b2, b3⟩ := bit8_all ⟨c.toNat, hc256⟩ hc
    simp only at b1 b2 b3
    have hbits : exact_NatBits x.2 = some (((8 * l.length + bitLen c.toNat : Nat)) : Int) := by
      unfold exact_NatBits
      rw [beq_nil, decide_eq_false hne, cond_false, if_pos (by omega), hl, List.getD_cons_zero, len8_ok _ hc256, Option.bind_some,
        wi ((x.2.size : Int) - 1) (by omega) (by omega), wi (8 * ((x.2.size : Int) - 1)) (by omega) (by omega), wi _ (by omega) (by omega)]
      exact congrArg some (by omega)
    have htwo : exact_NatTwo (((8 * l.length + bitLen c.toNat - 1 : Nat)) : Int) = some (strOf ((2 : Int) ^ (bitLen c.toNat - 1) :: List.replicate l.length 0)) := by
      unfold exact_NatTwo
      have e1 : Int.tdiv (((8 * l.length + bitLen c.toNat - 1 : Nat)) : Int) 8 = (l.length : Int) := by rw [td _ _ (by omega)]; omega
      have e2 : Int.tmod (((8 * l.length + bitLen c.toNat - 1 : Nat)) : Int) 8 = ((bitLen c.toNat - 1 : Nat) : Int) := by rw [tm _ _ (by omega)]; omega
      have e3 : IntKind.wrap .i64 (l.length : Int) = (l.length : Int) := wi _ (by omega) (by omega)
      have e4 : IntKind.wrap .i64 ((l.length : Int) + 1) = ((l.length + 1 : Nat) : Int) := by rw [wi _ (by omega) (by omega)]; omega
      have m1 : min (bitLen c.toNat - 1) 8 = bitLen c.toNat - 1 := by omega
      have e5 : IntKind.wrap .u8 (1 * 2 ^ (bitLen c.toNat - 1)) = 2 ^ (bitLen c.toNat - 1) := by
        have e : ((2 ^ (bitLen c.toNat - 1) : Nat) : Int) = 2 ^ (bitLen c.toNat - 1) := by push_cast; rfl
        have hpos : (0 : Int) < 2 ^ (bitLen c.toNat - 1) := Int.pow_pos (by omega)
        have hlt : (2 : Int) ^ (bitLen c.toNat - 1) < 256 := by rw [← e]; exact Int.ofNat_lt.2 b3
        rw [Int.one_mul, wb, Int.emod_eq_of_lt (by omega) (by omega)]
      simp only [e1, e2, e3, e4, Int.toNat_natCast, m1, e5, List.length_replicate]
      rw [if_pos (by omega), if_pos (by omega), if_neg (by omega), if_pos (by omega)]
      rfl
    unfold enclosure_dyadic
    rw [hbits, Option.bind_some, wi _ (by omega) (by omega), show (((8 * l.length + bitLen c.toNat : Nat) : Int) - 1) = ((8 * l.length + bitLen c.toNat - 1 : Nat) : Int) by omega, htwo, Option.bind_some, beq_bytes, hl]
    congr 1
    -- byte by byte
    have hd : (strOf ((2 : Int) ^ (bitLen c.toNat - 1) :: List.replicate l.length 0)).data.toList = UInt8.ofNat (2 ^ (bitLen c.toNat - 1)) :: List.replicate l.length 0 := by
      have e : ((2 : Int) ^ (bitLen c.toNat - 1)).toNat = 2 ^ (bitLen c.toNat - 1) := by
        have e : ((2 ^ (bitLen c.toNat - 1) : Nat) : Int) = 2 ^ (bitLen c.toNat - 1) := by push_cast; rfl
        rw [← e]; exact Int.toNat_natCast _
      simp [strOf, e]
    rw [hd]
    show _ = (pow2B c.toNat && l.all (· == 0))
    have hpw := pow2_all ⟨c.toNat, hc256⟩ hc
    simp only at hpw
    rw [hpw]
    have hfst : UInt8.ofNat (2 ^ (bitLen c.toNat - 1)) = c ↔ c.toNat = 2 ^ (bitLen c.toNat - 1) := by
      rw [← UInt8.toNat_inj, UInt8.toNat_ofNat', Nat.mod_eq_of_lt (by omega)]
      exact eq_comm
    have hall : List.replicate l.length 0 = l ↔ l.all (· == 0) = true := by
      rw [List.all_eq_true]
      constructor
      · intro h z hz
        rw [← h] at hz
        simp [List.eq_of_mem_replicate hz]
      · intro h
        exact (List.eq_replicate_iff.2 ⟨rfl, fun z hz => by simpa using h z hz⟩).symm
    by_cases h1 : c.toNat = 2 ^ (bitLen c.toNat - 1)
    · rw [decide_eq_true h1, Bool.true_and]
      cases h2 : l.all (· == 0)
      · apply decide_eq_false
        intro h
        have := hall.1 (List.cons.inj h).2
        rw [h2] at this; simp at this
      · apply decide_eq_true
        rw [hfst.2 h1, hall.2 h2]
    · rw [decide_eq_false h1, Bool.false_and]
      apply decide_eq_false
      intro h
      exact h1 (hfst.1 (List.cons.inj h).1)
end Go.Proofs.YthghchjbomlpfaaGreat.Ev

namespace Go.Proofs.YthghchjbomlpfaaGreat.Ev
set_option linter.unusedVariables false

def Int2 (x : Bool × ByteArray) : Prop := x.2.size ≤ 1099511627776

theorem iv_val (a : Bool × ByteArray) : iv a = (if a.1 = true then - nv a.2 else nv a.2) := rfl

theorem intAdd_ok (a b : Bool × ByteArray) (ha : Int_ a) (hb : Int_ b) (sa : Int2 a) (sb : Int2 b) : Res (fun k => exact_IntAdd k a b) fun c => Int_ c ∧ iv c = iv a + iv b := by
  obtain ⟨s, x⟩ := a
  obtain ⟨t, y⟩ := b
  unfold exact_IntAdd
  have hx := nv_nonneg x
  have hy := nv_nonneg y
  by_cases hst : s = t
  · subst hst
    refine Res.of_eq (g := fun k => (exact_NatAdd k x y).bind fun t1 => (exact_IntMake s t1).bind fun t2 => some t2) ?_ (fun k => by simp)
    refine Res.bind (g := fun k t1 => (exact_IntMake s t1).bind fun t2 => some t2) (natAdd_ok x y sa sb) ?_
    rintro c ⟨c1, c2⟩
    obtain ⟨n, n0, _, n1, n2, _⟩ := make_ok s c c1
    simp only [n0, Option.bind_some]
    refine Res.pure ⟨n1, ?_⟩
    rw [n2, c2]
    simp only [iv]
    cases s <;> simp <;> omega
  · have hne : (s == t) = false := beq_eq_false_iff_ne.2 hst
    refine Res.of_eq (g := fun k => (exact_NatCmp k x y).bind fun t3 => bif decide (t3 < 0) then ((exact_NatSub k y x).bind fun t4 => (exact_IntMake t t4).bind fun t5 => some t5) else ((exact_NatSub k x y).bind fun t6 => (exact_IntMake s t6).bind fun t7 => some t7)) ?_ (fun k => by simp only [hne, cond_false])
    refine Res.bind (R := fun z => cmp (nv x) (nv y) = z) (g := fun k t3 => bif decide (t3 < 0) then ((exact_NatSub k y x).bind fun t4 => (exact_IntMake t t4).bind fun t5 => some t5) else ((exact_NatSub k x y).bind fun t6 => (exact_IntMake s t6).bind fun t7 => some t7)) ⟨_, natCmp_ok x y ha.1 hb.1, rfl⟩ ?_
    rintro _ rfl
    by_cases hlt : nv x < nv y
    · have hc : cmp (nv x) (nv y) < 0 := by rw [cmp, if_pos hlt]; decide
      refine Res.of_eq (g := fun k => (exact_NatSub k y x).bind fun t4 => (exact_IntMake t t4).bind fun t5 => some t5) ?_ (fun k => by rw [bp hc])
      refine Res.bind (g := fun k t4 => (exact_IntMake t t4).bind fun t5 => some t5) (natSub_ok y x sb sa (by omega)) ?_
      rintro c ⟨c1, c2⟩
      obtain ⟨n, n0, _, n1, n2, _⟩ := make_ok t c c1
      simp only [n0, Option.bind_some]
      refine Res.pure ⟨n1, ?_⟩
      rw [n2, c2]
      simp only [iv]
      cases s <;> cases t <;> simp at hst ⊢ <;> omega
    · have hc : ¬ cmp (nv x) (nv y) < 0 := by rw [cmp, if_neg hlt]; split <;> omega
      refine Res.of_eq (g := fun k => (exact_NatSub k x y).bind fun t6 => (exact_IntMake s t6).bind fun t7 => some t7) ?_ (fun k => by rw [bn hc])
      refine Res.bind (g := fun k t6 => (exact_IntMake s t6).bind fun t7 => some t7) (natSub_ok x y sa sb (by omega)) ?_
      rintro c ⟨c1, c2⟩
      obtain ⟨n, n0, _, n1, n2, _⟩ := make_ok s c c1
      simp only [n0, Option.bind_some]
      refine Res.pure ⟨n1, ?_⟩
      rw [n2, c2]
      simp only [iv]
      cases s <;> cases t <;> simp at hst ⊢ <;> omega

theorem intMul_ok (a b : Bool × ByteArray) (sa : Int2 a) (sb : Int2 b) : Res (fun k => exact_IntMul k a b) fun c => Int_ c ∧ iv c = iv a * iv b := by
  unfold exact_IntMul
  refine Res.bind (g := fun k t1 => (exact_IntMake (!(a.1 == b.1)) t1).bind fun t2 => some t2) (natMul_ok a.2 b.2 sa sb) ?_
  rintro c ⟨c1, c2⟩
  obtain ⟨n, n1, _, n2, n3, _⟩ := make_ok (!(a.1 == b.1)) c c1
  simp only [n1, Option.bind_some]
  refine Res.pure ⟨n2, ?_⟩
  rw [n3, c2]
  unfold iv
  cases a.1 <;> cases b.1 <;> simp [Int.neg_mul, Int.mul_neg]
end Go.Proofs.YthghchjbomlpfaaGreat.Ev

namespace Go.Proofs.YthghchjbomlpfaaGreat.Ev
set_option linter.unusedVariables false

theorem rintAdd_ok (a b : Bool × ByteArray) (ha : Int_ a) (hb : Int_ b) (sa : Int2 a) (sb : Int2 b) : Res (fun k => galoisref02_Add k a b) fun c => Int_ c ∧ iv c = iv a + iv b := by
  obtain ⟨s, x⟩ := a
  obtain ⟨t, y⟩ := b
  unfold galoisref02_Add
  have hx := nv_nonneg x
  have hy := nv_nonneg y
  by_cases hst : s = t
  · subst hst
    refine Res.of_eq (g := fun k => (galoisref01_Add k x y).bind fun t1 => (galoisref02_Make s t1).bind fun t2 => some t2) ?_ (fun k => by simp)
    refine Res.bind (g := fun k t1 => (galoisref02_Make s t1).bind fun t2 => some t2) (radd_ok x y sa sb) ?_
    rintro c ⟨c1, c2⟩
    obtain ⟨n, _, n0, n1, n2, _⟩ := make_ok s c c1
    simp only [n0, Option.bind_some]
    refine Res.pure ⟨n1, ?_⟩
    rw [n2, c2]
    simp only [iv]
    cases s <;> simp <;> omega
  · have hne : (s == t) = false := beq_eq_false_iff_ne.2 hst
    refine Res.of_eq (g := fun k => (galoisref01_Compare k x y).bind fun t3 => bif decide (0 ≤ t3) then ((galoisref01_Sub k x y).bind fun t4 => (galoisref02_Make s t4).bind fun t5 => some t5) else ((galoisref01_Sub k y x).bind fun t6 => (galoisref02_Make t t6).bind fun t7 => some t7)) ?_ (fun k => by simp only [hne, cond_false])
    refine Res.bind (R := fun z => cmp (nv x) (nv y) = z) (g := fun k t3 => bif decide (0 ≤ t3) then ((galoisref01_Sub k x y).bind fun t4 => (galoisref02_Make s t4).bind fun t5 => some t5) else ((galoisref01_Sub k y x).bind fun t6 => (galoisref02_Make t t6).bind fun t7 => some t7)) ⟨_, rcmp_ok x y ha.1 hb.1, rfl⟩ ?_
    rintro _ rfl
    by_cases hlt : nv x < nv y
    · have hc : ¬ 0 ≤ cmp (nv x) (nv y) := by rw [cmp, if_pos hlt]; decide
      refine Res.of_eq (g := fun k => (galoisref01_Sub k y x).bind fun t4 => (galoisref02_Make t t4).bind fun t5 => some t5) ?_ (fun k => by rw [bn hc])
      refine Res.bind (g := fun k t4 => (galoisref02_Make t t4).bind fun t5 => some t5) (rsub_ok y x sb sa hb.1 ha.1 (by omega)) ?_
      rintro c ⟨c1, c2⟩
      obtain ⟨n, _, n0, n1, n2, _⟩ := make_ok t c c1
      simp only [n0, Option.bind_some]
      refine Res.pure ⟨n1, ?_⟩
      rw [n2, c2]
      simp only [iv]
      cases s <;> cases t <;> simp at hst ⊢ <;> omega
    · have hc : 0 ≤ cmp (nv x) (nv y) := by rw [cmp, if_neg hlt]; split <;> omega
      refine Res.of_eq (g := fun k => (galoisref01_Sub k x y).bind fun t6 => (galoisref02_Make s t6).bind fun t7 => some t7) ?_ (fun k => by rw [bp hc])
      refine Res.bind (g := fun k t6 => (galoisref02_Make s t6).bind fun t7 => some t7) (rsub_ok x y sa sb ha.1 hb.1 (by omega)) ?_
      rintro c ⟨c1, c2⟩
      obtain ⟨n, _, n0, n1, n2, _⟩ := make_ok s c c1
      simp only [n0, Option.bind_some]
      refine Res.pure ⟨n1, ?_⟩
      rw [n2, c2]
      simp only [iv]
      cases s <;> cases t <;> simp at hst ⊢ <;> omega

theorem neg_ok (a : Bool × ByteArray) (ha : Int_ a) : ∃ c, exact_IntNeg a = some c ∧ galoisref02_Neg a = some c ∧ Int_ c ∧ iv c = - iv a := by
  obtain ⟨n, n0, n0', n1, n2, _⟩ := make_ok (!a.1) a.2 ha.1
  refine ⟨n, by rw [exact_IntNeg, n0]; rfl, by rw [galoisref02_Neg, n0']; rfl, n1, ?_⟩
  rw [n2, iv]
  cases a.1 <;> simp
end Go.Proofs.YthghchjbomlpfaaGreat.Ev

namespace Go.Proofs.YthghchjbomlpfaaGreat.Ev
set_option linter.unusedVariables false

theorem intOf_ok (n : Int) (h1 : -9223372036854775808 ≤ n) (h2 : n < 9223372036854775808) : Res (fun k => exact_IntOf k n) fun c => Int_ c ∧ iv c = n := by
  unfold exact_IntOf
  by_cases h : n < 0
  · have e : IntKind.wrap .u64 (0 - IntKind.wrap .u64 n) = - n := by rw [wu, wu]; omega
    refine Res.of_eq (g := fun k => (exact_NatOf k (- n)).bind fun t1 => some (true, t1)) ?_ (fun k => by rw [bp h, e])
    refine Res.bind (g := fun k t1 => some (true, t1)) (natOf_ok (- n) (by omega) (by simp only [B64]; omega)) ?_
    rintro c ⟨c1, c2⟩
    exact Res.pure ⟨⟨c1, fun _ => by show nv c ≠ 0; omega⟩, by simp only [iv, if_true]; omega⟩
  · have e : IntKind.wrap .u64 n = n := ule (by omega) (by omega)
    refine Res.of_eq (g := fun k => (exact_NatOf k n).bind fun t1 => some (false, t1)) ?_ (fun k => by rw [bn h, e])
    refine Res.bind (g := fun k t1 => some (false, t1)) (natOf_ok n (by omega) (by simp only [B64]; omega)) ?_
    rintro c ⟨c1, c2⟩
    exact Res.pure ⟨⟨c1, fun h => by simp at h⟩, by simp only [iv]; simpa using c2⟩

theorem rintOf_ok (n : Int) (h1 : -9223372036854775808 ≤ n) (h2 : n < 9223372036854775808) : Res (fun k => galoisref02_FromInt k n) fun c => Int_ c ∧ iv c = n := by
  unfold galoisref02_FromInt
  by_cases h : n < 0
  · have e0 : IntKind.wrap .i64 (n + 1) = n + 1 := wi _ (by omega) (by omega)
    have e1 : IntKind.wrap .i64 (0 - (n + 1)) = 0 - (n + 1) := wi _ (by omega) (by omega)
    have e : IntKind.wrap .u64 (IntKind.wrap .u64 (IntKind.wrap .i64 (0 - IntKind.wrap .i64 (n + 1))) + 1) = - n := by rw [e0, e1, wu, wu]; omega
    refine Res.of_eq (g := fun k => (galoisref01_Of k (- n)).bind fun t1 => some (true, t1)) ?_ (fun k => by rw [bp h, e])
    refine Res.bind (g := fun k t1 => some (true, t1)) (rof_ok (- n) (by omega) (by simp only [B64]; omega)) ?_
    rintro c ⟨c1, c2⟩
    exact Res.pure ⟨⟨c1, fun _ => by show nv c ≠ 0; omega⟩, by simp only [iv, if_true]; omega⟩
  · have e : IntKind.wrap .u64 n = n := ule (by omega) (by omega)
    refine Res.of_eq (g := fun k => (galoisref01_Of k n).bind fun t1 => some (false, t1)) ?_ (fun k => by rw [bn h, e])
    refine Res.bind (g := fun k t1 => some (false, t1)) (rof_ok n (by omega) (by simp only [B64]; omega)) ?_
    rintro c ⟨c1, c2⟩
    exact Res.pure ⟨⟨c1, fun h => by simp at h⟩, by simp only [iv]; simpa using c2⟩
end Go.Proofs.YthghchjbomlpfaaGreat.Ev

namespace Go.Proofs.YthghchjbomlpfaaGreat.Ev
set_option linter.unusedVariables false

def RatN (x : (Bool × ByteArray) × ByteArray) : Prop := Rat_ x ∧ Int.gcd (nv x.1.2) (nv x.2) = 1
def rv (x : (Bool × ByteArray) × ByteArray) : Rat := Rat.divInt (iv x.1) (nv x.2)

theorem gcd_pos' {a b : ByteArray} (hb : nv b ≠ 0) : 0 < Int.gcd (nv a) (nv b) := Int.gcd_pos_of_ne_zero_right _ hb

theorem gcd_quo {a b : ByteArray} (hb : nv b ≠ 0) : Int.gcd (nv a / (Int.gcd (nv a) (nv b) : Nat)) (nv b / (Int.gcd (nv a) (nv b) : Nat)) = 1 ∧ nv b / (Int.gcd (nv a) (nv b) : Nat) ≠ 0 ∧
    nv a / (Int.gcd (nv a) (nv b) : Nat) * (Int.gcd (nv a) (nv b) : Nat) = nv a ∧ nv b / (Int.gcd (nv a) (nv b) : Nat) * (Int.gcd (nv a) (nv b) : Nat) = nv b := by
  have hp := gcd_pos' (a := a) hb
  have h1 : nv a / (Int.gcd (nv a) (nv b) : Nat) * (Int.gcd (nv a) (nv b) : Nat) = nv a := Int.ediv_mul_cancel (Int.gcd_dvd_left _ _)
  have h2 : nv b / (Int.gcd (nv a) (nv b) : Nat) * (Int.gcd (nv a) (nv b) : Nat) = nv b := Int.ediv_mul_cancel (Int.gcd_dvd_right _ _)
  refine ⟨?_, fun e => by rw [e] at h2; simp at h2; exact hb h2.symm, h1, h2⟩
  exact Int.gcd_ediv_gcd_ediv_gcd hp

def sg (s : Bool) : Int := if s = true then -1 else 1
theorem sg_sq (s : Bool) : sg s * sg s = 1 := by cases s <;> rfl
theorem iv_sg (a : Bool × ByteArray) : iv a = sg a.1 * nv a.2 := by
  unfold iv sg
  cases a.1 <;> simp

theorem make_val {a b m : Bool × ByteArray} {d : ByteArray} {g : Int} (hg : g ≠ 0) (hm : iv m = (if (!(a.1 == b.1)) = true then - nv m.2 else nv m.2)) (h1 : nv m.2 * g = nv a.2) (h2 : nv d * g = nv b.2) : rv (m, d) = Rat.divInt (iv a) (iv b) := by
  have e1 : iv m = sg a.1 * sg b.1 * nv m.2 := by
    rw [hm]
    unfold sg
    cases a.1 <;> cases b.1 <;> simp
  have e2 : iv a = iv m * (sg b.1 * g) := by
    have := sg_sq b.1
    rw [iv_sg, ← h1, e1]; grind
  have e3 : iv b = nv d * (sg b.1 * g) := by
    rw [iv_sg, ← h2]; grind
  have hs : sg b.1 * g ≠ 0 := Int.mul_ne_zero (by unfold sg; split <;> decide) hg
  rw [e2, e3, Rat.divInt_mul_right hs]
  rfl
end Go.Proofs.YthghchjbomlpfaaGreat.Ev

namespace Go.Proofs.YthghchjbomlpfaaGreat.Ev
set_option linter.unusedVariables false

theorem nat_size {c : ByteArray} (hc : Nat_ c) {a : ByteArray} (h : nv c ≤ nv a) (ha : a.size ≤ 1099511627776) : c.size ≤ 1099511627776 := by
  rcases Nat.lt_or_ge a.size c.size with h1 | h1
  · have := nv_len_lt hc h1; omega
  · omega

theorem mk_ok (a b : Bool × ByteArray) (ha : Int_ a) (hb : Int_ b) (h0 : nv b.2 ≠ 0) (sa : Int2 a) (sb : Int2 b) : Res (fun k => exact_Make k a b) fun c => RatN c ∧ rv c = Rat.divInt (iv a) (iv b) := by
  unfold exact_Make
  obtain ⟨q1, q2, q3, q4⟩ := gcd_quo (a := a.2) h0
  have hg := gcd_pos' (a := a.2) h0
  refine Res.bind (g := fun k t1 => bif !(t1.toList == (⟨#[1]⟩ : ByteArray).toList) then ((exact_NatDivMod k a.2 t1).bind fun pt2 => (exact_NatDivMod k b.2 t1).bind fun pt4 => (exact_IntMake (!(a.1 == b.1)) pt2.1).bind fun t6 => some (t6, pt4.1)) else ((exact_IntMake (!(a.1 == b.1)) a.2).bind fun t7 => some (t7, b.2))) (natGcd_ok a.2 b.2 sa sb) ?_
  rintro g ⟨g1, g2⟩
  simp only [beq_nv g1 one_nat.1, one_nat.2]
  by_cases h1 : nv g = 1
  · have hg1 : Int.gcd (nv a.2) (nv b.2) = 1 := by omega
    obtain ⟨m, m0, _, m1, m2, m3⟩ := make_ok (!(a.1 == b.1)) a.2 ha.1
    refine Res.of_eq (g := fun _ => some (m, b.2)) (Res.pure ⟨⟨⟨m1, hb.1, h0⟩, by rw [m3]; exact hg1⟩, ?_⟩) (fun k => by rw [bnp h1, m0]; rfl)
    exact make_val (g := 1) (by decide) (by rw [m3]; exact m2) (by rw [m3]; omega) (by omega)
  · have hgs : g.size ≤ 1099511627776 := by
      refine nat_size g1 (a := b.2) ?_ sb
      have := Int.le_of_dvd (nat_pos h0) (Int.gcd_dvd_right (nv a.2) (nv b.2))
      omega
    have hgn : nv g ≠ 0 := by omega
    refine Res.of_eq (g := fun k => (exact_NatDivMod k a.2 g).bind fun pt2 => (exact_NatDivMod k b.2 g).bind fun pt4 => (exact_IntMake (!(a.1 == b.1)) pt2.1).bind fun t6 => some (t6, pt4.1)) ?_ (fun k => by rw [bnn h1])
    refine Res.bind (g := fun k pt2 => (exact_NatDivMod k b.2 g).bind fun pt4 => (exact_IntMake (!(a.1 == b.1)) pt2.1).bind fun t6 => some (t6, pt4.1)) (natDivMod_ok a.2 g sa hgs hgn) ?_
    rintro ⟨x, x'⟩ ⟨x1, _, x2, _⟩
    refine Res.bind (g := fun k pt4 => (exact_IntMake (!(a.1 == b.1)) x).bind fun t6 => some (t6, pt4.1)) (natDivMod_ok b.2 g sb hgs hgn) ?_
    rintro ⟨y, y'⟩ ⟨y1, _, y2, _⟩
    simp only at x1 x2 y1 y2
    rw [g2] at x2 y2
    obtain ⟨m, m0, _, m1, m2, m3⟩ := make_ok (!(a.1 == b.1)) x x1
    refine Res.of_eq (g := fun _ => some (m, y)) (Res.pure ⟨⟨⟨m1, y1, by show nv y ≠ 0; rw [y2]; exact q2⟩, ?_⟩, ?_⟩) (fun k => by rw [m0]; rfl)
    · show Int.gcd (nv m.2) (nv y) = 1
      rw [m3, x2, y2]; exact q1
    · exact make_val (g := (Int.gcd (nv a.2) (nv b.2) : Nat)) (by omega) (by rw [m3]; exact m2) (by rw [m3, x2]; exact q3) (by rw [y2]; exact q4)

theorem rmk_ok (a b : Bool × ByteArray) (ha : Int_ a) (hb : Int_ b) (h0 : nv b.2 ≠ 0) (sa : Int2 a) (sb : Int2 b) : Res (fun k => galoisref03_Make k a b) fun c => RatN c ∧ rv c = Rat.divInt (iv a) (iv b) := by
  unfold galoisref03_Make
  obtain ⟨q1, q2, q3, q4⟩ := gcd_quo (a := a.2) h0
  have hg := gcd_pos' (a := a.2) h0
  have hne : b.2.data.toList ≠ [] := fun e => h0 ((nat_ne hb.1).1 e)
  simp only [beq_nil, decide_eq_false hne, cond_false]
  refine Res.bind (g := fun k t1 => (galoisref01_DivMod k a.2 t1).bind fun pt2 => (galoisref01_DivMod k b.2 t1).bind fun pt4 => (galoisref02_Make (!(a.1 == b.1)) pt2.1).bind fun t6 => some (t6, pt4.1)) (rgcd_ok a.2 b.2 sa sb ha.1 hb.1) ?_
  rintro g ⟨g1, g2⟩
  have hgs : g.size ≤ 1099511627776 := by
    refine nat_size g1 (a := b.2) ?_ sb
    have := Int.le_of_dvd (nat_pos h0) (Int.gcd_dvd_right (nv a.2) (nv b.2))
    omega
  have hgn : nv g ≠ 0 := by omega
  refine Res.bind (g := fun k pt2 => (galoisref01_DivMod k b.2 g).bind fun pt4 => (galoisref02_Make (!(a.1 == b.1)) pt2.1).bind fun t6 => some (t6, pt4.1)) (rdivmod_ok a.2 g sa hgs hgn) ?_
  rintro ⟨x, x'⟩ ⟨x1, _, x2, _⟩
  refine Res.bind (g := fun k pt4 => (galoisref02_Make (!(a.1 == b.1)) x).bind fun t6 => some (t6, pt4.1)) (rdivmod_ok b.2 g sb hgs hgn) ?_
  rintro ⟨y, y'⟩ ⟨y1, _, y2, _⟩
  simp only at x1 x2 y1 y2
  rw [g2] at x2 y2
  obtain ⟨m, _, m0, m1, m2, m3⟩ := make_ok (!(a.1 == b.1)) x x1
  refine Res.of_eq (g := fun _ => some (m, y)) (Res.pure ⟨⟨⟨m1, y1, by show nv y ≠ 0; rw [y2]; exact q2⟩, ?_⟩, ?_⟩) (fun k => by rw [m0]; rfl)
  · show Int.gcd (nv m.2) (nv y) = 1
    rw [m3, x2, y2]; exact q1
  · exact make_val (g := (Int.gcd (nv a.2) (nv b.2) : Nat)) (by omega) (by rw [m3]; exact m2) (by rw [m3, x2]; exact q3) (by rw [y2]; exact q4)
end Go.Proofs.YthghchjbomlpfaaGreat.Ev

namespace Go.Proofs.YthghchjbomlpfaaGreat.Ev
set_option linter.unusedVariables false

theorem iv_abs {a : Bool × ByteArray} : (iv a).natAbs = (nv a.2).natAbs := by
  unfold iv
  split
  · exact Int.natAbs_neg _
  · rfl

theorem rv_num {x : (Bool × ByteArray) × ByteArray} (h : RatN x) : (rv x).num = iv x.1 ∧ ((rv x).den : Int) = nv x.2 := by
  have hd := nv_nonneg x.2
  have hne := h.1.2.2
  obtain ⟨d, hde⟩ := Int.eq_ofNat_of_zero_le hd
  have hd0 : d ≠ 0 := fun e => by rw [e] at hde; exact hne hde
  have hco : (iv x.1).natAbs.Coprime d := by
    have := h.2
    rw [Int.gcd, hde] at this
    rw [iv_abs]
    simpa [Nat.Coprime] using this
  have e : rv x = Rat.mk' (iv x.1) d hd0 hco := by rw [rv, hde, Rat.mk_eq_divInt]
  rw [e]
  exact ⟨rfl, hde.symm⟩

theorem int_inj {a b : Bool × ByteArray} (ha : Int_ a) (hb : Int_ b) (h : iv a = iv b) : a = b := by
  obtain ⟨s, x⟩ := a
  obtain ⟨t, y⟩ := b
  have hx := nv_nonneg x
  have hy := nv_nonneg y
  have h1 := ha.2
  have h2 := hb.2
  simp only [iv] at h
  cases s <;> cases t <;> simp at h h1 h2
  · have e : x = y := nv_inj ha.1 hb.1 h
    rw [e]
  · omega
  · omega
  · have e : x = y := nv_inj ha.1 hb.1 (by show nv x = nv y; omega)
    rw [e]

theorem ratN_inj {x y : (Bool × ByteArray) × ByteArray} (hx : RatN x) (hy : RatN y) (h : rv x = rv y) : x = y := by
  obtain ⟨a1, a2⟩ := rv_num hx
  obtain ⟨b1, b2⟩ := rv_num hy
  rw [h] at a1 a2
  have e1 := int_inj hx.1.1 hy.1.1 (by rw [← a1, ← b1])
  have e2 := nv_inj hx.1.2.1 hy.1.2.1 (by rw [← a2, ← b2])
  exact Prod.ext e1 e2
end Go.Proofs.YthghchjbomlpfaaGreat.Ev

namespace Go.Proofs.YthghchjbomlpfaaGreat.Ev
set_option linter.unusedVariables false

theorem size_of_lt {c : ByteArray} (hc : Nat_ c) {m : Nat} (h : nv c < 256 ^ m) : c.size ≤ m := by
  rcases Nat.lt_or_ge m c.size with h1 | h1
  · rw [size_len] at h1
    have h2 := bz_low hc (fun e => by rw [e] at h1; simp at h1)
    obtain ⟨d, hd⟩ : ∃ d, c.data.toList.length - 1 = m + d := ⟨c.data.toList.length - 1 - m, by omega⟩
    rw [hd, Int.pow_add] at h2
    have h5 : (0 : Int) < 256 ^ d := Int.pow_pos (by omega)
    have h4 : (0 : Int) < 256 ^ m := Int.pow_pos (by omega)
    have := Int.mul_le_mul_of_nonneg_left (show (1 : Int) ≤ 256 ^ d by omega) (show (0 : Int) ≤ 256 ^ m by omega)
    rw [nv] at h
    omega
  · exact h1
theorem lt_of_size (c : ByteArray) : nv c < 256 ^ c.size := by
  rw [size_len]; exact (bz_bounds _).2
theorem size_mul {a b c : ByteArray} (hc : Nat_ c) (h : nv c = nv a * nv b) : c.size ≤ a.size + b.size := by
  refine size_of_lt hc ?_
  rw [h, Int.pow_add]
  have h1 := lt_of_size a
  have h2 := lt_of_size b
  have h3 := nv_nonneg a
  have h4 := nv_nonneg b
  have hP : (0 : Int) < 256 ^ a.size := Int.pow_pos (by omega)
  calc nv a * nv b ≤ 256 ^ a.size * nv b := Int.mul_le_mul_of_nonneg_right (by omega) h4
    _ < 256 ^ a.size * 256 ^ b.size := Int.mul_lt_mul_of_pos_left h2 hP
theorem p256_mono {a b : Nat} (h : a ≤ b) : (256 : Int) ^ a ≤ 256 ^ b := by
  obtain ⟨d, rfl⟩ := Nat.exists_eq_add_of_le h
  rw [Int.pow_add]
  have h5 : (0 : Int) < 256 ^ d := Int.pow_pos (by omega)
  have h4 : (0 : Int) < 256 ^ a := Int.pow_pos (by omega)
  have := Int.mul_le_mul_of_nonneg_left (show (1 : Int) ≤ 256 ^ d by omega) (show (0 : Int) ≤ 256 ^ a by omega)
  omega
theorem size_add {a b c : ByteArray} (hc : Nat_ c) (h : nv c ≤ nv a + nv b) : c.size ≤ max a.size b.size + 1 := by
  refine size_of_lt hc ?_
  have h1 := lt_of_size a
  have h2 := lt_of_size b
  have h3 := p256_mono (show a.size ≤ max a.size b.size by omega)
  have h4 := p256_mono (show b.size ≤ max a.size b.size by omega)
  have hP : (0 : Int) < 256 ^ max a.size b.size := Int.pow_pos (by omega)
  rw [Int.pow_succ]
  omega
theorem size_le {a c : ByteArray} (hc : Nat_ c) (h : nv c ≤ nv a) : c.size ≤ a.size := by
  rcases Nat.lt_or_ge a.size c.size with h1 | h1
  · have := nv_len_lt hc h1; omega
  · exact h1
end Go.Proofs.YthghchjbomlpfaaGreat.Ev

namespace Go.Proofs.YthghchjbomlpfaaGreat.Ev
set_option linter.unusedVariables false

theorem whole_ok (n : Bool × ByteArray) (hn : Int_ n) : RatN (n, (⟨#[1]⟩ : ByteArray)) ∧ rv (n, (⟨#[1]⟩ : ByteArray)) = Rat.divInt (iv n) 1 := by
  refine ⟨⟨⟨hn, one_nat.1, by rw [one_nat.2]; decide⟩, ?_⟩, ?_⟩
  · show Int.gcd (nv n.2) (nv (⟨#[1]⟩ : ByteArray)) = 1
    rw [one_nat.2]; simp
  · show Rat.divInt (iv n) (nv (⟨#[1]⟩ : ByteArray)) = _
    rw [one_nat.2]

theorem ratMul_ok (x y : (Bool × ByteArray) × ByteArray) (hx : Rat_ x) (hy : Rat_ y) (sx : x.1.2.size ≤ 17179869184 ∧ x.2.size ≤ 17179869184) (sy : y.1.2.size ≤ 17179869184 ∧ y.2.size ≤ 17179869184) : Res (fun k => exact_Mul k x y) fun c => RatN c ∧ rv c = rv x * rv y := by
  have hval : rv x * rv y = Rat.divInt (iv x.1 * iv y.1) (nv x.2 * nv y.2) := Rat.divInt_mul_divInt _ _
  rw [hval]
  have ht : ∀ t : Bool, (t = true → nv x.2 = 1 ∧ nv y.2 = 1) → Res2 (fun k n => exact_Mul.l0 k n t x y ((false, (⟨#[]⟩ : ByteArray)), (⟨#[]⟩ : ByteArray))) fun c => RatN c ∧ rv c = Rat.divInt (iv x.1 * iv y.1) (nv x.2 * nv y.2) := by
    intro t h
    cases t with
    | true =>
      obtain ⟨h1, h2⟩ := h rfl
      refine Res2.succ (g := fun k _ => (exact_IntMul k x.1 y.1).bind fun t1 => (exact_Whole t1).bind fun t2 => some t2) (fun k n => rfl) ?_
      refine Res2.call (g := fun k _ t1 => (exact_Whole t1).bind fun t2 => some t2) (intMul_ok x.1 y.1 (by unfold Int2; omega) (by unfold Int2; omega)) ?_
      rintro c ⟨c1, c2⟩
      obtain ⟨w1, w2⟩ := whole_ok c c1
      exact Res2.pure ⟨w1, by rw [w2, c2, h1, h2]; rfl⟩
    | false =>
      refine Res2.succ (g := fun k _ => (exact_IntMul k x.1 y.1).bind fun t3 => (exact_NatMul k x.2 y.2).bind fun t4 => (exact_Make k t3 (false, t4)).bind fun t5 => some t5) (fun k n => rfl) ?_
      refine Res2.call (g := fun k _ t3 => (exact_NatMul k x.2 y.2).bind fun t4 => (exact_Make k t3 (false, t4)).bind fun t5 => some t5) (intMul_ok x.1 y.1 (by unfold Int2; omega) (by unfold Int2; omega)) ?_
      rintro c ⟨c1, c2⟩
      refine Res2.call (g := fun k _ t4 => (exact_Make k c (false, t4)).bind fun t5 => some t5) (natMul_ok x.2 y.2 (by omega) (by omega)) ?_
      rintro d ⟨d1, d2⟩
      have hd0 : nv d ≠ 0 := by rw [d2]; exact Int.mul_ne_zero hx.2.2 hy.2.2
      have hds := size_mul d1 d2
      have hcs : c.2.size ≤ x.1.2.size + y.1.2.size := by
        have e1 : (iv c).natAbs = (nv c.2).natAbs := iv_abs
        have e2 : (iv x.1).natAbs = (nv x.1.2).natAbs := iv_abs
        have e3 : (iv y.1).natAbs = (nv y.1.2).natAbs := iv_abs
        rw [c2, Int.natAbs_mul, e2, e3, ← Int.natAbs_mul] at e1
        have a1 := nv_nonneg c.2
        have a2 := Int.mul_nonneg (nv_nonneg x.1.2) (nv_nonneg y.1.2)
        exact size_mul c1.1 (by omega)
      refine Res2.call (g := fun k _ t5 => some t5) (mk_ok c (false, d) c1 ⟨d1, fun h => by simp at h⟩ hd0 (by unfold Int2; omega) (by unfold Int2; show d.size ≤ _; omega)) ?_
      rintro e ⟨e1, e2⟩
      refine Res2.pure ⟨e1, ?_⟩
      rw [e2, c2]
      simp [iv, d2]
  have hx1 := beq_nv hx.2.1 one_nat.1
  have hy1 := beq_nv hy.2.1 one_nat.1
  rw [one_nat.2] at hx1 hy1
  unfold exact_Mul exact_Mul.top
  simp only [hx1, hy1]
  by_cases h1 : nv x.2 = 1
  · refine Res.of_eq (ht (decide (nv y.2 = 1)) (fun h => ⟨h1, of_decide_eq_true h⟩)).diag (fun k => by rw [bp h1])
  · refine Res.of_eq (ht false (fun h => by simp at h)).diag (fun k => by rw [bn h1])
end Go.Proofs.YthghchjbomlpfaaGreat.Ev

namespace Go.Proofs.YthghchjbomlpfaaGreat.Ev
set_option linter.unusedVariables false

theorem rratMul_ok (x y : (Bool × ByteArray) × ByteArray) (hx : Rat_ x) (hy : Rat_ y) (sx : x.1.2.size ≤ 17179869184 ∧ x.2.size ≤ 17179869184) (sy : y.1.2.size ≤ 17179869184 ∧ y.2.size ≤ 17179869184) : Res (fun k => galoisref03_Mul k x y) fun c => RatN c ∧ rv c = rv x * rv y := by
  have hval : rv x * rv y = Rat.divInt (iv x.1 * iv y.1) (nv x.2 * nv y.2) := Rat.divInt_mul_divInt _ _
  rw [hval]
  have ht : ∀ t : Bool, (t = true → nv x.2 = 1 ∧ nv y.2 = 1) → Res2 (fun k n => galoisref03_Mul.l0 k n t x y ((false, (⟨#[]⟩ : ByteArray)), (⟨#[]⟩ : ByteArray))) fun c => RatN c ∧ rv c = Rat.divInt (iv x.1 * iv y.1) (nv x.2 * nv y.2) := by
    intro t h
    cases t with
    | true =>
      obtain ⟨h1, h2⟩ := h rfl
      refine Res2.succ (g := fun k _ => (galoisref02_Mul k x.1 y.1).bind fun t1 => (galoisref03_Whole t1).bind fun t2 => some t2) (fun k n => rfl) ?_
      refine Res2.call (g := fun k _ t1 => (galoisref03_Whole t1).bind fun t2 => some t2) (rintMul_ok x.1 y.1 (by omega) (by omega)) ?_
      rintro c ⟨c1, c2⟩
      obtain ⟨w1, w2⟩ := whole_ok c c1
      exact Res2.pure ⟨w1, by rw [w2, c2, h1, h2]; rfl⟩
    | false =>
      refine Res2.succ (g := fun k _ => (galoisref02_Mul k x.1 y.1).bind fun t3 => (galoisref02_Mul k (false, x.2) (false, y.2)).bind fun t4 => (galoisref03_Make k t3 t4).bind fun t5 => some t5) (fun k n => rfl) ?_
      refine Res2.call (g := fun k _ t3 => (galoisref02_Mul k (false, x.2) (false, y.2)).bind fun t4 => (galoisref03_Make k t3 t4).bind fun t5 => some t5) (rintMul_ok x.1 y.1 (by omega) (by omega)) ?_
      rintro c ⟨c1, c2⟩
      refine Res2.call (g := fun k _ t4 => (galoisref03_Make k c t4).bind fun t5 => some t5) (rintMul_ok (false, x.2) (false, y.2) (by show x.2.size ≤ _; omega) (by show y.2.size ≤ _; omega)) ?_
      rintro d ⟨d0, d2⟩
      have d2' : iv d = nv x.2 * nv y.2 := by rw [d2]; simp [iv]
      have d1 := d0.1
      have hdv : nv d.2 = nv x.2 * nv y.2 := by
        have a1 := nv_nonneg d.2
        have a2 := Int.mul_nonneg (nv_nonneg x.2) (nv_nonneg y.2)
        have e1 : (iv d).natAbs = (nv d.2).natAbs := iv_abs
        rw [d2'] at e1; omega
      have hd0 : nv d.2 ≠ 0 := by rw [hdv]; exact Int.mul_ne_zero hx.2.2 hy.2.2
      have hds := size_mul d1 hdv
      have hcs : c.2.size ≤ x.1.2.size + y.1.2.size := by
        have e1 : (iv c).natAbs = (nv c.2).natAbs := iv_abs
        have e2 : (iv x.1).natAbs = (nv x.1.2).natAbs := iv_abs
        have e3 : (iv y.1).natAbs = (nv y.1.2).natAbs := iv_abs
        rw [c2, Int.natAbs_mul, e2, e3, ← Int.natAbs_mul] at e1
        have a1 := nv_nonneg c.2
        have a2 := Int.mul_nonneg (nv_nonneg x.1.2) (nv_nonneg y.1.2)
        exact size_mul c1.1 (by omega)
      refine Res2.call (g := fun k _ t5 => some t5) (rmk_ok c d c1 d0 hd0 (by unfold Int2; omega) (by unfold Int2; omega)) ?_
      rintro e ⟨e1, e2⟩
      refine Res2.pure ⟨e1, ?_⟩
      rw [e2, c2, d2']
  have hx1 := beq_nv hx.2.1 one_nat.1
  have hy1 := beq_nv hy.2.1 one_nat.1
  rw [one_nat.2] at hx1 hy1
  unfold galoisref03_Mul galoisref03_Mul.top
  simp only [hx1, hy1]
  by_cases h1 : nv x.2 = 1
  · refine Res.of_eq (ht (decide (nv y.2 = 1)) (fun h => ⟨h1, of_decide_eq_true h⟩)).diag (fun k => by rw [bp h1])
  · refine Res.of_eq (ht false (fun h => by simp at h)).diag (fun k => by rw [bn h1])
end Go.Proofs.YthghchjbomlpfaaGreat.Ev

namespace Go.Proofs.YthghchjbomlpfaaGreat.Ev
set_option linter.unusedVariables false

abbrev RT := (Bool × ByteArray) × ByteArray
def RQ (q : Rat) (x : RT) : Prop := RatN x ∧ rv x = q
def Sz (m : Nat) (q : Rat) : Prop := (q.num.natAbs : Int) < 256 ^ m ∧ (q.den : Int) < 256 ^ m

section
variable {p q : Rat} {x y : RT} {m m' : Nat}
theorem RQ.num (h : RQ q x) : iv x.1 = q.num ∧ nv x.2 = q.den := by
  obtain ⟨h1, rfl⟩ := h
  obtain ⟨a, b⟩ := rv_num h1
  exact ⟨a.symm, b.symm⟩
theorem RQ.abs (h : RQ q x) : nv x.1.2 = q.num.natAbs := by
  have h1 := iv_abs (a := x.1)
  rw [h.num.1] at h1
  have := nv_nonneg x.1.2
  omega
theorem RQ.size (h : RQ q x) (s : Sz m q) : x.1.2.size ≤ m ∧ x.2.size ≤ m :=
  ⟨size_of_lt h.1.1.1.1 (by rw [h.abs]; exact s.1), size_of_lt h.1.1.2.1 (by rw [h.num.2]; exact s.2)⟩
theorem RQ.sz (h : RQ q x) (s : x.1.2.size ≤ m ∧ x.2.size ≤ m) : Sz m q := by
  have h1 := lt_of_size x.1.2
  have h2 := lt_of_size x.2
  rw [h.abs] at h1
  rw [h.num.2] at h2
  exact ⟨Int.lt_of_lt_of_le h1 (p256_mono s.1), Int.lt_of_lt_of_le h2 (p256_mono s.2)⟩
theorem RQ.inj (h : RQ q x) (h' : RQ q y) : x = y := ratN_inj h.1 h'.1 (h.2.trans h'.2.symm)
theorem Sz.mono (h : Sz m q) (hm : m ≤ m') : Sz m' q := ⟨Int.lt_of_lt_of_le h.1 (p256_mono hm), Int.lt_of_lt_of_le h.2 (p256_mono hm)⟩
theorem Sz.neg (h : Sz m q) : Sz m (-q) := by
  unfold Sz at *
  rw [Rat.neg_num, Rat.neg_den, Int.natAbs_neg]
  exact h
theorem Sz.divInt {a b : Int} (ha : (a.natAbs : Int) < 256 ^ m) (hb : 0 < b) (hb' : b < 256 ^ m) : Sz m (Rat.divInt a b) := by
  constructor
  · rw [Rat.num_divInt, Int.sign_eq_one_of_pos hb, Int.one_mul]
    have := Nat.div_le_self a.natAbs (b.gcd a)
    rw [Int.natAbs_ediv_of_dvd (Int.gcd_dvd_right _ _)]
    simp only [Int.natAbs_natCast]
    omega
  · rw [Rat.den_divInt, if_neg (by omega)]
    have := Nat.div_le_self b.natAbs (b.gcd a)
    omega
theorem rat_add (p q : Rat) : p + q = Rat.divInt (p.num * q.den + q.num * p.den) (p.den * q.den) := by
  rw [Rat.add_def', ← Rat.divInt_ofNat]; rfl
theorem rat_mul (p q : Rat) : p * q = Rat.divInt (p.num * q.num) (p.den * q.den) := by
  rw [Rat.mul_def', ← Rat.divInt_ofNat]; rfl
theorem den_pos (q : Rat) : (0 : Int) < q.den := by have := q.den_pos; omega
theorem ltmul {a b A B : Int} (h1 : 0 ≤ a) (h2 : a < A) (h3 : 0 ≤ b) (h4 : b < B) : a * b < A * B :=
  Int.lt_of_le_of_lt (Int.mul_le_mul_of_nonneg_right (Int.le_of_lt h2) h3) (Int.mul_lt_mul_of_pos_left h4 (by omega))
theorem p256_pos (m : Nat) : (0 : Int) < 256 ^ m := Int.pow_pos (by omega)
theorem Sz.mul (h : Sz m p) (h' : Sz m' q) : Sz (m + m') (p * q) := by
  rw [rat_mul]
  have dp := den_pos p
  have dq := den_pos q
  refine Sz.divInt ?_ (Int.mul_pos dp dq) ?_
  · rw [Int.natAbs_mul, Int.pow_add]
    push_cast
    exact ltmul (by omega) (by have := h.1; omega) (by omega) (by have := h'.1; omega)
  · rw [Int.pow_add]
    exact ltmul (by omega) h.2 (by omega) h'.2
theorem Sz.add (h : Sz m p) (h' : Sz m' q) : Sz (m + m' + 1) (p + q) := by
  rw [rat_add]
  have dp := den_pos p
  have dq := den_pos q
  have hP := p256_pos (m + m')
  have a1 : (p.num.natAbs : Int) * q.den < 256 ^ m * 256 ^ m' := ltmul (by omega) h.1 (by omega) h'.2
  have a2 : (p.den : Int) * q.num.natAbs < 256 ^ m * 256 ^ m' := ltmul (by omega) h.2 (by omega) h'.1
  have a3 : (p.den : Int) * q.den < 256 ^ m * 256 ^ m' := ltmul (by omega) h.2 (by omega) h'.2
  rw [← Int.pow_add] at a1 a2 a3
  refine Sz.divInt ?_ (Int.mul_pos dp dq) ?_
  · have b1 : ((p.num * q.den).natAbs : Int) = (p.num.natAbs : Int) * q.den := by rw [Int.natAbs_mul]; push_cast; rfl
    have b2 : ((q.num * p.den).natAbs : Int) = (p.den : Int) * q.num.natAbs := by rw [Int.natAbs_mul, Nat.mul_comm]; push_cast; rfl
    have b3 := Int.natAbs_add_le (p.num * q.den) (q.num * p.den)
    rw [Int.pow_succ]
    omega
  · rw [Int.pow_succ]; omega
theorem Sz.sub (h : Sz m p) (h' : Sz m' q) : Sz (m + m' + 1) (p - q) := by rw [Rat.sub_eq_add_neg]; exact h.add h'.neg
theorem Sz.int {n : Int} (h : (n.natAbs : Int) < 256 ^ m) (hm : 0 < m) : Sz m (n : Rat) := by
  refine ⟨h, ?_⟩
  obtain ⟨d, rfl⟩ : ∃ d, m = d + 1 := ⟨m - 1, by omega⟩
  have hP := p256_pos d
  show (1 : Int) < _
  rw [Int.pow_succ]; omega
theorem Sz.pos (h : Sz m q) : 0 < m := by
  rcases Nat.eq_zero_or_pos m with rfl | h1
  · have := h.2; have := den_pos q; simp at *; omega
  · exact h1
theorem Sz.floor (h : Sz m q) : Sz m (q.floor : Rat) := by
  refine Sz.int ?_ h.pos
  rw [Rat.floor_def]
  have hd := den_pos q
  have := h.1
  have h1 : (q.num / (q.den : Int)).natAbs ≤ q.num.natAbs := Int.natAbs_ediv_le_natAbs _ _
  omega
theorem Sz.inv (h : Sz m q) (h0 : q ≠ 0) : Sz m q⁻¹ := by
  have hn : q.num ≠ 0 := fun e => h0 (Rat.num_eq_zero.1 e)
  constructor
  · rw [Rat.num_inv, Int.natAbs_mul, Int.natAbs_sign_of_ne_zero hn]
    have := h.2
    omega
  · rw [Rat.den_inv, if_neg hn]; exact h.1
end
end Go.Proofs.YthghchjbomlpfaaGreat.Ev

namespace Go.Proofs.YthghchjbomlpfaaGreat.Ev
set_option linter.unusedVariables false

section
variable {p q : Rat} {x y : RT} {m m' : Nat}
theorem mulQ (hx : RQ p x) (hy : RQ q y) (sx : Sz m p) (sy : Sz m' q) (hm : m ≤ 8589934592) (hm' : m' ≤ 8589934592) : Res (fun k => exact_Mul k x y) (RQ (p * q)) := by
  have := hx.size sx
  have := hy.size sy
  exact (ratMul_ok x y hx.1.1 hy.1.1 ⟨by omega, by omega⟩ ⟨by omega, by omega⟩).mono fun c h => ⟨h.1, by rw [h.2, hx.2, hy.2]⟩
theorem rmulQ (hx : RQ p x) (hy : RQ q y) (sx : Sz m p) (sy : Sz m' q) (hm : m ≤ 8589934592) (hm' : m' ≤ 8589934592) : Res (fun k => galoisref03_Mul k x y) (RQ (p * q)) := by
  have := hx.size sx
  have := hy.size sy
  exact (rratMul_ok x y hx.1.1 hy.1.1 ⟨by omega, by omega⟩ ⟨by omega, by omega⟩).mono fun c h => ⟨h.1, by rw [h.2, hx.2, hy.2]⟩

theorem add_same (a b : Int) {d : Int} (hd : d ≠ 0) : Rat.divInt a d + Rat.divInt b d = Rat.divInt (a + b) d := by
  rw [Rat.divInt_add_divInt _ _ hd hd, ← Int.add_mul, Rat.divInt_mul_right hd]
theorem int_size {c : Bool × ByteArray} (hc : Int_ c) {m : Nat} (h : ((iv c).natAbs : Int) < 256 ^ m) : c.2.size ≤ m := by
  refine size_of_lt hc.1 ?_
  have h1 := iv_abs (a := c)
  have := nv_nonneg c.2
  omega
theorem int_lt (c : Bool × ByteArray) : ((iv c).natAbs : Int) < 256 ^ c.2.size := by
  have h := lt_of_size c.2
  have h1 := iv_abs (a := c)
  have := nv_nonneg c.2
  omega
theorem int_add_size {a b c : Bool × ByteArray} (hc : Int_ c) (h : iv c = iv a + iv b) : c.2.size ≤ max a.2.size b.2.size + 1 := by
  refine int_size hc ?_
  have h1 := int_lt a
  have h2 := int_lt b
  have h3 := p256_mono (show a.2.size ≤ max a.2.size b.2.size by omega)
  have h4 := p256_mono (show b.2.size ≤ max a.2.size b.2.size by omega)
  have hP := p256_pos (max a.2.size b.2.size)
  rw [Int.pow_succ, h]
  omega
theorem int_mul_size {a b c : Bool × ByteArray} (hc : Int_ c) (h : iv c = iv a * iv b) : c.2.size ≤ a.2.size + b.2.size := by
  refine int_size hc ?_
  have h1 := int_lt a
  have h2 := int_lt b
  rw [h, Int.natAbs_mul, Int.pow_add]
  push_cast
  exact ltmul (by omega) h1 (by omega) h2
theorem den_int {d : ByteArray} (hd : Nat_ d) : Int_ (false, d) := ⟨hd, fun h => by simp at h⟩

theorem addQ (hx : RQ p x) (hy : RQ q y) (sx : Sz m p) (sy : Sz m' q) (hm : m ≤ 8589934592) (hm' : m' ≤ 8589934592) : Res (fun k => exact_Add k x y) (RQ (p + q)) := by
  have zx := hx.size sx
  have zy := hy.size sy
  obtain ⟨⟨⟨ix, dx, nx⟩, _⟩, rfl⟩ := hx
  obtain ⟨⟨⟨iy, dy, ny⟩, _⟩, rfl⟩ := hy
  have hb := beq_nv dx dy
  have h1 := beq_nv dx one_nat.1
  unfold exact_Add
  simp only [hb, h1, one_nat.2]
  by_cases e : nv x.2 = nv y.2
  · have hv : rv x + rv y = Rat.divInt (iv x.1 + iv y.1) (nv x.2) := by rw [rv, rv, ← e, add_same _ _ nx]
    rw [hv]
    simp only [bp e]
    by_cases e1 : nv x.2 = 1
    · simp only [bp e1]
      refine Res.bind (intAdd_ok x.1 y.1 ix iy (by unfold Int2; omega) (by unfold Int2; omega)) fun c hc => ?_
      refine Res.of_eq (Res.pure (r := (c, (⟨#[1]⟩ : ByteArray))) ?_) (fun k => rfl)
      obtain ⟨w1, w2⟩ := whole_ok c hc.1
      exact ⟨w1, by rw [w2, hc.2, e1]⟩
    · simp only [bn e1]
      refine Res.bind (intAdd_ok x.1 y.1 ix iy (by unfold Int2; omega) (by unfold Int2; omega)) fun c hc => ?_
      have := int_add_size hc.1 hc.2
      refine Res.bind (mk_ok c (false, x.2) hc.1 (den_int dx) nx (by unfold Int2; omega) (by unfold Int2; show x.2.size ≤ _; omega)) fun r hr => ?_
      exact Res.pure ⟨hr.1, by rw [hr.2, hc.2]; rfl⟩
  · have hv : rv x + rv y = Rat.divInt (iv x.1 * nv y.2 + iv y.1 * nv x.2) (nv x.2 * nv y.2) := by rw [rv, rv, Rat.divInt_add_divInt _ _ nx ny]
    rw [hv]
    simp only [bn e]
    refine Res.bind (natMul_ok x.1.2 y.2 (by omega) (by omega)) fun c hc => ?_
    obtain ⟨n1, n0, _, n2, n3, n4⟩ := make_ok x.1.1 c hc.1
    simp only [n0, Option.bind_some]
    refine Res.bind (natMul_ok y.1.2 x.2 (by omega) (by omega)) fun d hd => ?_
    obtain ⟨o1, o0, _, o2, o3, o4⟩ := make_ok y.1.1 d hd.1
    simp only [o0, Option.bind_some]
    have e1 : iv n1 = iv x.1 * nv y.2 := by rw [n3, hc.2, iv]; split <;> simp [Int.neg_mul]
    have e2 : iv o1 = iv y.1 * nv x.2 := by rw [o3, hd.2, iv]; split <;> simp [Int.neg_mul]
    have s1 := size_mul hc.1 hc.2
    have s2 := size_mul hd.1 hd.2
    refine Res.bind (intAdd_ok n1 o1 n2 o2 (by unfold Int2; rw [n4]; omega) (by unfold Int2; rw [o4]; omega)) fun s hs => ?_
    have s3 := int_add_size hs.1 hs.2
    rw [n4, o4] at s3
    refine Res.bind (natMul_ok x.2 y.2 (by omega) (by omega)) fun f hf => ?_
    have s4 := size_mul hf.1 hf.2
    refine Res.bind (mk_ok s (false, f) hs.1 (den_int hf.1) (by show nv f ≠ 0; rw [hf.2]; exact Int.mul_ne_zero nx ny) (by unfold Int2; omega) (by unfold Int2; show f.size ≤ _; omega)) fun r hr => ?_
    refine Res.pure ⟨hr.1, ?_⟩
    rw [hr.2, hs.2, e1, e2]
    show Rat.divInt _ (nv f) = _
    rw [hf.2]

theorem raddQ (hx : RQ p x) (hy : RQ q y) (sx : Sz m p) (sy : Sz m' q) (hm : m ≤ 8589934592) (hm' : m' ≤ 8589934592) : Res (fun k => galoisref03_Add k x y) (RQ (p + q)) := by
  have zx := hx.size sx
  have zy := hy.size sy
  obtain ⟨⟨⟨ix, dx, nx⟩, _⟩, rfl⟩ := hx
  obtain ⟨⟨⟨iy, dy, ny⟩, _⟩, rfl⟩ := hy
  have hv : rv x + rv y = Rat.divInt (iv x.1 * nv y.2 + iv y.1 * nv x.2) (nv x.2 * nv y.2) := by rw [rv, rv, Rat.divInt_add_divInt _ _ nx ny]
  rw [hv]
  have key : ∀ t : Bool, (t = true → nv x.2 = 1 ∧ nv y.2 = 1) → Res (fun k => galoisref03_Add.l0 k k t x y ((false, (⟨#[]⟩ : ByteArray)), (⟨#[]⟩ : ByteArray))) (fun c => RatN c ∧ rv c = Rat.divInt (iv x.1 * nv y.2 + iv y.1 * nv x.2) (nv x.2 * nv y.2)) := by
    intro t ht
    refine Res2.diag (f := fun k n => galoisref03_Add.l0 k n t x y ((false, (⟨#[]⟩ : ByteArray)), (⟨#[]⟩ : ByteArray))) (Res2.succ (g := fun k _ => galoisref03_Add.b0 k t x y ((false, (⟨#[]⟩ : ByteArray)), (⟨#[]⟩ : ByteArray))) (fun k n => rfl) ?_)
    cases t with
    | true =>
      obtain ⟨h1, h2⟩ := ht rfl
      simp only [galoisref03_Add.b0, cond_true]
      refine Res2.call (rintAdd_ok x.1 y.1 ix iy (by unfold Int2; omega) (by unfold Int2; omega)) fun c hc => ?_
      obtain ⟨w1, w2⟩ := whole_ok c hc.1
      refine Res2.of_eq (Res2.pure (r := (c, (⟨#[1]⟩ : ByteArray))) ⟨w1, ?_⟩) (fun k n => rfl)
      rw [w2, hc.2, h1, h2]; simp
    | false =>
      simp only [galoisref03_Add.b0, cond_false, galoisref03_denominator, Option.bind_some]
      refine Res2.call (rintMul_ok x.1 (false, y.2) (by omega) (by show y.2.size ≤ _; omega)) fun c hc => ?_
      refine Res2.call (rintMul_ok y.1 (false, x.2) (by omega) (by show x.2.size ≤ _; omega)) fun d hd => ?_
      have s1 := int_mul_size hc.1 hc.2
      have s2 := int_mul_size hd.1 hd.2
      simp only at s1 s2
      refine Res2.call (rintAdd_ok c d hc.1 hd.1 (by unfold Int2; omega) (by unfold Int2; omega)) fun s hs => ?_
      have s3 := int_add_size hs.1 hs.2
      refine Res2.call (rintMul_ok (false, x.2) (false, y.2) (by show x.2.size ≤ _; omega) (by show y.2.size ≤ _; omega)) fun f hf => ?_
      have s4 := int_mul_size hf.1 hf.2
      simp only at s4
      have ef : iv f = nv x.2 * nv y.2 := by rw [hf.2]; rfl
      have ef' : iv f ≠ 0 := by rw [ef]; exact Int.mul_ne_zero nx ny
      refine Res2.call (rmk_ok s f hs.1 hf.1 (fun e => ef' (by have := iv_abs (a := f); omega)) (by unfold Int2; omega) (by unfold Int2; omega)) fun r hr => ?_
      refine Res2.pure ⟨hr.1, ?_⟩
      rw [hr.2, hs.2, hc.2, hd.2, ef]; rfl
  have hx1 := beq_nv dx one_nat.1
  have hy1 := beq_nv dy one_nat.1
  rw [one_nat.2] at hx1 hy1
  unfold galoisref03_Add galoisref03_Add.top
  simp only [hx1, hy1]
  by_cases h1 : nv x.2 = 1
  · simp only [bp h1]
    exact key (decide (nv y.2 = 1)) (fun h => ⟨h1, of_decide_eq_true h⟩)
  · simp only [bn h1]
    exact key false (fun h => by simp at h)

theorem negQ (hx : RQ p x) : ∃ y, exact_Neg x = some y ∧ galoisref03_Neg x = some y ∧ RQ (-p) y := by
  obtain ⟨⟨⟨ix, dx, nx⟩, hg⟩, rfl⟩ := hx
  obtain ⟨c, h1, h2, h3, h4⟩ := neg_ok x.1 ix
  refine ⟨(c, x.2), by rw [exact_Neg, h1]; rfl, by rw [galoisref03_Neg, h2]; rfl, ⟨⟨h3, dx, nx⟩, ?_⟩, ?_⟩
  · show Int.gcd (nv c.2) (nv x.2) = 1
    have e1 := iv_abs (a := c)
    have e2 := iv_abs (a := x.1)
    rw [h4, Int.natAbs_neg, e2] at e1
    rw [Int.gcd, ← e1]; exact hg
  · show Rat.divInt (iv c) (nv x.2) = _
    rw [h4, rv, Rat.neg_divInt]
theorem subQ (hx : RQ p x) (hy : RQ q y) (sx : Sz m p) (sy : Sz m' q) (hm : m ≤ 8589934592) (hm' : m' ≤ 8589934592) : Res (fun k => exact_Sub k x y) (RQ (p - q)) := by
  obtain ⟨z, h1, _, h2⟩ := negQ hy
  rw [Rat.sub_eq_add_neg]
  refine Res.of_eq (addQ hx h2 sx sy.neg hm hm') fun k => by simp only [exact_Sub, h1, Option.bind_some, Option.bind_fun_some]
theorem rsubQ (hx : RQ p x) (hy : RQ q y) (sx : Sz m p) (sy : Sz m' q) (hm : m ≤ 8589934592) (hm' : m' ≤ 8589934592) : Res (fun k => galoisref03_Sub k x y) (RQ (p - q)) := by
  obtain ⟨z, _, h1, h2⟩ := negQ hy
  rw [Rat.sub_eq_add_neg]
  refine Res.of_eq (raddQ hx h2 sx sy.neg hm hm') fun k => by simp only [galoisref03_Sub, h1, Option.bind_some, Option.bind_fun_some]
end
end Go.Proofs.YthghchjbomlpfaaGreat.Ev

namespace Go.Proofs.YthghchjbomlpfaaGreat.Ev
set_option linter.unusedVariables false

section
variable {α : Type}
theorem Evt.res {f : Nat → Option α} {r : α} (h : Evt f r) : Res f (· = r) := ⟨r, h, rfl⟩
theorem Res.evt {f : Nat → Option α} {r : α} (h : Res f (· = r)) : Evt f r := by obtain ⟨_, h, rfl⟩ := h; exact h
theorem Res.of_some {f : Option α} {r : α} {Q : α → Prop} (h : f = some r) (hq : Q r) : Res (fun _ => f) Q := ⟨r, ⟨0, fun _ _ => h⟩, hq⟩
theorem Res.and {f : Nat → Option α} {Q Q' : α → Prop} (h : Res f Q) (h' : Res f Q') : Res f fun x => Q x ∧ Q' x := by
  obtain ⟨r, h1, h2⟩ := h
  obtain ⟨s, h3, h4⟩ := h'
  obtain rfl := h1.one h3
  exact ⟨r, h1, h2, h4⟩
end

def cmpQ (p q : Rat) : Int := if p < q then -1 else if q < p then 1 else 0
section
variable {p q : Rat} {x y : RT} {m m' : Nat}
theorem cmp_val (hx : RQ p x) (hy : RQ q y) : cmp (iv x.1 * nv y.2) (iv y.1 * nv x.2) = cmpQ p q := by
  rw [hx.num.1, hx.num.2, hy.num.1, hy.num.2]
  unfold cmp cmpQ
  simp only [Rat.lt_iff]
theorem RQ.small (hx : RQ p x) (sx : Sz m p) (hm : m ≤ 8589934592) : Small x := by
  have := hx.size sx
  exact ⟨by omega, by omega⟩
theorem exactCmpQ (hx : RQ p x) (hy : RQ q y) (sx : Sz m p) (sy : Sz m' q) (hm : m ≤ 8589934592) (hm' : m' ≤ 8589934592) : Evt (fun k => exact_Cmp k x y) (cmpQ p q) := by
  rw [← cmp_val hx hy]
  exact ratCmp_ok x y hx.1.1 hy.1.1 (hx.small sx hm) (hy.small sy hm')
theorem rCompareQ (hx : RQ p x) (hy : RQ q y) (sx : Sz m p) (sy : Sz m' q) (hm : m ≤ 8589934592) (hm' : m' ≤ 8589934592) : Evt (fun k => galoisref03_Compare k x y) (cmpQ p q) := by
  rw [← cmp_val hx hy]
  exact rratCmp_ok x y (hx.small sx hm) (hy.small sy hm')
theorem cmpQ_lt : (cmpQ p q < 0) = (p < q) := by
  unfold cmpQ
  split
  · simp [*]
  · split <;> simp [*]
theorem lessQ (hx : RQ p x) (hy : RQ q y) (sx : Sz m p) (sy : Sz m' q) (hm : m ≤ 8589934592) (hm' : m' ≤ 8589934592) : Evt (fun k => ival_less k x y) (decide (p < q)) := by
  unfold ival_less
  refine Evt.bind (exactCmpQ hx hy sx sy hm hm') ?_
  simp only [cmpQ_lt]; exact Evt.pure
theorem rLessQ (hx : RQ p x) (hy : RQ q y) (sx : Sz m p) (sy : Sz m' q) (hm : m ≤ 8589934592) (hm' : m' ≤ 8589934592) : Evt (fun k => galoisref19_Less k x y) (decide (p < q)) := by
  unfold galoisref19_Less
  refine Evt.bind (rCompareQ hx hy sx sy hm hm') ?_
  simp only [cmpQ_lt]; exact Evt.pure

theorem intQ {n : Bool × ByteArray} {z : Int} (hn : Int_ n) (h : iv n = z) : RQ (z : Rat) (n, (⟨#[1]⟩ : ByteArray)) := by
  obtain ⟨w1, w2⟩ := whole_ok n hn
  refine ⟨w1, ?_⟩
  rw [w2, h, ← show ((1 : Nat) : Int) = 1 from rfl, Rat.divInt_ofNat]
  exact (Rat.mk_eq_mkRat z 1 (by decide) (by simp)).symm
theorem exactIntQ (n : Int) (h1 : -9223372036854775808 ≤ n) (h2 : n < 9223372036854775808) : Res (fun k => exact_Int k n) (RQ (n : Rat)) := by
  unfold exact_Int
  refine Res.bind (intOf_ok n h1 h2) fun c hc => ?_
  exact Res.of_some rfl (intQ hc.1 hc.2)
theorem rFromIntQ (n : Int) (h1 : -9223372036854775808 ≤ n) (h2 : n < 9223372036854775808) : Res (fun k => galoisref03_FromInt k n) (RQ (n : Rat)) := by
  unfold galoisref03_FromInt
  refine Res.bind (rintOf_ok n h1 h2) fun c hc => ?_
  exact Res.of_some rfl (intQ hc.1 hc.2)
theorem int64_size {c : Bool × ByteArray} (hc : Int_ c) {n : Int} (h : iv c = n) (h1 : -9223372036854775808 ≤ n) (h2 : n < 9223372036854775808) : c.2.size ≤ 8 := by
  refine int_size hc ?_
  rw [h]; omega
theorem nz_of_iv {c : Bool × ByteArray} (h : iv c ≠ 0) : nv c.2 ≠ 0 := fun e => h (by have := iv_abs (a := c); omega)
theorem rOfQ (a b : Int) (ha1 : -9223372036854775808 ≤ a) (ha2 : a < 9223372036854775808) (hb1 : -9223372036854775808 ≤ b) (hb2 : b < 9223372036854775808) (h0 : b ≠ 0) : Res (fun k => galoisref03_Of k a b) (RQ (Rat.divInt a b)) := by
  unfold galoisref03_Of
  refine Res.bind (rintOf_ok a ha1 ha2) fun c hc => ?_
  refine Res.bind (rintOf_ok b hb1 hb2) fun d hd => ?_
  have s1 := int64_size hc.1 hc.2 ha1 ha2
  have s2 := int64_size hd.1 hd.2 hb1 hb2
  refine Res.bind (rmk_ok c d hc.1 hd.1 (nz_of_iv (by rw [hd.2]; exact h0)) (by unfold Int2; omega) (by unfold Int2; omega)) fun r hr => ?_
  exact Res.pure ⟨hr.1, by rw [hr.2, hc.2, hd.2]⟩

theorem floor_neg (n : Int) {d : Int} (hd : 0 < d) (hn : 0 ≤ n) : (-n) / d = if n % d = 0 then -(n / d) else -(n / d + 1) := by
  have h1 := Int.emod_nonneg n (show d ≠ 0 by omega)
  have h2 := Int.emod_lt_of_pos n hd
  have h3 := Int.emod_add_mul_ediv n d
  split
  · rename_i h
    refine ((Int.ediv_emod_unique hd).2 ⟨?_, (Int.le_refl 0), hd⟩).1
    rw [Int.mul_neg]; omega
  · refine ((Int.ediv_emod_unique hd (r := d - n % d)).2 ⟨?_, by omega, by omega⟩).1
    rw [Int.mul_neg, Int.mul_add]; omega
theorem floor_iv {a : Bool × ByteArray} (ha : Int_ a) {d : Int} (hd : 0 < d) : iv a / d = if a.1 = true then (if nv a.2 % d = 0 then -(nv a.2 / d) else -(nv a.2 / d + 1)) else nv a.2 / d := by
  unfold iv
  split
  · exact floor_neg _ hd (nv_nonneg _)
  · rfl
theorem floorI (a : Bool × ByteArray) (b : ByteArray) (ha : Int_ a) (hb : Nat_ b) (h0 : nv b ≠ 0) (sa : a.2.size ≤ 17179869184) (sb : b.size ≤ 17179869184) : Res (fun k => exact_IntDivMod k a (false, b)) fun c => Int_ c.1 ∧ iv c.1 = iv a / nv b := by
  have hpos := nat_pos h0
  rw [floor_iv ha hpos]
  unfold exact_IntDivMod exact_IntDivMod.top
  refine Res.bind (natDivMod_ok a.2 b (by omega) (by omega) h0) fun c hc => ?_
  obtain ⟨c1, c2, c3, c4⟩ := hc
  simp only [beq_nil]
  have q0 : 0 ≤ nv a.2 / nv b := Int.ediv_nonneg (nv_nonneg _) (by omega)
  have key : ∀ t : Bool, (t = true → a.1 = true ∧ nv c.2 ≠ 0) → (t = false → a.1 = true → nv c.2 = 0) → Res (fun k => exact_IntDivMod.l0 k k c.1 c.2 t a (false, b) (false, (⟨#[]⟩ : ByteArray)) (false, (⟨#[]⟩ : ByteArray))) fun r => Int_ r.1 ∧ iv r.1 = if a.1 = true then (if nv a.2 % nv b = 0 then -(nv a.2 / nv b) else -(nv a.2 / nv b + 1)) else nv a.2 / nv b := by
    intro t h1 h2
    refine Res2.diag (f := fun k n => exact_IntDivMod.l0 k n c.1 c.2 t a (false, b) (false, (⟨#[]⟩ : ByteArray)) (false, (⟨#[]⟩ : ByteArray))) (Res2.succ (g := fun k _ => exact_IntDivMod.b0 k c.1 c.2 t a (false, b) (false, (⟨#[]⟩ : ByteArray)) (false, (⟨#[]⟩ : ByteArray))) (fun k n => rfl) ?_)
    cases t with
    | true =>
      obtain ⟨e1, e2⟩ := h1 rfl
      simp only [exact_IntDivMod.b0, cond_true]
      refine Res2.call (natOf_ok 1 (by decide) (by decide)) fun o ho => ?_
      have os : o.size ≤ 1 := size_of_lt ho.1 (by rw [ho.2]; omega)
      have cs : c.1.size ≤ a.2.size := size_le c1 (by rw [c3]; exact Int.ediv_le_self _ (nv_nonneg _))
      have rs : c.2.size ≤ b.size := size_le c2 (by rw [c4]; exact Int.le_of_lt (Int.emod_lt_of_pos _ hpos))
      refine Res2.call (natAdd_ok c.1 o (by omega) (by omega)) fun s hs => ?_
      refine Res2.call (natSub_ok b c.2 (by omega) (by omega) (by rw [c4]; exact Int.le_of_lt (Int.emod_lt_of_pos _ hpos))) fun u hu => ?_
      obtain ⟨r, r0, _, r1, r2, r3⟩ := make_ok (!(a.1 == false)) s hs.1
      simp only [r0, Option.bind_some]
      refine Res2.pure ⟨r1, ?_⟩
      rw [c4] at e2
      rw [r2, hs.2, c3, ho.2, e1]
      simp [e2]
    | false =>
      simp only [exact_IntDivMod.b0, cond_false]
      obtain ⟨r, r0, _, r1, r2, r3⟩ := make_ok (!(a.1 == false)) c.1 c1
      simp only [r0, Option.bind_some]
      refine Res2.pure ⟨r1, ?_⟩
      rw [r2, c3]
      cases e : a.1 with
      | false => rfl
      | true =>
        have e3 := h2 rfl e
        rw [c4] at e3
        simp [e3]
  refine Res.of_eq (key (a.1 && !decide (c.2.data.toList = [])) (fun h => ?_) (fun h h' => ?_)) (fun k => by cases a.1 <;> rfl)
  · simp only [Bool.and_eq_true, Bool.not_eq_true', decide_eq_false_iff_not] at h
    exact ⟨h.1, fun e => h.2 ((nat_ne c2).2 e)⟩
  · rw [h'] at h
    simp only [Bool.true_and, Bool.not_eq_false', decide_eq_true_eq] at h
    exact (nat_ne c2).1 h
theorem rfloorI (a : Bool × ByteArray) (b : ByteArray) (ha : Int_ a) (hb : Nat_ b) (h0 : nv b ≠ 0) (sa : a.2.size ≤ 17179869184) (sb : b.size ≤ 17179869184) : Res (fun k => galoisref02_DivMod k a (false, b)) fun c => Int_ c.1 ∧ iv c.1 = iv a / nv b := by
  have hpos := nat_pos h0
  rw [floor_iv ha hpos]
  unfold galoisref02_DivMod galoisref02_DivMod.top
  refine Res.bind (rdivmod_ok a.2 b (by omega) (by omega) h0) fun c hc => ?_
  obtain ⟨c1, c2, c3, c4⟩ := hc
  simp only [beq_nil]
  have q0 : 0 ≤ nv a.2 / nv b := Int.ediv_nonneg (nv_nonneg _) (by omega)
  have key : ∀ t : Bool, (t = true → a.1 = true ∧ nv c.2 ≠ 0) → (t = false → a.1 = true → nv c.2 = 0) → Res (fun k => galoisref02_DivMod.l0 k k c.1 c.2 t a (false, b) (false, (⟨#[]⟩ : ByteArray)) (false, (⟨#[]⟩ : ByteArray))) fun r => Int_ r.1 ∧ iv r.1 = if a.1 = true then (if nv a.2 % nv b = 0 then -(nv a.2 / nv b) else -(nv a.2 / nv b + 1)) else nv a.2 / nv b := by
    intro t h1 h2
    refine Res2.diag (f := fun k n => galoisref02_DivMod.l0 k n c.1 c.2 t a (false, b) (false, (⟨#[]⟩ : ByteArray)) (false, (⟨#[]⟩ : ByteArray))) (Res2.succ (g := fun k _ => galoisref02_DivMod.b0 k c.1 c.2 t a (false, b) (false, (⟨#[]⟩ : ByteArray)) (false, (⟨#[]⟩ : ByteArray))) (fun k n => rfl) ?_)
    cases t with
    | true =>
      obtain ⟨e1, e2⟩ := h1 rfl
      simp only [galoisref02_DivMod.b0, cond_true]
      refine Res2.call (rof_ok 1 (by decide) (by decide)) fun o ho => ?_
      have os : o.size ≤ 1 := size_of_lt ho.1 (by rw [ho.2]; omega)
      have cs : c.1.size ≤ a.2.size := size_le c1 (by rw [c3]; exact Int.ediv_le_self _ (nv_nonneg _))
      have rs : c.2.size ≤ b.size := size_le c2 (by rw [c4]; exact Int.le_of_lt (Int.emod_lt_of_pos _ hpos))
      refine Res2.call (radd_ok c.1 o (by omega) (by omega)) fun s hs => ?_
      refine Res2.call (rsub_ok b c.2 (by omega) (by omega) hb c2 (by rw [c4]; exact Int.le_of_lt (Int.emod_lt_of_pos _ hpos))) fun u hu => ?_
      obtain ⟨r, _, r0, r1, r2, r3⟩ := make_ok (!(a.1 == false)) s hs.1
      simp only [r0, Option.bind_some]
      refine Res2.pure ⟨r1, ?_⟩
      rw [c4] at e2
      rw [r2, hs.2, c3, ho.2, e1]
      simp [e2]
    | false =>
      simp only [galoisref02_DivMod.b0, cond_false]
      obtain ⟨r, _, r0, r1, r2, r3⟩ := make_ok (!(a.1 == false)) c.1 c1
      simp only [r0, Option.bind_some]
      refine Res2.pure ⟨r1, ?_⟩
      rw [r2, c3]
      cases e : a.1 with
      | false => rfl
      | true =>
        have e3 := h2 rfl e
        rw [c4] at e3
        simp [e3]
  refine Res.of_eq (key (a.1 && !decide (c.2.data.toList = [])) (fun h => ?_) (fun h h' => ?_)) (fun k => by cases a.1 <;> rfl)
  · simp only [Bool.and_eq_true, Bool.not_eq_true', decide_eq_false_iff_not] at h
    exact ⟨h.1, fun e => h.2 ((nat_ne c2).2 e)⟩
  · rw [h'] at h
    simp only [Bool.true_and, Bool.not_eq_false', decide_eq_true_eq] at h
    exact (nat_ne c2).1 h
theorem floorQ (hx : RQ p x) (sx : Sz m p) (hm : m ≤ 8589934592) : Res (fun k => exact_Floor k x) fun c => Int_ c ∧ iv c = p.floor := by
  have z := hx.size sx
  unfold exact_Floor
  refine Res.bind (floorI x.1 x.2 hx.1.1.1 hx.1.1.2.1 hx.1.1.2.2 (by omega) (by omega)) fun c hc => ?_
  exact Res.pure ⟨hc.1, by rw [hc.2, hx.num.1, hx.num.2, Rat.floor_def]⟩
theorem rfloorQ (hx : RQ p x) (sx : Sz m p) (hm : m ≤ 8589934592) : Res (fun k => galoisref03_Floor k x) fun c => Int_ c ∧ iv c = p.floor := by
  have z := hx.size sx
  unfold galoisref03_Floor
  simp only [galoisref03_denominator, Option.bind_some]
  refine Res.bind (rfloorI x.1 x.2 hx.1.1.1 hx.1.1.2.1 hx.1.1.2.2 (by omega) (by omega)) fun c hc => ?_
  exact Res.pure ⟨hc.1, by rw [hc.2, hx.num.1, hx.num.2, Rat.floor_def]⟩

theorem bz_zeros (l : Nat) : bz (List.replicate l 0) = 0 := by
  induction l with
  | zero => rfl
  | succ l ih => rw [List.replicate_succ, bz_cons, ih]; simp
theorem natTwo_ok (n : Nat) (h : n ≤ 1099511627776) : ∃ c, exact_NatTwo (n : Int) = some c ∧ galoisref01_TwoTo (n : Int) = some c ∧ Nat_ c ∧ nv c = 2 ^ n := by
  have hm : n % 8 < 8 := Nat.mod_lt _ (by omega)
  have hp : (2 : Int) ^ (n % 8) = ((2 ^ (n % 8) : Nat) : Int) := by push_cast; rfl
  have h1 : 2 ^ (n % 8) ≤ 2 ^ 7 := Nat.pow_le_pow_right (by omega) (by omega)
  have h2 : 0 < 2 ^ (n % 8) := Nat.pow_pos (by omega)
  have e1 : Int.tdiv (n : Int) 8 = ((n / 8 : Nat) : Int) := by rw [td _ _ (by omega)]; omega
  have e2 : Int.tmod (n : Int) 8 = ((n % 8 : Nat) : Int) := by rw [tm _ _ (by omega)]; omega
  have e3 : IntKind.wrap .i64 ((n / 8 : Nat) : Int) = ((n / 8 : Nat) : Int) := wi _ (by omega) (by omega)
  have e4 : IntKind.wrap .i64 (((n / 8 : Nat) : Int) + 1) = ((n / 8 + 1 : Nat) : Int) := by rw [wi _ (by omega) (by omega)]; omega
  have e5 : IntKind.wrap .u8 (1 * 2 ^ (n % 8)) = 2 ^ (n % 8) := by rw [Int.one_mul, wb, Int.emod_eq_of_lt (by omega) (by omega)]
  have m1 : min (n % 8) 8 = n % 8 := by omega
  have main : exact_NatTwo (n : Int) = some (strOf ((2 : Int) ^ (n % 8) :: List.replicate (n / 8) 0)) := by
    unfold exact_NatTwo
    simp only [e1, e2, e3, e4, Int.toNat_natCast, m1, e5, List.length_replicate]
    rw [if_pos (by omega), if_pos (by omega), if_neg (by omega), if_pos (by omega)]
    rfl
  have hd : (strOf ((2 : Int) ^ (n % 8) :: List.replicate (n / 8) 0)).data.toList = UInt8.ofNat (2 ^ (n % 8)) :: List.replicate (n / 8) 0 := by
    have ht : ((2 : Int) ^ (n % 8)).toNat = 2 ^ (n % 8) := by rw [hp]; exact Int.toNat_natCast _
    simp [strOf, ht]
  have hb : (UInt8.ofNat (2 ^ (n % 8))).toNat = 2 ^ (n % 8) := by rw [UInt8.toNat_ofNat', Nat.mod_eq_of_lt (by omega)]
  refine ⟨_, main, main, ?_, ?_⟩
  · show Nrm _
    rw [hd]
    intro e
    have e' : UInt8.ofNat (2 ^ (n % 8)) = 0 := by simpa using e
    rw [e'] at hb
    simp at hb
    omega
  · show bz _ = _
    rw [hd, bz_cons, bz_zeros, hb, List.length_replicate, ← hp, show (256 : Int) = 2 ^ 8 from rfl, ← Int.pow_mul, ← Int.pow_add, Int.add_zero]
    congr 1; omega
theorem twoQ_aux {n : Nat} {c : ByteArray} (h3 : Nat_ c) (h4 : nv c = 2 ^ n) : RQ (((2 ^ n : Nat) : Int) : Rat) ((false, c), (⟨#[1]⟩ : ByteArray)) :=
  intQ (den_int h3) (show nv c = _ by rw [h4]; push_cast; rfl)
theorem sz_two (n : Nat) : Sz (n / 8 + 1) (((2 ^ n : Nat) : Int) : Rat) := by
  refine Sz.int ?_ (by omega)
  have h : 2 ^ n < 2 ^ (8 * (n / 8 + 1)) := Nat.pow_lt_pow_right (by omega) (by omega)
  rw [Nat.pow_mul] at h
  have e : ((2 ^ 8 : Nat) ^ (n / 8 + 1) : Nat) = (256 ^ (n / 8 + 1) : Nat) := rfl
  rw [e] at h
  have : (((256 : Nat) ^ (n / 8 + 1) : Nat) : Int) = (256 : Int) ^ (n / 8 + 1) := Int.natCast_pow 256 (n / 8 + 1)
  rw [← this, Int.natAbs_natCast]
  omega
theorem exactTwoQ (n : Nat) (h : n ≤ 1099511627776) : Res (fun k => exact_Two k (n : Int)) (RQ (((2 ^ n : Nat) : Int) : Rat)) := by
  obtain ⟨c, h1, h2, h3, h4⟩ := natTwo_ok n h
  unfold exact_Two
  simp only [bn (show ¬ ((n : Int) < 0) by omega), h1, Option.bind_some]
  exact Res.pure (twoQ_aux h3 h4)
theorem rTwoQ (n : Nat) (h : n ≤ 1099511627776) : ∃ y, galoisref19_Two (n : Int) = some y ∧ RQ (((2 ^ n : Nat) : Int) : Rat) y := by
  obtain ⟨c, h1, h2, h3, h4⟩ := natTwo_ok n h
  exact ⟨_, by rw [galoisref19_Two, h2]; rfl, twoQ_aux h3 h4⟩

theorem invQ (hx : RQ p x) (h0 : p ≠ 0) : ∃ y, exact_Inverse x = some y ∧ galoisref03_Inverse x = some y ∧ RQ p⁻¹ y := by
  have hn : p.num ≠ 0 := fun e => h0 (Rat.num_eq_zero.1 e)
  have hnv : nv x.1.2 ≠ 0 := by rw [hx.abs]; omega
  obtain ⟨⟨⟨ix, dx, nx⟩, hg⟩, rfl⟩ := hx
  refine ⟨((x.1.1, x.2), x.1.2), rfl, ?_, ⟨⟨⟨dx, fun _ => nx⟩, ix.1, hnv⟩, ?_⟩, ?_⟩
  · have hne : x.1.2.data.toList ≠ [] := fun e => hnv ((nat_ne ix.1).1 e)
    unfold galoisref03_Inverse
    rw [beq_nil, decide_eq_false hne]; rfl
  · show Int.gcd (nv x.2) (nv x.1.2) = 1
    rw [Int.gcd_comm]; exact hg
  · show Rat.divInt (iv (x.1.1, x.2)) (nv x.1.2) = (Rat.divInt (iv x.1) (nv x.2))⁻¹
    rw [Rat.inv_divInt, iv_sg x.1, iv_sg (x.1.1, x.2)]
    simp only
    have hs := sg_sq x.1.1
    have hs0 : sg x.1.1 ≠ 0 := by unfold sg; split <;> decide
    rw [← Rat.divInt_mul_left hs0 (n := sg x.1.1 * nv x.2), ← Int.mul_assoc, hs, Int.one_mul]
theorem divQ (hx : RQ p x) (hy : RQ q y) (h0 : q ≠ 0) (sx : Sz m p) (sy : Sz m' q) (hm : m ≤ 8589934592) (hm' : m' ≤ 8589934592) : Res (fun k => exact_Div k x y) (RQ (p / q)) := by
  obtain ⟨z, h1, _, h2⟩ := invQ hy h0
  rw [Rat.div_def]
  refine Res.of_eq (mulQ hx h2 sx (sy.inv h0) hm hm') fun k => by simp only [exact_Div, h1, Option.bind_some, Option.bind_fun_some]
theorem rdivQ (hx : RQ p x) (hy : RQ q y) (h0 : q ≠ 0) (sx : Sz m p) (sy : Sz m' q) (hm : m ≤ 8589934592) (hm' : m' ≤ 8589934592) : Res (fun k => galoisref03_Div k x y) (RQ (p / q)) := by
  obtain ⟨z, _, h1, h2⟩ := invQ hy h0
  rw [Rat.div_def]
  refine Res.of_eq (rmulQ hx h2 sx (sy.inv h0) hm hm') fun k => by simp only [galoisref03_Div, h1, Option.bind_some, Option.bind_fun_some]
end
end Go.Proofs.YthghchjbomlpfaaGreat.Ev

namespace Go.Proofs.YthghchjbomlpfaaGreat.Ev
set_option linter.unusedVariables false

def fst2 (a b : Int) : Int := if a = 0 then b else a

theorem first2_ok (a b : Int) : Evt (fun k => enclosure_first k [a, b]) (fst2 a b) := by
  refine ⟨3, fun n hn => ?_⟩
  obtain ⟨m, rfl⟩ : ∃ m, n = m + 1 + 1 + 1 := ⟨n - 3, by omega⟩
  have e1 : IntKind.wrap .i64 ((0 : Int) + 1) = 1 := by rw [wi _ (by omega) (by omega)]; rfl
  have e2 : IntKind.wrap .i64 ((1 : Int) + 1) = 2 := by rw [wi _ (by omega) (by omega)]; rfl
  show enclosure_first.l0 (m + 1 + 1 + 1) (2 : Int) 0 [a, b] = _
  simp only [enclosure_first.l0, enclosure_first.b0, e1, e2, List.length_cons, List.length_nil]
  unfold fst2
  have g0 : List.getD [a, b] (Int.toNat 0) 0 = a := rfl
  have g1 : List.getD [a, b] (Int.toNat 1) 0 = b := rfl
  rw [bp (by omega), if_pos (by omega), g0]
  by_cases ha : a = 0
  · rw [bnp ha, if_pos ha, bp (by omega), if_pos (by omega), g1]
    by_cases hb : b = 0
    · rw [bnp hb, bn (by omega), hb]
    · rw [bnn hb]
  · rw [bnn ha, if_neg ha]

abbrev RatT := (Bool × ByteArray) × ByteArray
abbrev IvT := RatT × RatT

def chkE (i : IvT) : Int :=
  if ratE i.1 ≠ 0 then ratE i.1 else if ratE i.2 ≠ 0 then ratE i.2 else
    if dy i.1.2.data.toList = true ∧ dy i.2.2.data.toList = true then (if 0 < cmp (iv i.1.1 * nv i.2.2) (iv i.2.1 * nv i.1.2) then 3 else 0) else 1

theorem ratE_rat {x : RatT} (h : ratE x = 0) : Rat_ x ∧ Small x ∧ x.2.size ≤ 1099511627776 := by
  obtain ⟨h1, h2, h3, _⟩ := ratE_zero h
  exact ⟨h1, ⟨by omega, by omega⟩, by omega⟩

theorem check_ok (i : IvT) : Evt (fun k => enclosure_Check k i) (chkE i) := by
  unfold enclosure_Check enclosure_Check.top
  refine Evt.bind (g := fun k t1 => (rational_Check k i.2).bind fun t2 => (enclosure_first k ([t1, t2] : List Int)).bind fun t3 => bif !decide (t3 = 0) then (some t3) else ((enclosure_dyadic i.1).bind fun t4 => bif !t4 then (enclosure_Check.l0 k k true i) else ((enclosure_dyadic i.2).bind fun t6 => enclosure_Check.l0 k k (!t6) i))) (rational_Check_ok i.1) ?_
  refine Evt.bind (g := fun k t2 => (enclosure_first k ([ratE i.1, t2] : List Int)).bind fun t3 => bif !decide (t3 = 0) then (some t3) else ((enclosure_dyadic i.1).bind fun t4 => bif !t4 then (enclosure_Check.l0 k k true i) else ((enclosure_dyadic i.2).bind fun t6 => enclosure_Check.l0 k k (!t6) i))) (rational_Check_ok i.2) ?_
  refine Evt.bind (g := fun k t3 => bif !decide (t3 = 0) then (some t3) else ((enclosure_dyadic i.1).bind fun t4 => bif !t4 then (enclosure_Check.l0 k k true i) else ((enclosure_dyadic i.2).bind fun t6 => enclosure_Check.l0 k k (!t6) i))) (first2_ok (ratE i.1) (ratE i.2)) ?_
  unfold chkE fst2
  by_cases h1 : ratE i.1 = 0
  · rw [if_pos h1, if_neg (by simp [h1])]
    by_cases h2 : ratE i.2 = 0
    · rw [if_neg (by simp [h2])]
      obtain ⟨r1, s1, z1⟩ := ratE_rat h1
      obtain ⟨r2, s2, z2⟩ := ratE_rat h2
      have hf : Evt (fun k => enclosure_Check.l0 k k true i) 1 := by
        refine Evt2.diag (f := fun k n => enclosure_Check.l0 k n true i) (Evt2.succ (g := fun _ _ => some 1) (fun k n => rfl) Evt2.pure)
      have ht : Evt (fun k => enclosure_Check.l0 k k false i) (if 0 < cmp (iv i.1.1 * nv i.2.2) (iv i.2.1 * nv i.1.2) then 3 else 0) := by
        refine Evt2.diag (f := fun k n => enclosure_Check.l0 k n false i) (Evt2.succ (g := fun k _ => (exact_Cmp k i.1 i.2).bind fun t5 => bif decide (0 < t5) then (some 3) else (some 0)) (fun k n => rfl) ?_)
        refine Evt2.call (g := fun _ _ t5 => bif decide (0 < t5) then (some 3) else (some 0)) (ratCmp_ok i.1 i.2 r1 r2 s1 s2) ?_
        by_cases h : 0 < cmp (iv i.1.1 * nv i.2.2) (iv i.2.1 * nv i.1.2)
        · simp only [h, decide_true, cond_true, if_true]; exact Evt2.pure
        · simp only [h, decide_false, cond_false, if_false]; exact Evt2.pure
      simp only [h2, decide_true, Bool.not_true, cond_false, dyadic_ok i.1 z1 r1.2.1 r1.2.2, dyadic_ok i.2 z2 r2.2.1 r2.2.2, Option.bind_some]
      cases d1 : dy i.1.2.data.toList
      · simpa using hf
      · cases d2 : dy i.2.2.data.toList
        · simpa using hf
        · simpa using ht
    · rw [if_pos h2]
      refine Evt.of_eq Evt.pure fun k => by rw [bnn h2]
  · rw [if_neg h1, if_pos h1]
    refine Evt.of_eq Evt.pure fun k => by rw [bnn h1]

theorem rcheckI_ok (i : IvT) : Evt (fun k => galoisref19_Check k i) (chkE i) := by
  unfold galoisref19_Check galoisref19_Check.top
  refine Evt.bind (g := fun k t1 => bif !decide (t1 = 0) then (some t1) else ((galoisref03_Check k i.2).bind fun t2 => bif !decide (t2 = 0) then (some t2) else ((galoisref19_Dyadic k i.1).bind fun t3 => bif !t3 then (galoisref19_Check.l0 k k true i) else ((galoisref19_Dyadic k i.2).bind fun t5 => galoisref19_Check.l0 k k (!t5) i)))) (rcheck_ok i.1) ?_
  unfold chkE
  by_cases h1 : ratE i.1 = 0
  · rw [if_neg (by simp [h1])]
    refine Evt.of_eq (g := fun k => (galoisref03_Check k i.2).bind fun t2 => bif !decide (t2 = 0) then (some t2) else ((galoisref19_Dyadic k i.1).bind fun t3 => bif !t3 then (galoisref19_Check.l0 k k true i) else ((galoisref19_Dyadic k i.2).bind fun t5 => galoisref19_Check.l0 k k (!t5) i))) ?_ (fun k => by rw [bnp h1])
    refine Evt.bind (g := fun k t2 => bif !decide (t2 = 0) then (some t2) else ((galoisref19_Dyadic k i.1).bind fun t3 => bif !t3 then (galoisref19_Check.l0 k k true i) else ((galoisref19_Dyadic k i.2).bind fun t5 => galoisref19_Check.l0 k k (!t5) i))) (rcheck_ok i.2) ?_
    by_cases h2 : ratE i.2 = 0
    · rw [if_neg (by simp [h2])]
      obtain ⟨r1, s1, z1⟩ := ratE_rat h1
      obtain ⟨r2, s2, z2⟩ := ratE_rat h2
      have hf : Evt (fun k => galoisref19_Check.l0 k k true i) 1 := by
        refine Evt2.diag (f := fun k n => galoisref19_Check.l0 k n true i) (Evt2.succ (g := fun _ _ => some 1) (fun k n => rfl) Evt2.pure)
      have ht : Evt (fun k => galoisref19_Check.l0 k k false i) (if 0 < cmp (iv i.1.1 * nv i.2.2) (iv i.2.1 * nv i.1.2) then 3 else 0) := by
        refine Evt2.diag (f := fun k n => galoisref19_Check.l0 k n false i) (Evt2.succ (g := fun k _ => (galoisref03_Compare k i.1 i.2).bind fun t4 => bif decide (0 < t4) then (some 3) else (some 0)) (fun k n => rfl) ?_)
        refine Evt2.call (g := fun _ _ t5 => bif decide (0 < t5) then (some 3) else (some 0)) (rratCmp_ok i.1 i.2 s1 s2) ?_
        by_cases h : 0 < cmp (iv i.1.1 * nv i.2.2) (iv i.2.1 * nv i.1.2)
        · simp only [h, decide_true, cond_true, if_true]; exact Evt2.pure
        · simp only [h, decide_false, cond_false, if_false]; exact Evt2.pure
      simp only [h2, decide_true, Bool.not_true, cond_false]
      refine Evt.bind (g := fun k t3 => bif !t3 then (galoisref19_Check.l0 k k true i) else ((galoisref19_Dyadic k i.2).bind fun t5 => galoisref19_Check.l0 k k (!t5) i)) (rdy_ok i.1 z1) ?_
      cases d1 : dy i.1.2.data.toList
      · simpa using hf
      · refine Evt.of_eq (g := fun k => (galoisref19_Dyadic k i.2).bind fun t5 => galoisref19_Check.l0 k k (!t5) i) ?_ (fun k => rfl)
        refine Evt.bind (g := fun k t5 => galoisref19_Check.l0 k k (!t5) i) (rdy_ok i.2 z2) ?_
        cases d2 : dy i.2.2.data.toList
        · simpa using hf
        · simpa using ht
    · rw [if_pos h2]
      refine Evt.of_eq Evt.pure fun k => by rw [bnn h2]
  · rw [if_pos h1]
    refine Evt.of_eq Evt.pure fun k => by rw [bnn h1]

theorem checkBox_ok (a b : IvT) : Evt (fun k => enclosure_CheckBox k (a, b)) (fst2 (chkE a) (chkE b)) := by
  unfold enclosure_CheckBox
  refine Evt.bind (g := fun k t1 => (enclosure_Check k b).bind fun t2 => (enclosure_first k ([t1, t2] : List Int)).bind fun t3 => some t3) (check_ok a) ?_
  refine Evt.bind (g := fun k t2 => (enclosure_first k ([chkE a, t2] : List Int)).bind fun t3 => some t3) (check_ok b) ?_
  exact Evt.bind (g := fun k t3 => some t3) (first2_ok _ _) Evt.pure

theorem rcheckBox_ok (a b : IvT) : Evt (fun k => galoisref19_CheckBox k (a, b)) (fst2 (chkE a) (chkE b)) := by
  unfold galoisref19_CheckBox fst2
  refine Evt.bind (g := fun k t1 => bif !decide (t1 = 0) then (some t1) else ((galoisref19_Check k b).bind fun t2 => some t2)) (rcheckI_ok a) ?_
  by_cases h1 : chkE a = 0
  · rw [if_pos h1]
    exact Evt.of_eq (Evt.bind (g := fun k t2 => some t2) (rcheckI_ok b) Evt.pure) (fun k => by rw [bnp h1])
  · rw [if_neg h1]
    exact Evt.of_eq Evt.pure (fun k => by rw [bnn h1])
end Go.Proofs.YthghchjbomlpfaaGreat.Ev

namespace Go.Proofs.YthghchjbomlpfaaGreat.Ev
set_option linter.unusedVariables false

abbrev I2 := Rat × Rat
def IQ (m : Nat) (i : I2) (x : IvT) : Prop := RQ i.1 x.1 ∧ RQ i.2 x.2 ∧ Sz m i.1 ∧ Sz m i.2

def two (b : Nat) : Rat := (((2 ^ b : Nat) : Int) : Rat)
def dn (p : Rat) (b : Nat) : Rat := ((p * two b).floor : Rat) / two b
def iAround (p : Rat) (b : Nat) : I2 := (dn p b, -(dn (-p) b))
def iRound (i : I2) (b : Nat) : I2 := (dn i.1 b, -(dn (-i.2) b))
def iAdd (i j : I2) : I2 := (i.1 + j.1, i.2 + j.2)
def iSub (i j : I2) : I2 := (i.1 - j.2, i.2 - j.1)
def iHull (i j : I2) : I2 := (if j.1 < i.1 then j.1 else i.1, if i.2 < j.2 then j.2 else i.2)
def iSpan (a : Rat) (l : List Rat) : I2 := l.foldl (fun o x => iHull o (x, x)) (a, a)
def iMul (i j : I2) : I2 := iSpan (i.1 * j.1) [i.1 * j.2, i.2 * j.1, i.2 * j.2]
def iSquare (i : I2) : I2 := if i.1 ≤ 0 ∧ 0 ≤ i.2 then (0, (iSpan (i.1 * i.1) [i.2 * i.2]).2) else iSpan (i.1 * i.1) [i.2 * i.2]
def iHas (i : I2) (x : Rat) : Prop := i.1 ≤ x ∧ x ≤ i.2
def iZero : I2 := (0, 0)

theorem two_pos (b : Nat) : 0 < two b := Rat.intCast_pos.2 (by have := Nat.pow_pos (n := b) (show 0 < 2 by omega); omega)
theorem two_ne (b : Nat) : two b ≠ 0 := fun e => by have := two_pos b; rw [e] at this; exact Rat.lt_irrefl this
theorem two_inv (b : Nat) (n : Int) : Rat.divInt n ((2 ^ b : Nat) : Int) = (n : Rat) / two b := Rat.divInt_eq_div _ _

section
variable {p q : Rat} {i j : I2} {x y : IvT} {u : RT} {m m' : Nat}
theorem sz_dn (b : Nat) (hb : b ≤ 4096) (h : Sz m p) : Sz (m + 1026) (dn p b) := by
  unfold dn
  have h1 : Sz 513 (two b) := (sz_two b).mono (by omega)
  rw [Rat.div_def]
  exact ((h.mul h1).floor.mul (h1.inv (two_ne b))).mono (by omega)
theorem RQ.mono (h : RQ p u) (e : p = q) : RQ q u := e ▸ h

theorem downQ (b : Nat) (hb : b ≤ 4096) (hx : RQ p u) (sx : Sz m p) (hm : m ≤ 4294967296) : Res (fun k => ival_down k u (b : Int)) (RQ (dn p b)) := by
  obtain ⟨c, h1, _, h3, h4⟩ := natTwo_ok b (by omega)
  have st : Sz 513 (two b) := (sz_two b).mono (by omega)
  unfold ival_down
  refine Res.bind (exactTwoQ b (by omega)) fun t ht => ?_
  refine Res.bind (mulQ hx ht sx st (by omega) (by omega)) fun r hr => ?_
  have sr := sx.mul st
  refine Res.bind (floorQ hr sr (by omega)) fun f hf => ?_
  simp only [h1, Option.bind_some]
  have z1 : f.2.size ≤ m + 513 := int_size hf.1 (by rw [hf.2]; exact sr.floor.1)
  have z2 : c.size ≤ 513 := size_of_lt h3 (by rw [h4]; have := st.1; exact this)
  have h4' : nv c = ((2 ^ b : Nat) : Int) := by rw [h4]; push_cast; rfl
  refine Res.bind (mk_ok f (false, c) hf.1 (den_int h3) (by show nv c ≠ 0; rw [h4']; have := Nat.pow_pos (n := b) (show 0 < 2 by omega); omega) (by unfold Int2; omega) (by unfold Int2; show c.size ≤ _; omega)) fun s hs => ?_
  refine Res.pure ⟨hs.1, ?_⟩
  rw [hs.2, hf.2]
  show Rat.divInt _ (nv c) = _
  rw [h4', two_inv]; rfl
theorem rdownQ (b : Nat) (hb : b ≤ 4096) (hx : RQ p u) (sx : Sz m p) (hm : m ≤ 4294967296) : Res (fun k => galoisref19_Down k u (b : Int)) (RQ (dn p b)) := by
  have st : Sz 513 (two b) := (sz_two b).mono (by omega)
  obtain ⟨t, h1, ht⟩ := rTwoQ b (by omega)
  unfold galoisref19_Down
  simp only [h1, Option.bind_some]
  refine Res.bind (rmulQ hx ht sx st (by omega) (by omega)) fun r hr => ?_
  have sr := sx.mul st
  refine Res.bind (rfloorQ hr sr (by omega)) fun f hf => ?_
  simp only [galoisref03_Whole, Option.bind_some, Option.bind_fun_some]
  exact rdivQ (intQ hf.1 hf.2) ht (two_ne b) sr.floor st (by omega) (by omega)
theorem rupQ (b : Nat) (hb : b ≤ 4096) (hx : RQ p u) (sx : Sz m p) (hm : m ≤ 4294967296) : Res (fun k => galoisref19_Up k u (b : Int)) (RQ (-(dn (-p) b))) := by
  obtain ⟨v, _, h1, hv⟩ := negQ hx
  unfold galoisref19_Up
  simp only [h1, Option.bind_some]
  refine Res.bind (rdownQ b hb hv sx.neg hm) fun w hw => ?_
  obtain ⟨z, _, h2, hz⟩ := negQ hw
  exact Res.of_some (by rw [h2]; rfl) hz
theorem aroundQ (b : Nat) (hb : b ≤ 4096) (hx : RQ p u) (sx : Sz m p) (hm : m ≤ 4294967296) : Res (fun k => ival_Around k u (b : Int)) (IQ (m + 1026) (iAround p b)) := by
  obtain ⟨v, h1, _, hv⟩ := negQ hx
  unfold ival_Around
  refine Res.bind (downQ b hb hx sx hm) fun l hl => ?_
  simp only [h1, Option.bind_some]
  refine Res.bind (downQ b hb hv sx.neg hm) fun w hw => ?_
  obtain ⟨z, h2, _, hz⟩ := negQ hw
  exact Res.of_some (r := (l, z)) (by rw [h2]; rfl) ⟨hl, hz, sz_dn b hb sx, (sz_dn b hb sx.neg).neg⟩
theorem raroundQ (b : Nat) (hb : b ≤ 4096) (hx : RQ p u) (sx : Sz m p) (hm : m ≤ 4294967296) : Res (fun k => galoisref19_Around k u (b : Int)) (IQ (m + 1026) (iAround p b)) := by
  unfold galoisref19_Around
  refine Res.bind (rdownQ b hb hx sx hm) fun l hl => ?_
  refine Res.bind (rupQ b hb hx sx hm) fun h hh => ?_
  exact Res.of_some rfl ⟨hl, hh, sz_dn b hb sx, (sz_dn b hb sx.neg).neg⟩
theorem roundQ (b : Nat) (hb : b ≤ 4096) (hx : IQ m i x) (hm : m ≤ 4294967296) : Res (fun k => ival_Round k x (b : Int)) (IQ (m + 1026) (iRound i b)) := by
  obtain ⟨x1, x2, s1, s2⟩ := hx
  obtain ⟨v, h1, _, hv⟩ := negQ x2
  unfold ival_Round
  refine Res.bind (downQ b hb x1 s1 hm) fun l hl => ?_
  simp only [h1, Option.bind_some]
  refine Res.bind (downQ b hb hv s2.neg hm) fun w hw => ?_
  obtain ⟨z, h2, _, hz⟩ := negQ hw
  exact Res.of_some (r := (l, z)) (by rw [h2]; rfl) ⟨hl, hz, sz_dn b hb s1, (sz_dn b hb s2.neg).neg⟩
theorem rroundQ (b : Nat) (hb : b ≤ 4096) (hx : IQ m i x) (hm : m ≤ 4294967296) : Res (fun k => galoisref19_Round k x (b : Int)) (IQ (m + 1026) (iRound i b)) := by
  obtain ⟨x1, x2, s1, s2⟩ := hx
  unfold galoisref19_Round
  refine Res.bind (rdownQ b hb x1 s1 hm) fun l hl => ?_
  refine Res.bind (rupQ b hb x2 s2 hm) fun h hh => ?_
  exact Res.of_some rfl ⟨hl, hh, sz_dn b hb s1, (sz_dn b hb s2.neg).neg⟩

theorem ivAddQ (hx : IQ m i x) (hy : IQ m' j y) (hm : m ≤ 4294967296) (hm' : m' ≤ 4294967296) : Res (fun k => ival_Add k x y) (IQ (m + m' + 1) (iAdd i j)) := by
  obtain ⟨x1, x2, s1, s2⟩ := hx
  obtain ⟨y1, y2, t1, t2⟩ := hy
  unfold ival_Add
  refine Res.bind (addQ x1 y1 s1 t1 (by omega) (by omega)) fun l hl => ?_
  refine Res.bind (addQ x2 y2 s2 t2 (by omega) (by omega)) fun h hh => ?_
  exact Res.pure ⟨hl, hh, s1.add t1, s2.add t2⟩
theorem rivAddQ (hx : IQ m i x) (hy : IQ m' j y) (hm : m ≤ 4294967296) (hm' : m' ≤ 4294967296) : Res (fun k => galoisref19_Add k x y) (IQ (m + m' + 1) (iAdd i j)) := by
  obtain ⟨x1, x2, s1, s2⟩ := hx
  obtain ⟨y1, y2, t1, t2⟩ := hy
  unfold galoisref19_Add
  refine Res.bind (raddQ x1 y1 s1 t1 (by omega) (by omega)) fun l hl => ?_
  refine Res.bind (raddQ x2 y2 s2 t2 (by omega) (by omega)) fun h hh => ?_
  exact Res.of_some rfl ⟨hl, hh, s1.add t1, s2.add t2⟩
theorem ivNegQ (hx : IQ m i x) : ∃ y, ival_Neg x = some y ∧ IQ m (-i.2, -i.1) y := by
  obtain ⟨x1, x2, s1, s2⟩ := hx
  obtain ⟨a, a1, _, a2⟩ := negQ x1
  obtain ⟨b, b1, _, b2⟩ := negQ x2
  exact ⟨(b, a), by rw [ival_Neg, b1, Option.bind_some, a1]; rfl, b2, a2, s2.neg, s1.neg⟩
theorem ivSubQ (hx : IQ m i x) (hy : IQ m' j y) (hm : m ≤ 4294967296) (hm' : m' ≤ 4294967296) : Res (fun k => ival_Sub k x y) (IQ (m + m' + 1) (iSub i j)) := by
  obtain ⟨z, h1, hz⟩ := ivNegQ hy
  unfold ival_Sub
  simp only [h1, Option.bind_some, Option.bind_fun_some]
  have e : iSub i j = iAdd i (-j.2, -j.1) := by unfold iSub iAdd; rw [Rat.sub_eq_add_neg, Rat.sub_eq_add_neg]
  rw [e]
  exact ivAddQ hx hz hm hm'
theorem rivSubQ (hx : IQ m i x) (hy : IQ m' j y) (hm : m ≤ 4294967296) (hm' : m' ≤ 4294967296) : Res (fun k => galoisref19_Sub k x y) (IQ (m + m' + 1) (iSub i j)) := by
  obtain ⟨x1, x2, s1, s2⟩ := hx
  obtain ⟨y1, y2, t1, t2⟩ := hy
  unfold galoisref19_Sub
  refine Res.bind (rsubQ x1 y2 s1 t2 (by omega) (by omega)) fun l hl => ?_
  refine Res.bind (rsubQ x2 y1 s2 t1 (by omega) (by omega)) fun h hh => ?_
  exact Res.of_some rfl ⟨hl, hh, s1.sub t2, s2.sub t1⟩

theorem ite_RQ {P : Prop} [Decidable P] {a b : RT} (ha : RQ p a) (hb : RQ q b) : RQ (if P then p else q) (if P then a else b) := by split <;> assumption
theorem ite_Sz {P : Prop} [Decidable P] (ha : Sz m p) (hb : Sz m q) : Sz m (if P then p else q) := by split <;> assumption
theorem IQ.point (h : RQ p u) (s : Sz m p) : IQ m (p, p) (u, u) := ⟨h, h, s, s⟩
theorem hullQ (hx : IQ m i x) (hy : IQ m j y) (hm : m ≤ 8589934592) : Res (fun k => ival_Hull k x y) (IQ m (iHull i j)) := by
  obtain ⟨x1, x2, s1, s2⟩ := hx
  obtain ⟨y1, y2, t1, t2⟩ := hy
  unfold ival_Hull ival_Hull.top
  refine Res.bind (lessQ y1 x1 t1 s1 hm hm).res fun b hb => ?_
  subst hb
  have key : Res (fun k => ival_Hull.l0 k k ((if j.1 < i.1 then y.1 else x.1), x.2) y (((false, (⟨#[]⟩ : ByteArray)), (⟨#[]⟩ : ByteArray)), ((false, (⟨#[]⟩ : ByteArray)), (⟨#[]⟩ : ByteArray)))) (IQ m (iHull i j)) := by
    refine Res2.diag (f := fun k n => ival_Hull.l0 k n ((if j.1 < i.1 then y.1 else x.1), x.2) y (((false, (⟨#[]⟩ : ByteArray)), (⟨#[]⟩ : ByteArray)), ((false, (⟨#[]⟩ : ByteArray)), (⟨#[]⟩ : ByteArray)))) (Res2.succ (g := fun k _ => ival_Hull.b0 k ((if j.1 < i.1 then y.1 else x.1), x.2) y (((false, (⟨#[]⟩ : ByteArray)), (⟨#[]⟩ : ByteArray)), ((false, (⟨#[]⟩ : ByteArray)), (⟨#[]⟩ : ByteArray)))) (fun k n => rfl) ?_)
    unfold ival_Hull.b0
    refine Res2.call (lessQ x2 y2 s2 t2 hm hm).res fun b hb => ?_
    subst hb
    refine Res2.of_eq (Res2.pure (r := ((if j.1 < i.1 then y.1 else x.1), (if i.2 < j.2 then y.2 else x.2))) ⟨ite_RQ y1 x1, ite_RQ y2 x2, ite_Sz t1 s1, ite_Sz t2 s2⟩) fun k n => ?_
    by_cases h : i.2 < j.2
    · simp only [bp h, if_pos h]
    · simp only [bn h, if_neg h]
  refine Res.of_eq key fun k => ?_
  by_cases h : j.1 < i.1
  · simp only [bp h, if_pos h]
  · simp only [bn h, if_neg h]

end
end Go.Proofs.YthghchjbomlpfaaGreat.Ev
