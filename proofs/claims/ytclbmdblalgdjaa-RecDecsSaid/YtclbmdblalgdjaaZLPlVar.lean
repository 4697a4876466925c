/- Plain laws of numbers as bytes; no program in sight; no condition. -/
import Derived.Test.YtclbmdblalgdjaaZLLawDec
import Derived.Laws.BitsAllLaws
import Derived.WalkSmall
namespace Go.Proofs.Ytclbmdblalgdjaa
open Go.RowKit Go.Proofs.YtclbmdblalgdjaaW.PrintWords
def vput (n : Nat) : List Int := if h : n < 128 then [(n : Int)] else (((n % 128 + 128 : Nat) : Int)) :: vput (n / 128)
termination_by n
decreasing_by omega
theorem vput_lt {n : Nat} (h : n < 128) : vput n = [(n : Int)] := by rw [vput, dif_pos h]
theorem vput_ge {n : Nat} (h : ¬ n < 128) : vput n = (((n % 128 + 128 : Nat) : Int)) :: vput (n / 128) := by rw [vput, dif_neg h]
theorem bits_or_u8_128 (x : Int) (h0 : 0 ≤ x) (h1 : x < 256) : bits .or .u8 x 128 = x % 128 + 128 := by
  obtain ⟨n, rfl⟩ := Int.eq_ofNat_of_zero_le h0
  have h : ∀ n : Fin 256, bits .or .u8 (n.val : Int) 128 = (n.val : Int) % 128 + 128 := by decide +kernel
  exact h ⟨n, by omega⟩
theorem bits_and_u8_127 (x : Int) (h0 : 0 ≤ x) (h1 : x < 256) : bits .and .u8 x 127 = x % 128 := by
  obtain ⟨n, rfl⟩ := Int.eq_ofNat_of_zero_le h0
  have h : ∀ n : Fin 256, bits .and .u8 (n.val : Int) 127 = (n.val : Int) % 128 := by decide +kernel
  exact h ⟨n, by omega⟩
theorem vput_len (k : Nat) : ∀ n : Nat, n < 128 ^ (k + 1) → (vput n).length ≤ k + 1 := by
  induction k with
  | zero => intro n h; rw [vput_lt (by omega)]; simp
  | succ k ih =>
    intro n h
    by_cases hl : n < 128
    · rw [vput_lt hl]; simp
    · rw [vput_ge hl]
      have := ih (n / 128) (by rw [Nat.pow_succ] at h; omega)
      simp; omega
theorem vput_len10 (n : Nat) (h : n < 18446744073709551616) : (vput n).length ≤ 10 := vput_len 9 n (Nat.lt_of_lt_of_le h (by decide))
theorem vput_round {done : List Int} {m n : Nat} (h : done ++ vput m = vput n) (hg : ¬ m < 128) : (done ++ [bits .or .u8 ((m : Int) % 256) 128]) ++ vput (m / 128) = vput n := by
  rw [← h, vput_ge hg, bits_or_u8_128 _ (by omega) (by omega)]
  have e : (m : Int) % 256 % 128 + 128 = (((m % 128 + 128 : Nat)) : Int) := by omega
  rw [e]
  simp
theorem vput_round2 {done : List Int} {m n : Nat} (h : done ++ vput m = vput n) (hg : ¬ m < 128) : (done ++ [(m : Int) % 128 + 128]) ++ vput (m / 128) = vput n := by
  rw [← vput_round h hg, bits_or_u8_128 _ (by omega) (by omega)]
  have e : (m : Int) % 256 % 128 = (m : Int) % 128 := by omega
  rw [e]
theorem vput_done {done : List Int} {m n : Nat} (h : done ++ vput m = vput n) (hn : n < 18446744073709551616) : done.length < 140737488355328 := by
  have h1 := vput_len10 n hn
  rw [← h, List.length_append] at h1
  omega
def vrd : List Int → Nat → Nat → Nat × Nat × Int
  | [], i, _ => (0, i, 13)
  | b :: t, i, n =>
    if i = 9 ∧ 1 < b then (0, i + 1, 10)
    else if b < 128 then (if b = 0 ∧ 0 < i then (0, i + 1, 21) else (n + b.toNat % 128 * 128 ^ i, i + 1, 0))
    else vrd t (i + 1) (n + b.toNat % 128 * 128 ^ i)
theorem vrd_at {l : List Int} {i n : Nat} {b : Int} (hlt : i < l.length) (hb : b = l.getD i 0) : vrd (l.drop i) i n =
    (if i = 9 ∧ 1 < b then (0, i + 1, 10) else if b < 128 then (if b = 0 ∧ 0 < i then (0, i + 1, 21) else (n + b.toNat % 128 * 128 ^ i, i + 1, 0)) else vrd (l.drop (i + 1)) (i + 1) (n + b.toNat % 128 * 128 ^ i)) := by
  rw [List.drop_eq_getElem_cons hlt, vrd]
  have e : l[i] = b := by rw [hb, List.getD_eq_getElem?_getD, List.getElem?_eq_getElem hlt]; rfl
  rw [e]
theorem vrd_end (l : List Int) (i n : Nat) (h : l.length ≤ i) : vrd (l.drop i) i n = (0, i, 13) := by
  rw [List.drop_eq_nil_of_le h, vrd]
theorem wrap_u64_nat {d : Nat} (h : d < 18446744073709551616) : IntKind.u64.wrap (d : Int) = (d : Int) := IntWalk.u64_in _ (by omega)
theorem vor_step {n i : Nat} {b : Int} (hn : n < 128 ^ i) (hi : i ≤ 9) (hb0 : 0 ≤ b) (hb1 : b < 256) (h9 : i = 9 → b ≤ 1) :
    bits .or .u64 (n : Int) (IntKind.u64.wrap (IntKind.u64.wrap (bits .and .u8 b 127) * 2 ^ (7 * i))) = ((n + b.toNat % 128 * 128 ^ i : Nat) : Int) := by
  rw [bits_and_u8_127 b hb0 hb1]
  obtain ⟨c, rfl⟩ := Int.eq_ofNat_of_zero_le hb0
  have ec : ((c : Int) % 128) = ((c % 128 : Nat) : Int) := by omega
  have e2 : ((2 : Int) ^ (7 * i)) = ((128 ^ i : Nat) : Int) := by
    rw [show 128 ^ i = 2 ^ (7 * i) from by rw [Nat.pow_mul], Int.natCast_pow]
    rfl
  have w1 : IntKind.u64.wrap ((c % 128 : Nat) : Int) = ((c % 128 : Nat) : Int) := by
    have h : c % 128 < 128 := Nat.mod_lt _ (by decide)
    exact wrap_u64_nat (by omega)
  have hp : c % 128 * 128 ^ i < 18446744073709551616 := by
    rcases Nat.lt_or_ge i 9 with h | h
    · have h1 : 128 ^ i ≤ 128 ^ 8 := Nat.pow_le_pow_right (by decide) (by omega)
      have h2 : c % 128 < 128 := Nat.mod_lt _ (by decide)
      have h3 : c % 128 * 128 ^ i ≤ 127 * 128 ^ 8 := Nat.mul_le_mul (by omega) h1
      exact Nat.lt_of_le_of_lt h3 (by decide)
    · have e : i = 9 := by omega
      subst e
      have := h9 rfl
      have h3 : c % 128 * 128 ^ 9 ≤ 1 * 128 ^ 9 := Nat.mul_le_mul (by omega) (Nat.le_refl _)
      exact Nat.lt_of_le_of_lt h3 (by decide)
  have hn2 : n < 18446744073709551616 := by
    have h1 : 128 ^ i ≤ 128 ^ 9 := Nat.pow_le_pow_right (by decide) hi
    exact Nat.lt_of_lt_of_le hn (Nat.le_trans h1 (by decide))
  rw [ec, w1, e2, ← Int.natCast_mul]
  have w2 : IntKind.u64.wrap ((c % 128 * 128 ^ i : Nat) : Int) = ((c % 128 * 128 ^ i : Nat) : Int) := by
    exact wrap_u64_nat hp
  rw [w2, u64_or_nat _ _ hn2 hp]
  congr 1
  have e3 : 128 ^ i = 2 ^ (7 * i) := by rw [Nat.pow_mul]
  rw [Int.toNat_natCast, e3, Nat.mul_comm, Nat.or_comm, ← Nat.two_pow_add_eq_or_of_lt (by rw [← e3]; exact hn), Nat.add_comm]
theorem vor_bound {n i : Nat} (c : Nat) (hn : n < 128 ^ i) : n + c % 128 * 128 ^ i < 128 ^ (i + 1) := by
  have h : c % 128 ≤ 127 := by omega
  have h2 : c % 128 * 128 ^ i ≤ 127 * 128 ^ i := Nat.mul_le_mul h (Nat.le_refl _)
  rw [Nat.pow_succ]
  omega
/-! signs -/
def zigN (n : Int) : Nat := if n < 0 then (-2 * n - 1).toNat else (2 * n).toNat
def zagZ (m : Nat) : Int := if m % 2 = 1 then -((m / 2 : Nat) : Int) - 1 else ((m / 2 : Nat) : Int)
theorem wrapu (x : Int) : IntKind.u64.wrap x = x % 18446744073709551616 := by simp [IntKind.wrap, IntKind.bits, IntKind.signed]
theorem xor_max {x : Nat} (h : x < 2 ^ 64) : (2 ^ 64 - 1) ^^^ x = 2 ^ 64 - (x + 1) := by
  apply Nat.eq_of_testBit_eq
  intro i
  rw [Nat.testBit_xor, Nat.testBit_two_pow_sub_one, Nat.testBit_two_pow_sub_succ h]
  by_cases hi : i < 64
  · simp [hi]
  · have h2 : x.testBit i = false := Nat.testBit_lt_two_pow (Nat.lt_of_lt_of_le h (Nat.pow_le_pow_right (by decide) (by omega)))
    simp [hi, h2]
theorem xor_max_u64 {x : Nat} (h : x < 18446744073709551616) : bits .xor .u64 IntKind.u64.max (x : Int) = ((18446744073709551616 - (x + 1) : Nat) : Int) := by
  have h2 := u64_xor_nat 18446744073709551615 x (by decide) h
  have h3 := xor_max (x := x) h
  rw [show (18446744073709551615 : Nat) = 2 ^ 64 - 1 from rfl, h3] at h2
  exact h2
theorem or_one_u64 {x : Nat} (h : x < 18446744073709551616) (he : x % 2 = 0) : bits .or .u64 (x : Int) 1 = ((x + 1 : Nat) : Int) := by
  have h2 := u64_or_nat x 1 h (by decide)
  have h3 := Nat.two_pow_add_eq_or_of_lt (i := 1) (b := 1) (by decide) (x / 2)
  rw [show 2 ^ 1 * (x / 2) = x from by omega] at h3
  rw [← h3] at h2
  exact h2
theorem zig_neg {n : Int} (h0 : -9223372036854775808 ≤ n) (h1 : n < 0) :
    bits BinOp.or IntKind.u64 (IntKind.u64.wrap (bits BinOp.xor IntKind.u64 IntKind.u64.max (IntKind.u64.wrap n) * 2)) 1 = (zigN n : Int) := by
  have e1 : IntKind.u64.wrap n = ((n + 18446744073709551616).toNat : Int) := by rw [wrapu]; omega
  rw [e1, xor_max_u64 (by omega)]
  have e2 : IntKind.u64.wrap (((18446744073709551616 - ((n + 18446744073709551616).toNat + 1) : Nat) : Int) * 2) = (((-2 * n - 2).toNat : Nat) : Int) := by rw [wrapu]; omega
  rw [e2, or_one_u64 (by omega) (by omega)]
  unfold zigN
  rw [if_pos h1]
  omega
theorem zig_pos {n : Int} (h0 : ¬ n < 0) (h1 : n ≤ 9223372036854775807) : IntKind.u64.wrap (IntKind.u64.wrap n * 2) = (zigN n : Int) := by
  unfold zigN
  rw [if_neg h0, wrapu, wrapu]
  omega
theorem zag_odd {m : Nat} (h : m < 18446744073709551616) (ho : m % 2 = 1) : wrap64 (bits BinOp.xor IntKind.u64 IntKind.u64.max ((m : Int) / 2)) = zagZ m := by
  rw [show ((m : Int) / 2) = ((m / 2 : Nat) : Int) from by omega, xor_max_u64 (by omega)]
  unfold zagZ wrap64
  rw [if_pos ho]
  omega
theorem refzig_neg {n : Int} (h0 : -9223372036854775808 ≤ n) (h1 : n < 0) : IntKind.u64.wrap (IntKind.u64.wrap (-IntKind.u64.wrap (2 * IntKind.u64.wrap n)) - 1) = (zigN n : Int) := by
  unfold zigN
  rw [if_pos h1, wrapu, wrapu, wrapu, wrapu]
  omega
theorem refzig_pos {n : Int} (h0 : ¬ n < 0) (h1 : n ≤ 9223372036854775807) : IntKind.u64.wrap (2 * IntKind.u64.wrap n) = (zigN n : Int) := by
  unfold zigN
  rw [if_neg h0, wrapu, wrapu]
  omega
theorem wrap_u64_div128 {m : Nat} (h : m < 18446744073709551616) : IntKind.u64.wrap ((m : Int) / 128) = ((m / 128 : Nat) : Int) := wrap_u64_nat (d := m / 128) (by omega)
theorem vref_step {n i p : Nat} {b : Int} (hn : n < 128 ^ i) (hp : p = 128 ^ i) (hi : i ≤ 9) (hb0 : 0 ≤ b) (hb1 : b < 256) (h9 : i = 9 → b ≤ 1) :
    IntKind.u64.wrap ((n : Int) + IntKind.u64.wrap ((p : Int) * (b % 128))) = ((n + b.toNat % 128 * 128 ^ i : Nat) : Int) := by
  obtain ⟨c, rfl⟩ := Int.eq_ofNat_of_zero_le hb0
  subst hp
  have ec : ((c : Int) % 128) = ((c % 128 : Nat) : Int) := by omega
  have hc : c % 128 < 128 := Nat.mod_lt _ (by decide)
  have hb := vor_bound c hn
  have hle : 128 ^ (i + 1) ≤ 128 ^ 10 := Nat.pow_le_pow_right (by decide) (by omega)
  have hs : n + c % 128 * 128 ^ i < 18446744073709551616 := by
    rcases Nat.lt_or_ge i 9 with h | h
    · have h1 : 128 ^ (i + 1) ≤ 128 ^ 9 := Nat.pow_le_pow_right (by decide) (by omega)
      exact Nat.lt_of_lt_of_le hb (Nat.le_trans h1 (by decide))
    · have e : i = 9 := by omega
      subst e
      have := h9 rfl
      have h3 : c % 128 * 128 ^ 9 ≤ 1 * 128 ^ 9 := Nat.mul_le_mul (by omega) (Nat.le_refl _)
      have h4 : n + c % 128 * 128 ^ 9 < 128 ^ 9 + 1 * 128 ^ 9 := by omega
      exact Nat.lt_of_lt_of_le h4 (by decide)
  rw [ec, ← Int.natCast_mul, Nat.mul_comm, wrap_u64_nat (d := c % 128 * 128 ^ i) (by omega), ← Int.natCast_add, wrap_u64_nat hs]
  rfl
theorem vref_pow {i p : Nat} (hp : p = 128 ^ i) (hi : i < 9) : IntKind.u64.wrap ((p : Int) * 128) = ((128 ^ (i + 1) : Nat) : Int) := by
  subst hp
  have h1 : 128 ^ (i + 1) ≤ 128 ^ 9 := Nat.pow_le_pow_right (by decide) (by omega)
  rw [show ((128 ^ i : Nat) : Int) * 128 = ((128 ^ (i + 1) : Nat) : Int) from by rw [Nat.pow_succ]; push_cast; rfl]
  exact wrap_u64_nat (Nat.lt_of_le_of_lt h1 (by decide))
theorem getD_rd (l : List Int) (i : Nat) : l.getD i 0 = rd l (i : Int) := by unfold rd; rw [Int.toNat_natCast]
end Go.Proofs.Ytclbmdblalgdjaa
