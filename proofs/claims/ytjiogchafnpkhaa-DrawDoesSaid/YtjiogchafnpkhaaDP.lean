/- The document's turning of a number by single steps is the program's turning of it at once. -/
import Derived.Test.YtjiogchafnpkhaaD3
import Derived.Laws.BitsAllLaws
namespace Go.Proofs.Ytjiogchafnpkhaa.D
open Go.RowKit Go.Proofs.YtjiogchafnpkhaaW.PrintWords Go.Proofs.YtjiogchafnpkhaaW.PrintLast Go.Proofs.YtjiogchafnpkhaaW.PrintMore
theorem u64_w (n : Int) : IntKind.u64.wrap n = n % 18446744073709551616 := by simp [IntKind.wrap, IntKind.bits, IntKind.signed]
/-- x turned by i places to the right. -/
def rotI (x : Int) (i : Nat) : Int := x / 2 ^ i + x % 2 ^ i * 2 ^ (32 - i)
theorem below32 {i : Nat} (h : i < 32) : i = 0 ∨ i = 1 ∨ i = 2 ∨ i = 3 ∨ i = 4 ∨ i = 5 ∨ i = 6 ∨ i = 7 ∨ i = 8 ∨ i = 9 ∨ i = 10 ∨ i = 11 ∨ i = 12 ∨ i = 13 ∨ i = 14 ∨ i = 15 ∨ i = 16 ∨ i = 17 ∨ i = 18 ∨ i = 19 ∨ i = 20 ∨ i = 21 ∨ i = 22 ∨ i = 23 ∨ i = 24 ∨ i = 25 ∨ i = 26 ∨ i = 27 ∨ i = 28 ∨ i = 29 ∨ i = 30 ∨ i = 31 := by omega
theorem rotI_range (x : Int) (h0 : 0 ≤ x) (h1 : x < 4294967296) (i : Nat) (hi : i < 32) : 0 ≤ rotI x i ∧ rotI x i < 4294967296 := by
  unfold rotI
  rcases below32 hi with rfl | rfl | rfl | rfl | rfl | rfl | rfl | rfl | rfl | rfl | rfl | rfl | rfl | rfl | rfl | rfl | rfl | rfl | rfl | rfl | rfl | rfl | rfl | rfl | rfl | rfl | rfl | rfl | rfl | rfl | rfl | rfl <;> simp only [Nat.reduceSub, Int.reducePow, Nat.sub_zero] <;> omega
theorem rotI_step (x : Int) (h0 : 0 ≤ x) (h1 : x < 4294967296) (i : Nat) (hi : i < 31) : rotI x i / 2 + rotI x i % 2 * 2147483648 = rotI x (i + 1) := by
  unfold rotI
  rcases below32 (show i < 32 by omega) with rfl | rfl | rfl | rfl | rfl | rfl | rfl | rfl | rfl | rfl | rfl | rfl | rfl | rfl | rfl | rfl | rfl | rfl | rfl | rfl | rfl | rfl | rfl | rfl | rfl | rfl | rfl | rfl | rfl | rfl | rfl | rfl <;> simp only [Nat.reduceSub, Nat.reduceAdd, Int.reducePow, Nat.sub_zero] <;> omega
theorem rotI_zero (x : Int) : rotI x 0 = x := by unfold rotI; omega
theorem or_split (x : Int) (h0 : 0 ≤ x) (h1 : x < 4294967296) (i : Nat) (hi : i < 32) (hp : 0 < i) : bits .or .u32 (IntKind.u32.wrap (x * 2 ^ (32 - i))) (x / 2 ^ i) = rotI x i := by
  have e1 : IntKind.u32.wrap (x * 2 ^ (32 - i)) = x % 2 ^ i * 2 ^ (32 - i) := by
    rw [IntKind.wrap_u32]
    rcases below32 hi with rfl | rfl | rfl | rfl | rfl | rfl | rfl | rfl | rfl | rfl | rfl | rfl | rfl | rfl | rfl | rfl | rfl | rfl | rfl | rfl | rfl | rfl | rfl | rfl | rfl | rfl | rfl | rfl | rfl | rfl | rfl | rfl <;> simp only [Nat.reduceSub, Int.reducePow, Nat.sub_zero] <;> omega
  have r1 : 0 ≤ x % 2 ^ i * 2 ^ (32 - i) ∧ x % 2 ^ i * 2 ^ (32 - i) < 4294967296 ∧ 0 ≤ x / 2 ^ i ∧ x / 2 ^ i < 2 ^ (32 - i) := by
    rcases below32 hi with rfl | rfl | rfl | rfl | rfl | rfl | rfl | rfl | rfl | rfl | rfl | rfl | rfl | rfl | rfl | rfl | rfl | rfl | rfl | rfl | rfl | rfl | rfl | rfl | rfl | rfl | rfl | rfl | rfl | rfl | rfl | rfl <;> simp only [Nat.reduceSub, Int.reducePow, Nat.sub_zero] <;> omega
  have r2 : x / 2 ^ i < 4294967296 := Int.lt_of_le_of_lt (Int.ediv_le_self _ h0) h1
  rw [e1, u32_or _ _ r1.1 r1.2.1 r1.2.2.1 r2]
  unfold rotI
  have m0 : 0 ≤ x % 2 ^ i := Int.emod_nonneg _ (by have : (0 : Int) < 2 ^ i := Int.pow_pos (by omega); omega)
  obtain ⟨a, ha⟩ : ∃ a : Nat, x % 2 ^ i = (a : Int) := ⟨(x % 2 ^ i).toNat, by omega⟩
  obtain ⟨b, hb⟩ : ∃ b : Nat, x / 2 ^ i = (b : Int) := ⟨(x / 2 ^ i).toNat, by omega⟩
  rw [ha, hb]
  have hb2 : b < 2 ^ (32 - i) := by
    have := r1.2.2.2
    have e : ((2 ^ (32 - i) : Nat) : Int) = (2 : Int) ^ (32 - i) := by simp
    rw [← e, hb] at this
    exact Int.ofNat_lt.mp this
  have e2 : ((a : Int) * 2 ^ (32 - i)).toNat = a <<< (32 - i) := by
    rw [Nat.shiftLeft_eq]
    have e : ((a * 2 ^ (32 - i) : Nat) : Int) = (a : Int) * (2 : Int) ^ (32 - i) := by simp
    rw [← e]
    rfl
  rw [e2, Int.toNat_natCast, ← Nat.shiftLeft_add_eq_or_of_lt hb2, Nat.shiftLeft_eq]
  simp
  omega
theorem rotF_right (x : Int) (h0 : 0 ≤ x) (h1 : x < 4294967296) (st : Int) (s0 : 0 ≤ st) (s1 : st < 18446744073709551616) : rotF x (wrap64 (-wrap64 (st / 576460752303423488))) = rotI x (st / 576460752303423488).toNat := by
  obtain ⟨r, hr⟩ : ∃ r : Nat, st / 576460752303423488 = (r : Int) := ⟨(st / 576460752303423488).toNat, by omega⟩
  have hr2 : r < 32 := by omega
  rw [hr, Int.toNat_natCast]
  have e1 : wrap64 (-wrap64 (r : Int)) = -(r : Int) := by unfold wrap64; omega
  rw [e1]
  have e2 : rotC (-(r : Int)) = (32 - (r : Int)) % 32 := by
    unfold rotC
    rw [u64_w]
    omega
  unfold rotF
  rw [e2]
  rcases Nat.eq_zero_or_pos r with h | h
  · subst h
    have e3 : x / 4294967296 = 0 := by omega
    simp only [rotI_zero]
    show bits .or .u32 (IntKind.u32.wrap (x * 2 ^ (0 : Nat))) (x / 2 ^ (32 : Nat)) = x
    have e4 : x * 2 ^ (0 : Nat) = x := by omega
    have e5 : x / 2 ^ (32 : Nat) = 0 := by omega
    have e6 : IntKind.u32.wrap x = x := by rw [IntKind.wrap_u32]; omega
    rw [e4, e5, e6, u32_or x 0 h0 h1 (by omega) (by omega)]
    simp
    omega
  · rw [show (32 - (r : Int)) % 32 = 32 - (r : Int) by omega, show (32 - (r : Int)).toNat = 32 - r by omega, show (32 - (32 - (r : Int))).toNat = r by omega]
    exact or_split x h0 h1 r hr2 h
theorem pcgX_rot (st : Int) (s0 : 0 ≤ st) (s1 : st < 18446744073709551616) : pcgX st = rotI (IntKind.u32.wrap (bits .xor .u64 (st / 262144) st / 134217728)) (st / 576460752303423488).toNat := by
  unfold pcgX
  have h := show 0 ≤ IntKind.u32.wrap (bits .xor .u64 (st / 262144) st / 134217728) ∧ IntKind.u32.wrap (bits .xor .u64 (st / 262144) st / 134217728) < 4294967296 by rw [IntKind.wrap_u32]; omega
  exact rotF_right _ h.1 h.2 st s0 s1
end Go.Proofs.Ytjiogchafnpkhaa.D
