/- The plain statement of the law DrawWithin. -/
import Derived.Test.YtjiogchafnpkhaaStDrawWithin
namespace Go.Proofs.Ytjiogchafnpkhaa.Pure
open Go.RowKit Go.Proofs.YtjiogchafnpkhaaW.PrintWords Go.Proofs.Ytjiogchafnpkhaa.D
theorem w64 {x : Int} (h1 : -9223372036854775808 ≤ x) (h2 : x ≤ 9223372036854775807) : wrap64 x = x := by unfold wrap64; omega
theorem u32r (x : Int) : 0 ≤ IntKind.u32.wrap x ∧ IntKind.u32.wrap x < 4294967296 := by
  simp [IntKind.wrap, IntKind.bits, IntKind.signed]
  omega
theorem div_range (x : Int) (n : Nat) (h0 : 0 ≤ x) (h1 : x < 4294967296) : 0 ≤ x / 2 ^ n ∧ x / 2 ^ n < 4294967296 := by
  have hp : (0 : Int) < 2 ^ n := Int.pow_pos (by omega)
  exact ⟨Int.ediv_nonneg h0 (Int.le_of_lt hp), Int.lt_of_le_of_lt (Int.ediv_le_self _ h0) h1⟩
theorem or_range (a b : Int) (a0 : 0 ≤ a) (a1 : a < 4294967296) (b0 : 0 ≤ b) (b1 : b < 4294967296) : 0 ≤ bits .or .u32 a b ∧ bits .or .u32 a b < 4294967296 := by
  rw [u32_or a b a0 a1 b0 b1]
  have := Nat.or_lt_two_pow (n := 32) (show a.toNat < 2 ^ 32 by omega) (show b.toNat < 2 ^ 32 by omega)
  omega
theorem pcg_range (st : Int) : 0 ≤ pcgX st ∧ pcgX st < 4294967296 := by
  unfold pcgX rotF
  have h := u32r (bits .xor .u64 (st / 262144) st / 134217728)
  have h2 := u32r (IntKind.u32.wrap (bits .xor .u64 (st / 262144) st / 134217728) * 2 ^ (rotC (wrap64 (-wrap64 (st / 576460752303423488)))).toNat)
  have h3 := div_range _ (32 - rotC (wrap64 (-wrap64 (st / 576460752303423488)))).toNat h.1 h.2
  exact or_range _ _ h2.1 h2.2 h3.1 h3.2
theorem tape_range (l : List Int) (a : Int) : 0 ≤ tapeX l a ∧ tapeX l a < 4294967296 := by
  unfold tapeX
  split <;> omega
theorem next_range (k st : Int) (l : List Int) (a : Int) : 0 ≤ nextX k st l a ∧ nextX k st l a ≤ 4294967295 := by
  have h1 := pcg_range st
  have h2 := tape_range l a
  unfold nextX
  rw [w64 (x := pcgX st) (by omega) (by omega), w64 (x := tapeX l a) (by omega) (by omega), w64 (x := 0) (by omega) (by omega)]
  (repeat' split) <;> omega
theorem below_range (k st : Int) (l : List Int) (a n : Int) : 0 ≤ belowX k st l a n ∧ belowX k st l a n ≤ nextX k st l a ∧ (0 < n → belowX k st l a n < n) := by
  have h := next_range k st l a
  unfold belowX
  split
  · omega
  · rw [Int.tmod_eq_emod_of_nonneg h.1]
    have h1 := Int.emod_nonneg (nextX k st l a) (show n ≠ 0 by omega)
    have h2 := Int.emod_lt_of_pos (nextX k st l a) (show 0 < n by omega)
    have h3 := Int.emod_add_mul_ediv (nextX k st l a) n
    have h4 := Int.mul_nonneg (show 0 ≤ n by omega) (Int.ediv_nonneg h.1 (show 0 ≤ n by omega))
    omega
theorem DrawWithin : DrawWithin_Stmt := by
  intro s n lo hi _ hn hlo hhi
  refine ⟨0, ?_⟩
  have b1 : -9223372036854775808 ≤ lo ∧ lo ≤ 9223372036854775807 := bounds_i64 hlo
  have b2 : -9223372036854775808 ≤ hi ∧ hi ≤ 9223372036854775807 := bounds_i64 hhi
  have h1 := next_range s.f0 s.f1 s.f3 s.f4
  have h2 := below_range s.f0 s.f1 s.f3 s.f4 n
  unfold pacemakerlaw06_DrawWithin.f
  rw [if_pos]
  refine ⟨h1.1, h1.2, h2.1, h2.2.1, h2.2.2, ?_⟩
  unfold betX
  split
  · omega
  · rename_i h
    have hw : wideU lo hi = hi - lo := by
      unfold wideU
      simp [IntKind.wrap, IntKind.bits, IntKind.signed]
      omega
    rw [hw] at h
    have hm : betN lo hi = hi - lo + 1 := by
      unfold betN
      simp [IntKind.wrap, IntKind.bits, IntKind.signed]
      omega
    have h3 := below_range s.f0 s.f1 s.f3 s.f4 (betN lo hi)
    rw [hm] at h3 ⊢
    generalize belowX s.f0 s.f1 s.f3 s.f4 (hi - lo + 1) = y at *
    have h4 := h3.2.2 (by omega)
    have hz : IntKind.i64.wrap (lo + y) = lo + y := IntWalk.i64_in _ ⟨by omega, by omega⟩
    rw [hz]
    omega
end Go.Proofs.Ytjiogchafnpkhaa.Pure
