import Derived.Test.YtjiogchafnpkhaaE7
import Derived.Test.YtjiogchafnpkhaaE6
import Derived.Test.YtjiogchafnpkhaaE5
import Derived.Test.YtjiogchafnpkhaaE4
import Derived.Test.YtjiogchafnpkhaaE0
namespace Go.Proofs.Ytjiogchafnpkhaa.D
open Go.RowKit Go.Proofs.YtjiogchafnpkhaaW.PrintWords Go.Proofs.YtjiogchafnpkhaaW.PrintLast Go.Proofs.YtjiogchafnpkhaaW.PrintMore
attribute [local go_sem] max2_int min2_int max_two min_two max_three min_three max_four min_four
attribute [local go_sem] Go.Proofs.YtjiogchafnpkhaaS.cell_set_map Go.Proofs.YtjiogchafnpkhaaS.setCell_drewN
set_option linter.unusedVariables false
set_option linter.unusedSimpArgs false
theorem draw_Many_v (k st ic at_ : Int) (A : Option Addr) (c : Nat) (l : List Int) (n : Int) (w : World) (hr : Kd.C (Kd.int .u64) w A l.length l) (m : Nat) (hm : mx 0 (mn n 1000) = (m : Int)) (o : List Int) (st9 at9 : Int) (ho : outI k ic st l at_ m = o) (h1 : stI k ic st m = st9) (h2 : atI k l at_ m = at9) : Calls Try.prog 21 #[.agg #[.int .i64 k, .int .u64 st, .int .u64 ic, .slice A l.length c, .int .i64 at_], .int .i64 n] w fun e w' => ∃ (A1 : Option Addr) (c1 : Nat), e = .returned (.tuple #[.slice A1 m c1, .agg #[.int .i64 k, .int .u64 st9, .int .u64 ic, .slice A l.length c, .int .i64 at9]]) ∧ m ≤ c1 ∧ Kd.C (Kd.int .i64) w' A1 m o ∧ Below w.heap.size w w' := by
  refine (draw_Many_calls k st ic at_ A c l n w hr m hm).mono ?_
  rintro e w' ⟨v, rfl, hR, hb⟩
  obtain ⟨A1, c1, rfl, hl1, hr1⟩ := Kd.R_reads hR
  have e := outI_length k ic st l at_ m
  rw [ho] at hr1 hl1 e
  rw [ho, h1, h2]
  rw [e] at hr1 hl1 ⊢
  exact ⟨A1, c1, rfl, hl1, hr1, hb⟩
theorem ref_Many_v (k st ic at_ : Int) (A : Option Addr) (c : Nat) (l : List Int) (n : Int) (w : World) (hr : Kd.C (Kd.int .u64) w A l.length l) (hu : ∀ y ∈ l, 0 ≤ y) (hs : 0 ≤ st ∧ st < 18446744073709551616) (m : Nat) (hm : mx 0 (mn n 1000) = (m : Int)) (o : List Int) (st9 at9 : Int) (ho : outI k ic st l at_ m = o) (h1 : stI k ic st m = st9) (h2 : atI k l at_ m = at9) : Calls Try.prog 25 #[.agg #[.int .i64 k, .int .u64 st, .int .u64 ic, .slice A l.length c, .int .i64 at_], .int .i64 n] w fun e w' => ∃ (A1 : Option Addr) (c1 : Nat), e = .returned (.tuple #[.slice A1 m c1, .agg #[.int .i64 k, .int .u64 st9, .int .u64 ic, .slice A l.length c, .int .i64 at9]]) ∧ m ≤ c1 ∧ Kd.C (Kd.int .i64) w' A1 m o ∧ Below w.heap.size w w' := by
  refine (ref_Many_calls k st ic at_ A c l n w hr hu hs m hm).mono ?_
  rintro e w' ⟨v, rfl, hR, hb⟩
  obtain ⟨A1, c1, rfl, hl1, hr1⟩ := Kd.R_reads hR
  have e := outI_length k ic st l at_ m
  rw [ho] at hr1 hl1 e
  rw [ho, h1, h2]
  rw [e] at hr1 hl1 ⊢
  exact ⟨A1, c1, rfl, hl1, hr1, hb⟩
theorem m_of (n : Int) : ∃ m : Nat, mx 0 (mn n 1000) = (m : Int) ∧ m ≤ 1000 := by
  refine ⟨(mx 0 (mn n 1000)).toNat, ?_, ?_⟩ <;> unfold mx mn <;> (repeat' split) <;> omega
end Go.Proofs.Ytjiogchafnpkhaa.D
