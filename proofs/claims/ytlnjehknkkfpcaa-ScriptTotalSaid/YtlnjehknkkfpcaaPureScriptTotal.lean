/- The plain statement of the law ScriptTotal. -/
import Derived.Test.YtlnjehknkkfpcaaStScriptTotal
import Derived.Test.YtlnjehknkkfpcaaSL
namespace Go.Proofs.Ytlnjehknkkfpcaa.Pure
open Go.RowKit Go.Proofs.YtlnjehknkkfpcaaW.PrintWords Go.Proofs.Ytlnjehknkkfpcaa.P
theorem total_l0 (a : Int) (s : ByteArray) (l : List S24) (hl : (l.length : Int) = ((s.size : Int) + 2).tdiv 3) (hs : s.size ≤ 2000) (hB : ∀ x ∈ l, isB a x = true) :
    ∀ d i k : Nat, i + d = l.length → d < k → pacemakerlaw30_ScriptTotal.l0 k a s l (i : Int) = some true
  | 0, i, k + 1, hi, _ => by
    unfold pacemakerlaw30_ScriptTotal.l0
    have hl2 : (l.length : Int) ≤ 2002 := by
      rw [hl, Int.tdiv_eq_ediv_of_nonneg (by omega)]
      omega
    rw [if_neg (by omega), w64 (x := (s.size : Int) + 2) (by omega) (by omega), ← hl, w64 (by omega) (by omega)]
    simp [pacemakerlaw30_scripted.f]
  | d + 1, i, k + 1, hi, hk => by
    have hlt : i < l.length := by omega
    have hb := hB _ (List.getElem_mem hlt)
    have hb4 := isB_64 hb
    have hr := (isB_iff _ _).1 hb4
    have hq : ∀ z : Int, 0 ≤ z → z ≤ 255 → 0 < (z + 1) * (z + 1) ∧ (z + 1) * (z + 1) ≤ 65536 := fun z h0 h1 => ⟨Int.mul_pos (by omega) (by omega), by have := Int.mul_le_mul (show z + 1 ≤ 256 by omega) (show z + 1 ≤ 256 by omega) (by omega) (by omega); omega⟩
    have ih := total_l0 a s l hl hs hB d (i + 1) k (by omega) (by omega)
    have hz := hq l[i].f2 hr.2.2.2.2.1 hr.2.2.2.2.2
    have hl2 : (l.length : Int) ≤ 2002 := by
      rw [hl, Int.tdiv_eq_ediv_of_nonneg (by omega)]
      omega
    unfold pacemakerlaw30_ScriptTotal.l0
    rw [if_pos (by omega), if_pos (by omega), rd_nat l i hlt, Span_eq _ hb4, Size_eq _ hb4, isF, hb, w64 (x := (i : Int) + 1) (by omega) (by omega)]
    simp only [Option.bind_some, if_true]
    generalize l[i].f0 = x0 at *
    generalize l[i].f2 = x2 at *
    generalize (x2 + 1) * (x2 + 1) = z at *
    by_cases h0 : x0 = 0
    · subst h0
      rw [if_pos rfl, if_neg (by simp; omega), if_neg (by omega), if_neg (by omega), if_neg (by simp), if_pos (by simp), if_neg (by simp)]
      exact ih
    · rw [if_neg h0]
      by_cases h1 : x0 = 1
      · subst h1
        rw [if_neg (by simp), if_neg (by omega), if_neg (by omega), if_pos rfl, if_neg (by simp; omega), if_neg (by omega), if_neg (by omega), if_neg (by omega)]
        exact ih
      · rw [if_neg h1, if_neg (by simp [h0]), if_neg (by omega), if_neg (by omega), if_neg (by simp [h1]), if_pos rfl, if_neg (by omega)]
        exact ih
theorem ScriptTotal : ScriptTotal_Stmt := by
  intro a s _ _
  refine ⟨(decodeL (mx 1 (mn a 64)) s).length + 1, ?_⟩
  unfold pacemakerlaw30_ScriptTotal.f
  by_cases h : (s.size : Int) > 2000
  · rw [if_pos h]
  · rw [if_neg h, Decode_eq a s (by omega)]
    simp only [Option.bind_some]
    refine total_l0 a s _ ?_ (by omega) (decodeL_is a s) _ 0 _ (Nat.zero_add _) (Nat.lt_succ_self _)
    rw [decodeL_length, Int.tdiv_eq_ediv_of_nonneg (by omega)]
    unfold threes
    omega
end Go.Proofs.Ytlnjehknkkfpcaa.Pure
