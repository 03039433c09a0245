/- The plain statement of the law ScriptDoes. -/
import Derived.Test.YtlnjehknkkfpcaaStScriptDoes
import Derived.Test.YtlnjehknkkfpcaaSL
namespace Go.Proofs.Ytlnjehknkkfpcaa.Pure
open Go.RowKit Go.Proofs.YtlnjehknkkfpcaaW.PrintWords Go.Proofs.Ytlnjehknkkfpcaa.P
theorem senR (a : Int) : mn (mx a 1) 64 = mx 1 (mn a 64) := by
  unfold mx mn
  (repeat' split) <;> omega
theorem refIs (a : Int) (x : S24) : pacemakerref30_Is.f a x.f0 x.f1 x.f2 = some (isB a x) := by
  unfold pacemakerref30_Is.f isB
  rw [senR]
  (repeat' split) <;> simp <;> omega
theorem refSpan (x : S24) : ∃ v, script_Span.f x.f0 x.f1 x.f2 = some v ∧ pacemakerref30_Span.f x.f0 x.f1 x.f2 = some v := by
  unfold script_Span.f script_of.f pacemakerref30_Span.f
  rw [isF, refIs]
  simp only [Option.bind_some]
  cases isB 64 x
  · exact ⟨0, by simp⟩
  · by_cases h : x.f0 = 0
    · exact ⟨_, by simp [h]; rfl, by simp [h]⟩
    · exact ⟨0, by simp [h]⟩
theorem refSize (x : S24) : ∃ v, script_Size.f x.f0 x.f1 x.f2 = some v ∧ pacemakerref30_Size.f x.f0 x.f1 x.f2 = some v := by
  unfold script_Size.f script_of.f pacemakerref30_Size.f
  rw [isF, refIs]
  simp only [Option.bind_some]
  cases isB 64 x
  · exact ⟨0, by simp⟩
  · by_cases h : x.f0 = 1
    · exact ⟨_, by simp [h]; rfl, by simp [h, Int.mul_comm]⟩
    · exact ⟨0, by simp [h]⟩
theorem refEnc_l0 (l : List S24) (hl : l.length ≤ 1000) : ∀ d i k : Nat, i + d = l.length → d < k → (l.take i).all (isB 64) = true → pacemakerref30_Encode.l0 k l (flat3 (l.take i)) (i : Int) = some (encodeL l)
  | 0, i, k + 1, hi, _, hg => by
    unfold pacemakerref30_Encode.l0
    rw [if_neg (by omega)]
    rw [List.take_of_length_le (by omega)] at hg ⊢
    unfold encodeL
    rw [if_pos hg]
  | d + 1, i, k + 1, hi, hk, hg => by
    have hlt : i < l.length := by omega
    have hf : (flat3 (l.take i)).length ≤ 3000 := by rw [flat3_length, List.length_take]; omega
    have ha := all_take (isB 64) l i hlt
    rw [hg, Bool.true_and] at ha
    have ht : flat3 (l.take (i + 1)) = flat3 (l.take i) ++ [l[i].f0, l[i].f1, l[i].f2] := by rw [List.take_succ_eq_append_getElem hlt, flat3_app]; rfl
    unfold pacemakerref30_Encode.l0
    rw [if_pos (by omega), if_pos (by omega), rd_nat l i hlt, refIs, w64 (x := (i : Int) + 1) (by omega) (by omega)]
    simp only [Option.bind_some]
    cases hb : isB 64 l[i] with
    | false =>
      rw [if_neg (by simp)]
      unfold encodeL
      rw [if_neg (by intro h; have := List.all_eq_true.1 h _ (List.getElem_mem hlt); rw [hb] at this; exact absurd this (by decide))]
    | true =>
      have hr := (isB_iff _ _).1 hb
      rw [sen64] at hr
      rw [if_pos rfl, Int.emod_eq_of_lt hr.1 (by omega), Int.emod_eq_of_lt hr.2.2.1 (by omega), Int.emod_eq_of_lt hr.2.2.2.2.1 (by omega)]
      rw [if_pos (by simp only [List.length_cons, List.length_nil]; omega), ← ht]
      exact refEnc_l0 l hl d (i + 1) k (by omega) (by omega) (by rw [ha, hb])
theorem refByte (s : ByteArray) (i : Nat) : pacemakerref30_byteAt.f s (i : Int) = some (bt s (i : Int)) := by
  have hr := bt_range s (i : Int)
  unfold pacemakerref30_byteAt.f
  by_cases h : (i : Int) ≥ (s.size : Int)
  · rw [if_pos h]
    unfold bt
    rw [dif_neg (by simp; omega)]
  · rw [if_neg h, if_pos (by omega), if_pos (by omega), w64 (by omega) (by omega)]
theorem refDec_l0 (m : Int) (hm : 1 ≤ m) (s : ByteArray) (hs : s.size ≤ 2000) : ∀ d j k : Nat, j + d = threes s.size → d < k → pacemakerref30_Decode.l0 k m s ((decodeL m s).take j) ((3 * j : Nat) : Int) = some (decodeL m s)
  | 0, j, k + 1, hi, _ => by
    unfold pacemakerref30_Decode.l0
    rw [if_neg (by unfold threes at hi; omega), List.take_of_length_le (by rw [decodeL_length]; omega)]
  | d + 1, j, k + 1, hi, hk => by
    have hlt : j < threes s.size := by omega
    have hlt3 : 3 * j < s.size := by unfold threes at hlt; omega
    have hln : ((decodeL m s).take j).length ≤ 2000 := by rw [List.length_take, decodeL_length]; omega
    unfold pacemakerref30_Decode.l0
    rw [if_pos (by omega), refByte, w64 (x := ((3 * j : Nat) : Int) + 1) (by omega) (by omega), w64 (x := ((3 * j : Nat) : Int) + 2) (by omega) (by omega), w64 (x := ((3 * j : Nat) : Int) + 3) (by omega) (by omega)]
    rw [show ((3 * j : Nat) : Int) + 1 = ((3 * j + 1 : Nat) : Int) by omega, show ((3 * j : Nat) : Int) + 2 = ((3 * j + 2 : Nat) : Int) by omega, show ((3 * j : Nat) : Int) + 3 = ((3 * (j + 1) : Nat) : Int) by omega, refByte, refByte]
    simp only [Option.bind_some]
    rw [if_neg (by omega), if_pos (by omega), Int.tmod_eq_emod_of_nonneg (bt_range s _).1, Int.tmod_eq_emod_of_nonneg (bt_range s _).1, ← decodeL_take m s j hlt]
    exact refDec_l0 m hm s hs d (j + 1) k (by omega) (by omega)
theorem ScriptDoes : ScriptDoes_Stmt := by
  intro a s l x _ _ _ _
  refine ⟨4000, ?_⟩
  unfold pacemakerlaw30_ScriptDoes.f
  by_cases h : (s.size : Int) > 2000 ∨ (l.length : Int) > 1000
  · rw [if_neg (by intro hh; have h1 := hh.1; have h2 := hh.2.1; omega), if_pos h]
  · have h1 : s.size ≤ 2000 := by omega
    have h2 : l.length ≤ 1000 := by omega
    have hth : threes s.size ≤ 1000 := by unfold threes; omega
    rw [if_pos]
    refine ⟨h1, h2, ⟨_, _, Encode_eq l (by omega), ?_⟩, ⟨_, Decode_eq a s (by omega), ?_, ?_⟩, ⟨_, isF a x, refIs a x⟩, refSpan x, refSize x⟩
    · exact refEnc_l0 l h2 l.length 0 4000 (Nat.zero_add _) (by omega) rfl
    · have := refDec_l0 (mx 1 (mn a 64)) (sen a).1 s h1 (threes s.size) 0 4000 (Nat.zero_add _) (by omega)
      unfold pacemakerref30_Decode.f
      rw [senR]
      exact this
    · exact same_self _ 4000 (by rw [decodeL_length]; omega) (by rw [decodeL_length]; omega)
end Go.Proofs.Ytlnjehknkkfpcaa.Pure
