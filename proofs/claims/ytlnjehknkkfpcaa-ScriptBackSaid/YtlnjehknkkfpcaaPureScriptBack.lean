/- The plain statement of the law ScriptBack. -/
import Derived.Test.YtlnjehknkkfpcaaStScriptBack
import Derived.Test.YtlnjehknkkfpcaaSL
namespace Go.Proofs.Ytlnjehknkkfpcaa.Pure
open Go.RowKit Go.Proofs.YtlnjehknkkfpcaaW.PrintWords Go.Proofs.Ytlnjehknkkfpcaa.P
theorem back_end (a : Int) (l : List S24) (s : ByteArray) (hl : l.length ≤ 1000) (hs : s.size ≤ 2000) (k : Nat) (g : Bool) (hk : 1500 < k) (hg : g = true → ∀ x ∈ l, isB a x = true) : pacemakerlaw30_ScriptBack.l0 (k + 1) a l s g (l.length : Int) = some true := by
    unfold pacemakerlaw30_ScriptBack.l0
    rw [if_neg (by omega), Encode_eq l (by omega)]
    simp only [Option.bind_some]
    have hm := decodeL_is a s
    have hml : (decodeL (mx 1 (mn a 64)) s).length ≤ 1000 := by rw [decodeL_length]; unfold threes; omega
    have he := encode_ok _ (fun x hx => isB_64 (hm x hx))
    have hd := decode_encode a _ hm
    have hsz : (strOfNums (flat3 (decodeL (mx 1 (mn a 64)) s))).size ≤ 1000000 := by rw [strOfNums_size, flat3_length]; omega
    have hss := same_self (decodeL (mx 1 (mn a 64)) s) k (by omega) (by omega)
    rw [Decode_eq a s (by omega)]
    simp only [Option.bind_some]
    rw [Encode_eq _ (by omega), he]
    simp only [Option.bind_some, pacemakerlaw30_scripted.f, if_true]
    rw [Decode_eq a _ hsz, hd]
    simp only [Option.bind_some]
    rw [hss]
    simp only [Option.bind_some, if_true]
    by_cases h : g = true
    · rw [if_pos h]
      have hb : ∀ x ∈ l, isB a x = true := hg h
      rw [encode_ok l (fun x hx => isB_64 (hb x hx)), if_pos rfl]
      rw [Decode_eq a _ (by rw [strOfNums_size, flat3_length]; omega), decode_encode a l hb]
      simp only [Option.bind_some]
      have e := same_self l k (by omega) (by omega)
      have e3 : ((strOfNums (flat3 l)).size : Int) = wrap64 (3 * (l.length : Int)) := by
        rw [strOfNums_size, flat3_length, w64 (x := 3 * (l.length : Int)) (by omega) (by omega)]
        omega
      rw [e, Option.bind_some, if_pos rfl, if_pos e3]
    · rw [if_neg h]
      by_cases h0 : (encodeL l).2 = 0
      · rw [if_pos h0]
      · rw [if_neg h0, encode_bad l h0]
        have e0 : (⟨#[]⟩ : ByteArray).toList = [] := by rw [ByteArray.toList, ByteArray.toList.loop]; rfl
        show some ((⟨#[]⟩ : ByteArray).toList == []) = some true
        rw [e0]
        rfl
theorem back_l0 (a : Int) (l : List S24) (s : ByteArray) (hl : l.length ≤ 1000) (hs : s.size ≤ 2000) (c : Nat) (hc : 3000 ≤ c) :
    ∀ d i k : Nat, ∀ g : Bool, i + d = l.length → d + c < k → (g = true → ∀ j (h : j < i) (h' : j < l.length), isB a l[j] = true) → pacemakerlaw30_ScriptBack.l0 k a l s g (i : Int) = some true
  | 0, i, k + 1, g, hi, hk, hg => by
    obtain rfl : i = l.length := by omega
    exact back_end a l s hl hs k g (by omega) (fun h x hx => by
      obtain ⟨j, hj, rfl⟩ := List.getElem_of_mem hx
      exact hg h j hj hj)
  | d + 1, i, k + 1, g, hi, hk, hg => by
    have hlt : i < l.length := by omega
    unfold pacemakerlaw30_ScriptBack.l0
    rw [if_pos (by omega), if_pos (show (0 : Int) ≤ (i : Int) by omega), rd_nat l i hlt, isF, w64 (x := (i : Int) + 1) (by omega) (by omega)]
    simp only [Option.bind_some]
    by_cases h : g = true
    · rw [if_pos h]
      refine back_l0 a l s hl hs c hc d (i + 1) k _ (by omega) (by omega) (fun hq j h1 h2 => ?_)
      by_cases hj : j = i
      · subst hj; exact hq
      · exact hg h j (by omega) h2
    · rw [if_neg h]
      exact back_l0 a l s hl hs c hc d (i + 1) k false (by omega) (by omega) (fun hq => absurd hq (by decide))
theorem ScriptBack : ScriptBack_Stmt := by
  intro a l s _ _ _
  refine ⟨l.length + 3001, ?_⟩
  unfold pacemakerlaw30_ScriptBack.f
  by_cases h : (s.size : Int) > 2000
  · rw [if_pos h]
  · rw [if_neg h]
    by_cases h1 : (l.length : Int) > 1000
    · rw [if_pos h1]
    · rw [if_neg h1]
      exact back_l0 a l s (by omega) (by omega) 3000 (Nat.le_refl _) l.length 0 _ true (Nat.zero_add _) (by omega) (fun _ j h => absurd h (by omega))
end Go.Proofs.Ytlnjehknkkfpcaa.Pure
