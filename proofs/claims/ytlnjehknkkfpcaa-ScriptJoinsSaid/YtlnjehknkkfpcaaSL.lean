/- What the printed functions of script compute, in plain lists. -/
import Derived.Test.YtlnjehknkkfpcaaPx8
import Derived.Test.YtlnjehknkkfpcaaPx9
import Derived.KernelRfl
namespace Go.Proofs.Ytlnjehknkkfpcaa.P
open Go.RowKit Go.Proofs.YtlnjehknkkfpcaaW.PrintWords Go.Proofs.YtlnjehknkkfpcaaW.PrintLast Go.Proofs.YtlnjehknkkfpcaaW.PrintMore

theorem w64 {x : Int} (h1 : -9223372036854775808 ≤ x) (h2 : x ≤ 9223372036854775807) : wrap64 x = x := by unfold wrap64; omega

theorem rd_nat (l : List S24) (i : Nat) (h : i < l.length) : rd_T24 l (i : Int) = l[i] := by simp [rd_T24, h]

theorem same_l0 (l : List S24) (hl : l.length ≤ 4000000) : ∀ d i k : Nat, i + d = l.length → d < k → pacemakerref30_Same.l0 k l l (i : Int) = some true
  | 0, i, k + 1, hi, _ => by
    unfold pacemakerref30_Same.l0
    rw [if_neg (by omega)]
  | d + 1, i, k + 1, hi, hk => by
    unfold pacemakerref30_Same.l0
    rw [if_pos (by omega), if_pos (by omega), if_pos (by omega), if_neg (by simp), w64 (by omega) (by omega)]
    exact same_l0 l hl d (i + 1) k (by omega) (by omega)
theorem same_self (l : List S24) (k : Nat) (hl : l.length ≤ 4000000) (hk : l.length < k) : pacemakerref30_Same.f k l l = some true := by
  unfold pacemakerref30_Same.f
  rw [if_pos rfl]
  exact same_l0 l hl l.length 0 k (by omega) hk

theorem sen (a : Int) : 1 ≤ mx 1 (mn a 64) ∧ mx 1 (mn a 64) ≤ 64 := by
  unfold mx mn
  (repeat' split) <;> omega
theorem sen64 : mx 1 (mn 64 64) = 64 := rfl

theorem isB_iff (a : Int) (x : S24) : isB a x = true ↔ 0 ≤ x.f0 ∧ x.f0 < 8 ∧ 0 ≤ x.f1 ∧ x.f1 < mx 1 (mn a 64) ∧ 0 ≤ x.f2 ∧ x.f2 ≤ 255 := by
  simp [isB, and_assoc]
theorem isB_64 {a : Int} {x : S24} (h : isB a x = true) : isB 64 x = true := by
  rw [isB_iff] at h ⊢
  rw [sen64]
  have := sen a
  omega
theorem decodeL_is (a : Int) (s : ByteArray) : ∀ x ∈ decodeL (mx 1 (mn a 64)) s, isB a x = true := by
  intro x hx
  obtain ⟨i, hi, rfl⟩ := List.mem_map.1 hx
  rw [isB_iff]
  have h0 := bt_range s (3 * i : Nat)
  have h1 := bt_range s (3 * i + 1 : Nat)
  have h2 := bt_range s (3 * i + 2 : Nat)
  have hs := sen a
  exact ⟨Int.emod_nonneg _ (by omega), Int.emod_lt_of_pos _ (by omega), Int.emod_nonneg _ (by omega), Int.emod_lt_of_pos _ (by omega), h2.1, h2.2⟩
theorem Decode_eq (a : Int) (s : ByteArray) (h : s.size ≤ 1000000) : script_Decode.f a s = some (decodeL (mx 1 (mn a 64)) s) := by
  unfold script_Decode.f
  rw [if_pos h]
theorem Encode_eq (l : List S24) (h : l.length ≤ 1000000) : script_Encode.f l = some (encodeL l) := by
  unfold script_Encode.f
  rw [if_pos h]
theorem Span_eq (x : S24) (h : isB 64 x = true) : script_Span.f x.f0 x.f1 x.f2 = some (if x.f0 = 0 then (x.f2 + 1) * (x.f2 + 1) else 0) := by
  have h' := (isB_iff _ _).1 h
  have hq : 0 ≤ (x.f2 + 1) * (x.f2 + 1) ∧ (x.f2 + 1) * (x.f2 + 1) ≤ 65536 := ⟨Int.mul_nonneg (by omega) (by omega), by have := Int.mul_le_mul (show x.f2 + 1 ≤ 256 by omega) (show x.f2 + 1 ≤ 256 by omega) (by omega) (by omega); omega⟩
  unfold script_Span.f script_of.f
  rw [isF, h]
  simp only [Option.bind_some, if_true]
  rw [w64 (x := x.f2 + 1) (by omega) (by omega), w64 (x := (x.f2 + 1) * (x.f2 + 1)) (by omega) (by omega)]
  by_cases h0 : x.f0 = 0 <;> simp [h0]
theorem Size_eq (x : S24) (h : isB 64 x = true) : script_Size.f x.f0 x.f1 x.f2 = some (if x.f0 = 1 then x.f2 * 35 + 64 else 0) := by
  have h' := (isB_iff _ _).1 h
  unfold script_Size.f script_of.f
  rw [isF, h]
  simp only [Option.bind_some, if_true]
  rw [w64 (x := x.f2 * 35) (by omega) (by omega), w64 (x := x.f2 * 35 + 64) (by omega) (by omega)]
  by_cases h0 : x.f0 = 1 <;> simp [h0]

theorem bt_nums (xs : List Int) (hx : ∀ x ∈ xs, 0 ≤ x ∧ x ≤ 255) (i : Nat) (h : i < xs.length) : bt (strOfNums xs) (i : Int) = xs[i] := by
  have hs : i < (strOfNums xs).size := by rw [strOfNums_size]; exact h
  unfold bt
  rw [dif_pos (by simpa using hs)]
  have := hx xs[i] (List.getElem_mem h)
  simp only [Int.toNat_natCast]
  have e : (strOfNums xs)[i] = UInt8.ofNat xs[i].toNat := by
    show (strOfNums xs).data[i]'_ = _
    simp [strOfNums]
  rw [e]
  simp
  omega
theorem flat3_get (l : List S24) : ∀ i, (h : i < l.length) → (flat3 l)[3 * i]'(by rw [flat3_length]; omega) = l[i].f0 ∧ (flat3 l)[3 * i + 1]'(by rw [flat3_length]; omega) = l[i].f1 ∧ (flat3 l)[3 * i + 2]'(by rw [flat3_length]; omega) = l[i].f2 := by
  induction l with
  | nil => intro i h; exact absurd h (by simp)
  | cons x l ih =>
    intro i h
    match i with
    | 0 => exact ⟨rfl, rfl, rfl⟩
    | i + 1 =>
      have := ih i (by simpa using h)
      have e : flat3 (x :: l) = x.f0 :: x.f1 :: x.f2 :: flat3 l := rfl
      simp only [e]
      exact this
theorem flat3_range (l : List S24) (h : ∀ x ∈ l, isB 64 x = true) : ∀ y ∈ flat3 l, 0 ≤ y ∧ y ≤ 255 := by
  intro y hy
  obtain ⟨x, hx, hy⟩ := List.mem_flatMap.1 hy
  have h' := (isB_iff _ _).1 (h x hx)
  rw [sen64] at h'
  simp only [List.mem_cons, List.not_mem_nil, or_false] at hy
  rcases hy with rfl | rfl | rfl <;> omega
/-- What was encoded is decoded again. -/
theorem decode_encode (a : Int) (l : List S24) (h : ∀ x ∈ l, isB a x = true) : decodeL (mx 1 (mn a 64)) (strOfNums (flat3 l)) = l := by
  have hr := flat3_range l (fun x hx => isB_64 (h x hx))
  have hsz : (strOfNums (flat3 l)).size = 3 * l.length := by rw [strOfNums_size, flat3_length]
  apply List.ext_getElem
  · rw [decodeL_length, hsz]; unfold threes; omega
  · intro i h1 h2
    have hl := flat3_length l
    obtain ⟨e0, e1, e2⟩ := flat3_get l i h2
    have hB := (isB_iff _ _).1 (h _ (List.getElem_mem h2))
    simp only [decodeL, List.getElem_map, List.getElem_range]
    rw [bt_nums _ hr (3 * i) (by omega), bt_nums _ hr (3 * i + 1) (by omega), bt_nums _ hr (3 * i + 2) (by omega), e0, e1, e2, Int.emod_eq_of_lt hB.1 hB.2.1, Int.emod_eq_of_lt hB.2.2.1 hB.2.2.2.1]
theorem encode_ok (l : List S24) (h : ∀ x ∈ l, isB 64 x = true) : encodeL l = (strOfNums (flat3 l), 0) := by
  unfold encodeL
  rw [if_pos (List.all_eq_true.2 h)]
theorem encode_bad (l : List S24) (h : (encodeL l).2 ≠ 0) : encodeL l = (⟨#[]⟩, 1) := by
  unfold encodeL at h ⊢
  split <;> simp_all
end Go.Proofs.Ytlnjehknkkfpcaa.P
