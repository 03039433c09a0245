import Derived.Test.YtiodmgcnpaoooaaAx9
import Derived.Test.YtiodmgcnpaoooaaAx10
import Derived.Test.YtiodmgcnpaoooaaAx1
namespace Go.Proofs.Ytiodmgcnpaoooaa.A
open Go.RowKit Go.Proofs.YtiodmgcnpaoooaaW.PrintWords Go.Proofs.YtiodmgcnpaoooaaW.PrintLast Go.Proofs.YtiodmgcnpaoooaaW.PrintMore
attribute [local go_sem] max2_int min2_int max_two min_two max_three min_three max_four min_four
attribute [local go_sem] Go.Proofs.YtiodmgcnpaoooaaS.cell_set_map Go.Proofs.YtiodmgcnpaoooaaS.setCell_drewN
set_option linter.unusedVariables false
set_option linter.unusedSimpArgs false
/-- What a number, a size, an account may be. -/
def timeB (x : Int) : Bool := decide (0 ≤ x) && decide (x ≤ 1099511627776)
def sizeB (x : Int) : Bool := decide (1 ≤ x) && decide (x ≤ 9000)
def fitB (a b : Int) : Bool := decide (b ≤ a) && decide (a ≤ wrap64 (b * 9000))
def countsB (m : S23) : Bool := decide (0 ≤ m.f6) && (decide (m.f6 ≤ 1048576) && (decide (0 ≤ m.f7) && (decide (m.f7 ≤ m.f6) && (decide (0 ≤ m.f8) && decide (m.f8 ≤ wrap64 (m.f6 - m.f7))))))
def resB (m : S23) : Bool := wrap64 (m.f7 + m.f8) == m.f6
def bytesB (m : S23) : Bool := fitB m.f3 m.f6 && (fitB m.f4 m.f7 && (fitB m.f5 m.f8 && (decide (wrap64 (m.f4 + m.f5) ≤ m.f3) && ((wrap64 (m.f4 + m.f5) == m.f3) == resB m))))
def samplesB (m : S23) : Bool := if m.f9 < 0 then false else if 1024 < m.f9 then false else if m.f7 < m.f9 then false else (sampleOk m.f9 60000000 [m.f10, m.f11] && sampleOk m.f9 3600000000000000 [m.f12, m.f13, m.f14])
def headB (m : S23) : Bool := !decide (m.f0 < 0) && (timeB m.f1 && (decide (m.f2 = -1) || (timeB m.f2 && !decide (m.f2 < m.f1))))
def isB (m : S23) : Bool := headB m && (countsB m && (bytesB m && samplesB m))
def zM : S23 := ⟨0, 0, 0, 0, 0, 0, 0, 0, 0, 0, 0, 0, 0, 0, 0⟩
/-- What a packet sent, acked or lost, or the end makes of an account, and the error. -/
def toldF (m : S23) : S23 × Int := if isB m = true then (m, 0) else (zM, 6)
def sendF (m : S23) (n : Int) : S23 × Int := if isB m = true then (if sizeB n = true then (if m.f2 = -1 then (if m.f6 = 1048576 then (zM, 2) else (⟨m.f0, m.f1, m.f2, wrap64 (m.f3 + n), m.f4, m.f5, wrap64 (m.f6 + 1), m.f7, m.f8, m.f9, m.f10, m.f11, m.f12, m.f13, m.f14⟩, 0)) else (zM, 15)) else (zM, 9)) else (zM, 1)
def loseF (m : S23) (n : Int) : S23 × Int := if isB m = true then (if sizeB n = true then toldF ⟨m.f0, m.f1, m.f2, m.f3, m.f4, wrap64 (m.f5 + n), m.f6, m.f7, wrap64 (m.f8 + 1), m.f9, m.f10, m.f11, m.f12, m.f13, m.f14⟩ else (zM, 9)) else (zM, 1)
def closeF (m : S23) (a : Int) : S23 × Int := if isB m = true then (if m.f2 = -1 then (if timeB a = true then (if a < m.f1 then (zM, 10) else (⟨m.f0, m.f1, a, m.f3, m.f4, m.f5, m.f6, m.f7, m.f8, m.f9, m.f10, m.f11, m.f12, m.f13, m.f14⟩, 0)) else (zM, 10)) else (zM, 15)) else (zM, 1)
def ackM (m : S23) (n t r : Int) : S23 := if m.f9 < 1024 ∧ 0 ≤ t ∧ t ≤ 60000000 ∧ r ≤ 60000000 then ⟨m.f0, m.f1, m.f2, m.f3, wrap64 (m.f4 + n), m.f5, m.f6, wrap64 (m.f7 + 1), m.f8, wrap64 (m.f9 + 1), wrap64 (m.f10 + t), wrap64 (m.f11 + r), wrap64 (m.f12 + wrap64 (t * t)), wrap64 (m.f13 + wrap64 (t * r)), wrap64 (m.f14 + wrap64 (r * r))⟩ else ⟨m.f0, m.f1, m.f2, m.f3, wrap64 (m.f4 + n), m.f5, m.f6, wrap64 (m.f7 + 1), m.f8, m.f9, m.f10, m.f11, m.f12, m.f13, m.f14⟩
def ackF (m : S23) (n s a : Int) : S23 × Int := if isB m = true then (if sizeB n = true then (if timeB s = true then (if timeB a = true then (if a < s then (zM, 10) else toldF (ackM m n (wrap64 (s - m.f1)) (wrap64 (a - s)))) else (zM, 10)) else (zM, 10)) else (zM, 9)) else (zM, 1)
def openF (i a : Int) : S23 × Int := if i < 0 then (zM, 1) else if timeB a = true then (⟨i, a, -1, 0, 0, 0, 0, 0, 0, 0, 0, 0, 0, 0, 0⟩, 0) else (zM, 1)
def isDone (m : S23) : Bool := isB m && (!decide (m.f2 = -1) && resB m)
def doneF (m : S23) (s0 s1 s2 s3 : Int) : S23 × Int := if s0 = 0 then sendF m s1 else if s0 = 1 then ackF m s1 s2 s3 else if s0 = 2 then loseF m s1 else closeF m s3
theorem time_eq (x : Int) : account_time.f x = some (timeB x) := by
  unfold account_time.f timeB
  split <;> simp_all <;> (try (intros; exfalso; omega))
theorem size_eq (x : Int) : account_size.f x = some (sizeB x) := by
  unfold account_size.f sizeB
  split <;> simp_all <;> (try (intros; exfalso; omega))
theorem fit_eq (a b : Int) : account_book_bytes_1.f a b = some (fitB a b) := by
  unfold account_book_bytes_1.f fitB
  split <;> simp_all <;> (try (intros; exfalso; omega))
theorem counts_eq (m : S23) : account_book_counts.f m.f0 m.f1 m.f2 m.f3 m.f4 m.f5 m.f6 m.f7 m.f8 m.f9 m.f10 m.f11 m.f12 m.f13 m.f14 = some (countsB m) := by
  unfold account_book_counts.f countsB
  (repeat' split) <;> simp_all <;> (try (intros; exfalso; omega))
theorem res_eq (m : S23) : account_book_resolved.f m.f0 m.f1 m.f2 m.f3 m.f4 m.f5 m.f6 m.f7 m.f8 m.f9 m.f10 m.f11 m.f12 m.f13 m.f14 = some (resB m) := rfl
theorem bytes_eq (m : S23) : account_book_bytes.f m.f0 m.f1 m.f2 m.f3 m.f4 m.f5 m.f6 m.f7 m.f8 m.f9 m.f10 m.f11 m.f12 m.f13 m.f14 = some (bytesB m) := by
  unfold account_book_bytes.f bytesB
  rw [fit_eq, fit_eq, fit_eq, res_eq]
  simp only [Option.bind_some]
  (repeat' split) <;> simp_all <;> (try (intros; exfalso; omega))
theorem samples_eq (m : S23) : account_book_samples.f m.f0 m.f1 m.f2 m.f3 m.f4 m.f5 m.f6 m.f7 m.f8 m.f9 m.f10 m.f11 m.f12 m.f13 m.f14 = some (samplesB m) := by
  unfold account_book_samples.f samplesB
  (repeat' split) <;> rfl
theorem right_eq (m : S23) : account_shut_right.f 1 m.f0 m.f1 m.f2 m.f3 m.f4 m.f5 m.f6 m.f7 m.f8 m.f9 m.f10 m.f11 m.f12 m.f13 m.f14 = some (isB m) := by
  unfold account_shut_right.f isB headB
  simp only [account_shut_right.j0]
  rw [time_eq, time_eq, counts_eq, bytes_eq, samples_eq]
  simp only [Option.bind_some]
  (repeat' split) <;> simp_all <;> (try (intros; exfalso; omega))
theorem is_eq (m : S23) : account_Is.f 1 m.f0 m.f1 m.f2 m.f3 m.f4 m.f5 m.f6 m.f7 m.f8 m.f9 m.f10 m.f11 m.f12 m.f13 m.f14 = some (isB m) := by
  unfold account_Is.f
  rw [right_eq]
  rfl
theorem Is_v (m : S23) (b : Bool) (w : World) (h : isB m = b) : Calls Try.prog 18 #[.agg #[.int .i64 m.f0, .int .i64 m.f1, .int .i64 m.f2, .int .i64 m.f3, .int .i64 m.f4, .int .i64 m.f5, .int .i64 m.f6, .int .i64 m.f7, .int .i64 m.f8, .int .i64 m.f9, .int .i64 m.f10, .int .i64 m.f11, .int .i64 m.f12, .int .i64 m.f13, .int .i64 m.f14]] w fun e w' => e = .returned (.bool b) ∧ Below w.heap.size w w' :=
  account_Is.calls 1 m.f0 m.f1 m.f2 m.f3 m.f4 m.f5 m.f6 m.f7 m.f8 m.f9 m.f10 m.f11 m.f12 m.f13 m.f14 b w (by rw [is_eq, h])
end Go.Proofs.Ytiodmgcnpaoooaa.A
