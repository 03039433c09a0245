/- A source as a value of its own: its five fields, and what a row of its cells says. -/
import Derived.Test.YtjiogchafnpkhaaDx0
namespace Go.Proofs.Ytjiogchafnpkhaa.D
open Go.RowKit Go.Proofs.YtjiogchafnpkhaaW.PrintWords Go.Proofs.YtjiogchafnpkhaaW.PrintLast Go.Proofs.YtjiogchafnpkhaaW.PrintMore
structure S25 where
  f0 : Int
  f1 : Int
  f2 : Int
  f3 : List Int
  f4 : Int
def k25 : Kd S25 := Kd.iso (Kd.pair (Kd.int .i64) (Kd.pair (Kd.int .u64) (Kd.pair (Kd.int .u64) (Kd.pair (Kd.slice 22 (Kd.int .u64)) (Kd.int .i64))))) (fun x : S25 => (x.f0, x.f1, x.f2, x.f3, x.f4))
theorem k25_open {w : World} {x : S25} {cs : List Value} (h : k25.K w x cs) : ∃ (A : Option Addr) (c : Nat), cs = [.int .i64 x.f0, .int .u64 x.f1, .int .u64 x.f2, .slice A x.f3.length c, .int .i64 x.f4] ∧ x.f3.length ≤ c ∧ Kd.C (Kd.int .u64) w A x.f3.length x.f3 := by
  obtain ⟨_, _, rfl, rfl, ⟨_, _, rfl, rfl, ⟨_, _, rfl, rfl, ⟨_, _, rfl, ⟨A, c, rfl, hl, hr⟩, rfl⟩⟩⟩⟩ := h
  exact ⟨A, c, rfl, hl, hr⟩
theorem k25_mk (w : World) (x : S25) {A : Option Addr} {c : Nat} (hl : x.f3.length ≤ c) (hr : Kd.C (Kd.int .u64) w A x.f3.length x.f3) : k25.K w x [.int .i64 x.f0, .int .u64 x.f1, .int .u64 x.f2, .slice A x.f3.length c, .int .i64 x.f4] :=
  ⟨[.int .i64 x.f0], _, rfl, rfl, ⟨[.int .u64 x.f1], _, rfl, rfl, ⟨[.int .u64 x.f2], _, rfl, rfl, ⟨[.slice A x.f3.length c], [.int .i64 x.f4], rfl, ⟨A, c, rfl, hl, hr⟩, rfl⟩⟩⟩⟩
end Go.Proofs.Ytjiogchafnpkhaa.D
