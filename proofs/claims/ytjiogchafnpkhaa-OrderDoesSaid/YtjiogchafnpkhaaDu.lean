/- An order of four trials as a value of its own, and what a row of its cells says. -/
import Derived.Test.YtjiogchafnpkhaaDt
namespace Go.Proofs.Ytjiogchafnpkhaa.D
open Go.RowKit Go.Proofs.YtjiogchafnpkhaaW.PrintWords Go.Proofs.YtjiogchafnpkhaaW.PrintLast Go.Proofs.YtjiogchafnpkhaaW.PrintMore
structure S45 where
  f0 : Bool
  f1 : Bool
  f2 : Bool
  f3 : Bool
def k45 : Kd S45 := Kd.iso (Kd.pair Kd.bool (Kd.pair Kd.bool (Kd.pair Kd.bool Kd.bool))) (fun x : S45 => (x.f0, x.f1, x.f2, x.f3))
theorem k45_open {w : World} {x : S45} {cs : List Value} (h : k45.K w x cs) : cs = [.bool x.f0, .bool x.f1, .bool x.f2, .bool x.f3] := by
  obtain ⟨_, _, rfl, rfl, ⟨_, _, rfl, rfl, ⟨_, _, rfl, rfl, rfl⟩⟩⟩ := h
  rfl
theorem k45_mk (w : World) (x : S45) : k45.K w x [.bool x.f0, .bool x.f1, .bool x.f2, .bool x.f3] :=
  ⟨[.bool x.f0], _, rfl, rfl, ⟨[.bool x.f1], _, rfl, rfl, ⟨[.bool x.f2], [.bool x.f3], rfl, rfl, rfl⟩⟩⟩
end Go.Proofs.Ytjiogchafnpkhaa.D
