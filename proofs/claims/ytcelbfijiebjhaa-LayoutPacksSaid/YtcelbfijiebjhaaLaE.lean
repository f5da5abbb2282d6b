/- Layout: the arguments of the laws, opened. No condition. -/
import Derived.Test.YtcelbfijiebjhaaLaC
import Derived.Test.YtcelbfijiebjhaaVf
namespace Go.Proofs.Ytcelbfijiebjhaa
open Go Go.ChangeShapes Go.WideShapes Go.ChangeAt Go.RowKit

theorem arr5_open {w : World} {b0 : Nat} {v : Value} (h : Value.okWide Try.prog w .any b0 28 v) :
    ∃ n0 n1 n2 n3 n4 : Int, v = .agg #[.int .i64 n0, .int .i64 n1, .int .i64 n2, .int .i64 n3, .int .i64 n4] ∧ inKs [n0, n1, n2, n3, n4] := by
  obtain ⟨cs, rfl, hl, hc⟩ := val_flat (ts := [3, 3, 3, 3, 3]) (by kernel_rfl) (by kernel_rfl) (by kernel_rfl) h
  match cs, hl with
  | [c0, c1, c2, c3, c4], _ =>
    obtain ⟨n0, rfl, h0⟩ := cell_int Try.underlying3 (hc 0 _ 3 rfl rfl)
    obtain ⟨n1, rfl, h1⟩ := cell_int Try.underlying3 (hc 1 _ 3 rfl rfl)
    obtain ⟨n2, rfl, h2⟩ := cell_int Try.underlying3 (hc 2 _ 3 rfl rfl)
    obtain ⟨n3, rfl, h3⟩ := cell_int Try.underlying3 (hc 3 _ 3 rfl rfl)
    obtain ⟨n4, rfl, h4⟩ := cell_int Try.underlying3 (hc 4 _ 3 rfl rfl)
    exact ⟨n0, n1, n2, n3, n4, rfl, h0, h1, h2, h3, h4, True.intro⟩
theorem arr4_open {w : World} {b0 : Nat} {v : Value} (h : Value.okWide Try.prog w .any b0 22 v) :
    ∃ n0 n1 n2 n3 : Int, v = .agg #[.int .i64 n0, .int .i64 n1, .int .i64 n2, .int .i64 n3] ∧ inKs [n0, n1, n2, n3] := by
  obtain ⟨cs, rfl, hl, hc⟩ := val_flat (ts := [3, 3, 3, 3]) (by kernel_rfl) (by kernel_rfl) (by kernel_rfl) h
  match cs, hl with
  | [c0, c1, c2, c3], _ =>
    obtain ⟨n0, rfl, h0⟩ := cell_int Try.underlying3 (hc 0 _ 3 rfl rfl)
    obtain ⟨n1, rfl, h1⟩ := cell_int Try.underlying3 (hc 1 _ 3 rfl rfl)
    obtain ⟨n2, rfl, h2⟩ := cell_int Try.underlying3 (hc 2 _ 3 rfl rfl)
    obtain ⟨n3, rfl, h3⟩ := cell_int Try.underlying3 (hc 3 _ 3 rfl rfl)
    exact ⟨n0, n1, n2, n3, rfl, h0, h1, h2, h3, True.intro⟩
end Go.Proofs.Ytcelbfijiebjhaa
