/-
  A struct is equal to itself (Go's == on claims, requests, remittances, notices, facts).
-/
import Derived.Test.YtkkjiihdmpngbaaDh2
import Derived.Laws.StructEq
namespace Go.Proofs.Ytkkjiihdmpngbaa
open Go.RowKit

theorem eqr_claim (x0 x1 x2 x3 x4 x5 : Int) (w : World) : (Op.equalIn 10000 62 (.agg #[.int .i64 x0, .int .i64 x1, .int .i64 x2, .int .i64 x3, .int .i64 x4, .int .i64 x5]) (.agg #[.int .i64 x0, .int .i64 x1, .int .i64 x2, .int .i64 x3, .int .i64 x4, .int .i64 x5])).run Try.prog w = .ok true w := by
  have hS : Try.prog.underlying 62 = some (.struct (Try.prog.fieldsOf 62)) := by kernel_rfl
  rw [show (10000 : Nat) = 9999 + 1 from rfl, run_equalIn_agg w 9999 62 _ _ hS (by kernel_rfl)]
  simp only [Program.fieldsOf, Try.underlying62]
  go_simp
theorem eqr_request (x0 x1 x2 : Int) (w : World) : (Op.equalIn 10000 48 (.agg #[.int .i64 x0, .int .i64 x1, .int .i64 x2]) (.agg #[.int .i64 x0, .int .i64 x1, .int .i64 x2])).run Try.prog w = .ok true w := by
  have hS : Try.prog.underlying 48 = some (.struct (Try.prog.fieldsOf 48)) := by kernel_rfl
  rw [show (10000 : Nat) = 9999 + 1 from rfl, run_equalIn_agg w 9999 48 _ _ hS (by kernel_rfl)]
  simp only [Program.fieldsOf, Try.underlying48]
  go_simp
theorem eqr_remittance (x0 x1 x2 x3 x4 x5 : Int) (w : World) : (Op.equalIn 10000 52 (.agg #[.int .i64 x0, .int .i64 x1, .int .i64 x2, .int .i64 x3, .int .i64 x4, .int .i64 x5]) (.agg #[.int .i64 x0, .int .i64 x1, .int .i64 x2, .int .i64 x3, .int .i64 x4, .int .i64 x5])).run Try.prog w = .ok true w := by
  have hS : Try.prog.underlying 52 = some (.struct (Try.prog.fieldsOf 52)) := by kernel_rfl
  rw [show (10000 : Nat) = 9999 + 1 from rfl, run_equalIn_agg w 9999 52 _ _ hS (by kernel_rfl)]
  simp only [Program.fieldsOf, Try.underlying52]
  go_simp
theorem eqr_notice (x0 x1 x2 x3 : Int) (w : World) : (Op.equalIn 10000 56 (.agg #[.int .i64 x0, .int .i64 x1, .int .i64 x2, .int .i64 x3]) (.agg #[.int .i64 x0, .int .i64 x1, .int .i64 x2, .int .i64 x3])).run Try.prog w = .ok true w := by
  have hS : Try.prog.underlying 56 = some (.struct (Try.prog.fieldsOf 56)) := by kernel_rfl
  rw [show (10000 : Nat) = 9999 + 1 from rfl, run_equalIn_agg w 9999 56 _ _ hS (by kernel_rfl)]
  simp only [Program.fieldsOf, Try.underlying56]
  go_simp
theorem eqr_span (a b : Int) (d : Nat) (w : World) : (Op.equalIn (d + 2) 74 (.agg #[.int .i64 a, .int .i64 b]) (.agg #[.int .i64 a, .int .i64 b])).run Try.prog w = .ok true w := by
  have hS : Try.prog.underlying 74 = some (.struct (Try.prog.fieldsOf 74)) := by kernel_rfl
  rw [show d + 2 = (d + 1) + 1 from rfl, run_equalIn_agg w (d + 1) 74 _ _ hS (by kernel_rfl)]
  simp only [Program.fieldsOf, Try.underlying74]
  go_simp
theorem eqr_fact (f : Fct) (w : World) : (Op.equalIn 10000 76 (.agg (fcells f)) (.agg (fcells f))).run Try.prog w = .ok true w := by
  obtain ⟨a0, a1, a2, a3, a4, a5, a6, a7, a8, a9, a10, a11, a12, a13⟩ := f
  have hS : Try.prog.underlying 76 = some (.struct (Try.prog.fieldsOf 76)) := by kernel_rfl
  rw [show (10000 : Nat) = 9999 + 1 from rfl, run_equalIn_agg w 9999 76 _ _ hS (by kernel_rfl)]
  have hsp := eqr_span a7 a8 9997
  simp only [Program.fieldsOf, Try.underlying76, fcells]
  go_simp
end Go.Proofs.Ytkkjiihdmpngbaa
