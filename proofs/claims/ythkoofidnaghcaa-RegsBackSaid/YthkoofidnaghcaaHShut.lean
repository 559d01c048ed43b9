/- regs' file.shut by hand: eight registers written in one statement. -/
import Derived.Test.YthkoofidnaghcaaHGet
import Derived.Deep.RegionHeld3
namespace Go.Proofs.Ythkoofidnaghcaa.Hand
open Go.RowKit
open Go.Proofs.Ythkoofidnaghcaa.G
open Go.Proofs.YthkoofidnaghcaaW.PrintWords Go.Proofs.YthkoofidnaghcaaW.PrintLast Go.Proofs.YthkoofidnaghcaaW.PrintMore
set_option linter.unusedVariables false
set_option maxRecDepth 100000 in
set_option maxHeartbeats 4000000 in
theorem shut_calls (f0 f1 f2 f3 f4 f5 f6 f7 : Int) (a f b c d e h l s p : Int) (w : World) :
    Calls Try.prog 43 #[.agg #[.int .u8 f0, .int .u8 f1, .int .u8 f2, .int .u8 f3, .int .u8 f4, .int .u8 f5, .int .u8 f6, .int .u8 f7], .agg #[.int .u8 a, .int .u8 f, .int .u8 b, .int .u8 c, .int .u8 d, .int .u8 e, .int .u8 h, .int .u8 l, .int .u16 s, .int .u16 p]] w fun e' w' => e' = .returned (.agg #[.int .u8 f7, .int .u8 f6, .int .u8 f0, .int .u8 f1, .int .u8 f2, .int .u8 f3, .int .u8 f4, .int .u8 f5, .int .u16 s, .int .u16 p]) ∧ Below w.heap.size w w' := by
  go_enter Try.func43, Try.ntmps43
  go_wp2
  go_region_held3 (fun w' => w'.cell? ⟨w.heap.size, 0, none⟩ = some (.int .u8 f0) ∧ w'.cell? ⟨w.heap.size, 1, none⟩ = some (.int .u8 f1) ∧ w'.cell? ⟨w.heap.size, 2, none⟩ = some (.int .u8 f2) ∧ w'.cell? ⟨w.heap.size, 3, none⟩ = some (.int .u8 f3) ∧ w'.cell? ⟨w.heap.size, 4, none⟩ = some (.int .u8 f4) ∧ w'.cell? ⟨w.heap.size, 5, none⟩ = some (.int .u8 f5) ∧ w'.cell? ⟨w.heap.size, 6, none⟩ = some (.int .u8 f6) ∧ w'.cell? ⟨w.heap.size, 7, none⟩ = some (.int .u8 f7)) (go_keep) (fail)
  rename_i hHeld
  clear hHeld
  go_wp2
  refine bodyPost_ret (v := .agg #[.int .u8 f7, .int .u8 f6, .int .u8 f0, .int .u8 f1, .int .u8 f2, .int .u8 f3, .int .u8 f4, .int .u8 f5, .int .u16 s, .int .u16 p]) (by simp [results, Try.results43, go_sem]) rfl ⟨rfl, ?_⟩
  repeat (first | exact Below.refl _ _ | apply below_alloc | apply pw_below_drewN | apply below_drew1 | (refine Below.setCell ?_ (by simp) _))
end Go.Proofs.Ythkoofidnaghcaa.Hand
