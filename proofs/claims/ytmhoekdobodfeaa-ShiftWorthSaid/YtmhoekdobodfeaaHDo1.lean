/- shift.Do by hand: its three closures, each by a contract; then the switch. -/
import Derived.Test.YtmhoekdobodfeaaG5
import Derived.Laws.EntriesVeiled
import Derived.Deep.RegionHeld3
namespace Go.Proofs.Ytmhoekdobodfeaa.Hand
open Go.RowKit Go.Proofs.Ytmhoekdobodfeaa.G
open Go.Proofs.YtmhoekdobodfeaaW.PrintWords Go.Proofs.YtmhoekdobodfeaaW.PrintLast Go.Proofs.YtmhoekdobodfeaaW.PrintMore
set_option linter.unusedVariables false
theorem bcell {W w1 : World} (hb : Below W.heap.size W w1) : (∀ b o, b < W.heap.size → w1.cell? ⟨b, o, none⟩ = W.cell? ⟨b, o, none⟩) ∧ (∀ b o, b < W.heap.size → w1.frozen? ⟨b, o, none⟩ = W.frozen? ⟨b, o, none⟩) :=
  ⟨fun b o h => hb.cell (p := ⟨b, o, none⟩) h, fun b o h => hb.frozen (p := ⟨b, o, none⟩) h⟩
set_option maxRecDepth 100000 in
theorem done_calls (x : Int) (out : Bool) (w : World) :
    Calls Try.prog 21 #[.int .u8 x, .bool out] w fun e w' => e = .returned (.tuple #[.int .u8 x, .agg #[.bool (x == 0), .bool false, .bool false, .bool out]]) ∧ w.alloc (.cells #[.bool (x == 0), .bool false, .bool false, .bool out] 23) = w' := by
  go_enter Try.func21, Try.ntmps21
  go_wp2
  exact bodyPost_ret (v := .tuple #[.int .u8 x, .agg #[.bool (x == 0), .bool false, .bool false, .bool out]]) (by simp [results, Try.results21, go_sem]) rfl ⟨rfl, rfl⟩
set_option maxRecDepth 100000 in
set_option maxHeartbeats 4000000 in
theorem up_calls (v : Int) (b : Bool) (w : World) (p q : Nat) (hp : w.cell? ⟨p, 0, none⟩ = some (.func (Fn.func 21) #[] #[])) (hq : w.cell? ⟨q, 0, none⟩ = some (.int .u8 v)) (k : Nat) (r : Int) (hr : word_Put.f k (IntKind.u8.wrap (v * 2)) 0 b = some r) :
    Calls Try.prog 22 #[.bool b, .pointer (some ⟨p, 0, none⟩), .pointer (some ⟨q, 0, none⟩)] w fun e w' => e = .returned (.tuple #[.int .u8 r, .agg #[.bool (r == 0), .bool false, .bool false, .bool (bits .and .u8 v 128 != 0)]]) ∧ Below w.heap.size w w' := by
  have HR := Aside0.mk hr
  clear hr
  have hp' : ∀ o, (w.alloc o).cell? ⟨p, 0, none⟩ = some (.func (Fn.func 21) #[] #[]) := fun o => (World.cell?_alloc_lt w o _ (World.block_lt_of_cell? w _ hp)).trans hp
  have hq' : ∀ o, (w.alloc o).cell? ⟨q, 0, none⟩ = some (.int .u8 v) := fun o => (World.cell?_alloc_lt w o _ (World.block_lt_of_cell? w _ hq)).trans hq
  have np := World.new_ne w _ hp
  have nq := World.new_ne w _ hq
  clear hp hq
  go_enter Try.func22, Try.ntmps22
  go_wp2_with fail
  go_region_held3 (fun w' => w'.cell? ⟨p, 0, none⟩ = some (.func (Fn.func 21) #[] #[]) ∧ w'.cell? ⟨q, 0, none⟩ = some (.int .u8 v)) (go_keep)
    (first | (go_at_call 23; ((with_reducible refine (word_Put.calls k _ _ _ r _ HR.out).mono ?_)); rintro e w' ⟨rfl, ⟨nd, rfl⟩⟩) | (go_at_call 21; refine (done_calls _ _ _).mono ?_; rintro e w' ⟨rfl, rfl⟩))
  rename_i hHeld
  clear hHeld hp' hq' np nq HR
  go_wp2
  refine bodyPost_ret (v := .tuple #[.int .u8 r, .agg #[.bool (r == 0), .bool false, .bool false, .bool (bits .and .u8 v 128 != 0)]]) (by simp [results, Try.results22, go_sem]) rfl ⟨rfl, ?_⟩
  repeat (first | exact Below.refl _ _ | apply below_alloc | apply pw_below_drewN | apply below_drew | (refine Below.setCell ?_ (by simp) _))
set_option maxRecDepth 100000 in
set_option maxHeartbeats 4000000 in
theorem down_calls (v : Int) (b : Bool) (w : World) (p q : Nat) (hp : w.cell? ⟨p, 0, none⟩ = some (.func (Fn.func 21) #[] #[])) (hq : w.cell? ⟨q, 0, none⟩ = some (.int .u8 v)) (k : Nat) (r : Int) (hr : word_Put.f k (v / 2) 7 b = some r) :
    Calls Try.prog 24 #[.bool b, .pointer (some ⟨p, 0, none⟩), .pointer (some ⟨q, 0, none⟩)] w fun e w' => e = .returned (.tuple #[.int .u8 r, .agg #[.bool (r == 0), .bool false, .bool false, .bool (bits .and .u8 v 1 != 0)]]) ∧ Below w.heap.size w w' := by
  have HR := Aside0.mk hr
  clear hr
  have hp' : ∀ o, (w.alloc o).cell? ⟨p, 0, none⟩ = some (.func (Fn.func 21) #[] #[]) := fun o => (World.cell?_alloc_lt w o _ (World.block_lt_of_cell? w _ hp)).trans hp
  have hq' : ∀ o, (w.alloc o).cell? ⟨q, 0, none⟩ = some (.int .u8 v) := fun o => (World.cell?_alloc_lt w o _ (World.block_lt_of_cell? w _ hq)).trans hq
  have np := World.new_ne w _ hp
  have nq := World.new_ne w _ hq
  clear hp hq
  go_enter Try.func24, Try.ntmps24
  go_wp2_with fail
  go_region_held3 (fun w' => w'.cell? ⟨p, 0, none⟩ = some (.func (Fn.func 21) #[] #[]) ∧ w'.cell? ⟨q, 0, none⟩ = some (.int .u8 v)) (go_keep)
    (first | (go_at_call 23; ((with_reducible refine (word_Put.calls k _ _ _ r _ HR.out).mono ?_)); rintro e w' ⟨rfl, ⟨nd, rfl⟩⟩) | (go_at_call 21; refine (done_calls _ _ _).mono ?_; rintro e w' ⟨rfl, rfl⟩))
  rename_i hHeld
  clear hHeld hp' hq' np nq HR
  go_wp2
  refine bodyPost_ret (v := .tuple #[.int .u8 r, .agg #[.bool (r == 0), .bool false, .bool false, .bool (bits .and .u8 v 1 != 0)]]) (by simp [results, Try.results24, go_sem]) rfl ⟨rfl, ?_⟩
  repeat (first | exact Below.refl _ _ | apply below_alloc | apply pw_below_drewN | apply below_drew | (refine Below.setCell ?_ (by simp) _))
end Go.Proofs.Ytmhoekdobodfeaa.Hand
