/- fault.word: the word of an error. -/
import Derived.Test.YtghjemcbkackjaaDoorProg
import Derived.Below
import Derived.Deep.Draws
import Derived.OwnWalk
import Derived.Tactics
import Derived.WalkKit
import Derived.KernelRfl
import Derived.Deep.QuietTactic
import Derived.BigQuiet
import Derived.WalkLawsBesides
import Derived.WalkSpells
import Derived.Outline
import Derived.Test.YtghjemcbkackjaaDoorFBase
namespace Go.Proofs.YtghjemcbkackjaaDoor.F
open Go.RowKit
set_option linter.unusedVariables false
set_option linter.unusedSimpArgs false

/-- The error's word. -/
def wordF (c : Int) : ByteArray :=
  if c = 1 then ⟨#[97, 114, 103, 117, 109, 101, 110, 116]⟩
   else if c = 2 then ⟨#[102, 111, 114, 109]⟩
   else if c = 3 then ⟨#[104, 97, 115, 104]⟩
   else if c = 4 then ⟨#[111, 114, 100, 101, 114]⟩
   else if c = 5 then ⟨#[101, 110, 100]⟩
   else if c = 6 then ⟨#[115, 116, 101, 112]⟩
   else if c = 7 then ⟨#[103, 97, 112]⟩
   else if c = 8 then ⟨#[111, 118, 101, 114]⟩
   else if c = 9 then ⟨#[114, 97, 110, 103, 101]⟩
   else if c = 10 then ⟨#[101, 120, 112, 105, 114, 101, 100]⟩
   else if c = 11 then ⟨#[110, 111, 32, 115, 117, 99, 104, 32, 115, 101, 99, 111, 110, 100]⟩
   else ⟨#[101, 114, 114, 111, 114]⟩

set_option maxHeartbeats 400000 in
theorem word_lo (c : Int) (w : World) (h : c < 1) :
    Calls Tryd.prog 42 #[.int .i64 c] w fun e w' => e = .returned (.string ⟨#[101, 114, 114, 111, 114]⟩) ∧ Below w.heap.size w w' := by
  go_enter Tryd.func42, Tryd.ntmps42
  go_wp2
  go_ret
  exact ⟨rfl, ((Below.refl _ _).alloc (Nat.le_refl _) _)⟩
set_option maxHeartbeats 400000 in
theorem word_hi (c : Int) (w : World) (h : 11 < c) :
    Calls Tryd.prog 42 #[.int .i64 c] w fun e w' => e = .returned (.string ⟨#[101, 114, 114, 111, 114]⟩) ∧ Below w.heap.size w w' := by
  have h0 : decide (c < 1) = false := decide_eq_false (by omega)
  have h1 : decide (11 < c) = true := decide_eq_true h
  go_enter Tryd.func42, Tryd.ntmps42
  go_wp2
  go_ret
  exact ⟨rfl, ((Below.refl _ _).alloc (Nat.le_refl _) _)⟩
set_option maxHeartbeats 400000 in
theorem word_1 (w : World) :
    Calls Tryd.prog 42 #[.int .i64 1] w fun e w' => e = .returned (.string ⟨#[97, 114, 103, 117, 109, 101, 110, 116]⟩) ∧ Below w.heap.size w w' := by
  go_enter Tryd.func42, Tryd.ntmps42
  go_wp2
  go_ret
  exact ⟨rfl, ((Below.refl _ _).alloc (Nat.le_refl _) _)⟩
set_option maxHeartbeats 400000 in
theorem word_2 (w : World) :
    Calls Tryd.prog 42 #[.int .i64 2] w fun e w' => e = .returned (.string ⟨#[102, 111, 114, 109]⟩) ∧ Below w.heap.size w w' := by
  go_enter Tryd.func42, Tryd.ntmps42
  go_wp2
  go_ret
  exact ⟨rfl, ((Below.refl _ _).alloc (Nat.le_refl _) _)⟩
set_option maxHeartbeats 400000 in
theorem word_3 (w : World) :
    Calls Tryd.prog 42 #[.int .i64 3] w fun e w' => e = .returned (.string ⟨#[104, 97, 115, 104]⟩) ∧ Below w.heap.size w w' := by
  go_enter Tryd.func42, Tryd.ntmps42
  go_wp2
  go_ret
  exact ⟨rfl, ((Below.refl _ _).alloc (Nat.le_refl _) _)⟩
set_option maxHeartbeats 400000 in
theorem word_4 (w : World) :
    Calls Tryd.prog 42 #[.int .i64 4] w fun e w' => e = .returned (.string ⟨#[111, 114, 100, 101, 114]⟩) ∧ Below w.heap.size w w' := by
  go_enter Tryd.func42, Tryd.ntmps42
  go_wp2
  go_ret
  exact ⟨rfl, ((Below.refl _ _).alloc (Nat.le_refl _) _)⟩
set_option maxHeartbeats 400000 in
theorem word_5 (w : World) :
    Calls Tryd.prog 42 #[.int .i64 5] w fun e w' => e = .returned (.string ⟨#[101, 110, 100]⟩) ∧ Below w.heap.size w w' := by
  go_enter Tryd.func42, Tryd.ntmps42
  go_wp2
  go_ret
  exact ⟨rfl, ((Below.refl _ _).alloc (Nat.le_refl _) _)⟩
set_option maxHeartbeats 400000 in
theorem word_6 (w : World) :
    Calls Tryd.prog 42 #[.int .i64 6] w fun e w' => e = .returned (.string ⟨#[115, 116, 101, 112]⟩) ∧ Below w.heap.size w w' := by
  go_enter Tryd.func42, Tryd.ntmps42
  go_wp2
  go_ret
  exact ⟨rfl, ((Below.refl _ _).alloc (Nat.le_refl _) _)⟩
set_option maxHeartbeats 400000 in
theorem word_7 (w : World) :
    Calls Tryd.prog 42 #[.int .i64 7] w fun e w' => e = .returned (.string ⟨#[103, 97, 112]⟩) ∧ Below w.heap.size w w' := by
  go_enter Tryd.func42, Tryd.ntmps42
  go_wp2
  go_ret
  exact ⟨rfl, ((Below.refl _ _).alloc (Nat.le_refl _) _)⟩
set_option maxHeartbeats 400000 in
theorem word_8 (w : World) :
    Calls Tryd.prog 42 #[.int .i64 8] w fun e w' => e = .returned (.string ⟨#[111, 118, 101, 114]⟩) ∧ Below w.heap.size w w' := by
  go_enter Tryd.func42, Tryd.ntmps42
  go_wp2
  go_ret
  exact ⟨rfl, ((Below.refl _ _).alloc (Nat.le_refl _) _)⟩
set_option maxHeartbeats 400000 in
theorem word_9 (w : World) :
    Calls Tryd.prog 42 #[.int .i64 9] w fun e w' => e = .returned (.string ⟨#[114, 97, 110, 103, 101]⟩) ∧ Below w.heap.size w w' := by
  go_enter Tryd.func42, Tryd.ntmps42
  go_wp2
  go_ret
  exact ⟨rfl, ((Below.refl _ _).alloc (Nat.le_refl _) _)⟩
set_option maxHeartbeats 400000 in
theorem word_10 (w : World) :
    Calls Tryd.prog 42 #[.int .i64 10] w fun e w' => e = .returned (.string ⟨#[101, 120, 112, 105, 114, 101, 100]⟩) ∧ Below w.heap.size w w' := by
  go_enter Tryd.func42, Tryd.ntmps42
  go_wp2
  go_ret
  exact ⟨rfl, ((Below.refl _ _).alloc (Nat.le_refl _) _)⟩
set_option maxHeartbeats 400000 in
theorem word_11 (w : World) :
    Calls Tryd.prog 42 #[.int .i64 11] w fun e w' => e = .returned (.string ⟨#[110, 111, 32, 115, 117, 99, 104, 32, 115, 101, 99, 111, 110, 100]⟩) ∧ Below w.heap.size w w' := by
  go_enter Tryd.func42, Tryd.ntmps42
  go_wp2
  go_ret
  exact ⟨rfl, ((Below.refl _ _).alloc (Nat.le_refl _) _)⟩

theorem word_any (c : Int) (w : World) :
    Calls Tryd.prog 42 #[.int .i64 c] w fun e w' => e = .returned (.string (wordF c)) ∧ Below w.heap.size w w' := by
  by_cases h : c < 1
  · have e : wordF c = ⟨#[101, 114, 114, 111, 114]⟩ := by unfold wordF; repeat' rw [if_neg (by omega)]
    rw [e]; exact word_lo c w h
  by_cases h' : 11 < c
  · have e : wordF c = ⟨#[101, 114, 114, 111, 114]⟩ := by unfold wordF; repeat' rw [if_neg (by omega)]
    rw [e]; exact word_hi c w h'
  by_cases e1 : c = 1
  · subst e1; exact word_1 w
  by_cases e2 : c = 2
  · subst e2; exact word_2 w
  by_cases e3 : c = 3
  · subst e3; exact word_3 w
  by_cases e4 : c = 4
  · subst e4; exact word_4 w
  by_cases e5 : c = 5
  · subst e5; exact word_5 w
  by_cases e6 : c = 6
  · subst e6; exact word_6 w
  by_cases e7 : c = 7
  · subst e7; exact word_7 w
  by_cases e8 : c = 8
  · subst e8; exact word_8 w
  by_cases e9 : c = 9
  · subst e9; exact word_9 w
  by_cases e10 : c = 10
  · subst e10; exact word_10 w
  by_cases e11 : c = 11
  · subst e11; exact word_11 w
  omega
def fault_word.f (c : Int) : Option ByteArray := some (wordF c)
theorem fault_word.calls (a0 : Int) (r : ByteArray) (w : World) (hG : GW w) (h : fault_word.f a0 = some r) :
    Calls Tryd.prog 42 #[.int .i64 a0] w fun e w' => e = .returned (.string r) ∧ Below w.heap.size w w' := by
  obtain rfl := Option.some.inj h
  exact word_any a0 w
end Go.Proofs.YtghjemcbkackjaaDoor.F
