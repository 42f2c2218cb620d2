/- Contracts proved by hand: rule.digits (a range over a string), day.Last (an array literal). -/
import Derived.Test.YtghjemcbkackjaaDoorFBase
import Derived.Laws.RangeString
import Derived.Laws.RangeAny
import Derived.LoopTactic
import Derived.Tactics2
import Derived.StillTactics
import Derived.Deep.QuietTactic
import Derived.BigQuiet
import Derived.WalkLawsBesides
import Derived.WalkSpells
namespace Go.Proofs.YtghjemcbkackjaaDoor.F
open Go.RowKit Go.Proofs.YtghjemcbkackjaaDoorW.PrintWords
set_option linter.unusedVariables false
set_option linter.unusedSimpArgs false

def isDig (c : UInt8) : Bool := 48 ≤ c.toNat && c.toNat ≤ 57
/-- How many digits a text begins with. -/
def digs (s : ByteArray) : Nat := (s.data.toList.takeWhile isDig).length
def rule_digits.f (s : ByteArray) : Option Int := if s.size ≤ 9223372036854775807 then some (digs s : Int) else none

theorem takeWhile_len_of {p : UInt8 → Bool} : ∀ (l : List UInt8) (k : Nat), k ≤ l.length → (∀ j (h : j < l.length), j < k → p l[j] = true) → (∀ h : k < l.length, p l[k] = false) → (l.takeWhile p).length = k
  | [], k, hk, _, _ => by simp at hk; simp [hk]
  | a :: l, 0, _, _, h => by have := h (by simp); simp at this; simp [List.takeWhile_cons, this]
  | a :: l, k + 1, hk, h1, h2 => by
    have ha : p a = true := h1 0 (by simp) (by omega)
    rw [List.takeWhile_cons, if_pos ha, List.length_cons, takeWhile_len_of l k (by simpa using hk) (fun j hj hjk => by have := h1 (j + 1) (by simpa using hj) (by omega); simpa using this) (fun hk' => by have := h2 (by simpa using hk'); simpa using this)]
theorem digs_of (s : ByteArray) (k : Nat) (hk : k ≤ s.size) (h1 : ∀ j (h : j < s.size), j < k → isDig s[j] = true) (h2 : ∀ h : k < s.size, isDig s[k] = false) : digs s = k := by
  unfold digs
  refine takeWhile_len_of _ k (by simpa using hk) (fun j hj hjk => ?_) (fun hk' => ?_)
  · rw [Array.getElem_toList]; exact h1 j (by simpa using hj) hjk
  · rw [Array.getElem_toList]; exact h2 (by simpa using hk')

theorem decode_dig (s : ByteArray) (pos : Nat) (h : pos < s.size) : ((48 ≤ (Utf8.decode s pos).1 ∧ (Utf8.decode s pos).1 ≤ 57) → isDig s[pos] = true ∧ (Utf8.decode s pos).2 = 1) ∧ (¬ (48 ≤ (Utf8.decode s pos).1 ∧ (Utf8.decode s pos).1 ≤ 57) → isDig s[pos] = false) := by
  by_cases ha : (s[pos]'h).toNat < 128
  · rw [decode_ascii s pos h ha]
    unfold isDig
    refine ⟨fun hh => ⟨by simp; omega, rfl⟩, fun hh => ?_⟩
    simp
    omega
  · have hd := (decode_high s pos h (by omega)).1
    unfold isDig
    refine ⟨fun hh => by omega, fun _ => by simp; omega⟩

set_option maxRecDepth 1000000 in
theorem rule_digits.calls (s : ByteArray) (r : Int) (w : World) (hG : GW w) (h : rule_digits.f s = some r) :
    Calls Tryd.prog 47 #[.string s] w fun e w' => e = .returned (.int .i64 r) ∧ Below w.heap.size w w' := by
  unfold rule_digits.f at h
  split at h
  case isFalse => cases h
  rename_i hs
  obtain rfl := Option.some.inj h
  clear h
  have hb : ∀ pos, Below w.heap.size w (w.iter s pos) := fun pos => (Below.refl _ _).alloc (Nat.le_refl _) _
  have HBI := Lib.hid hb
  clear hb
  go_enter Tryd.func47, Tryd.ntmps47
  go_wp2
  go_loopw [] (fun w' => ∃ (pos : Nat), w' = w.iter s pos ∧ Hid (pos ≤ s.size ∧ ∀ j (h : j < s.size), j < pos → isDig s[j] = true)) (fun w' => s.size - w'.iterPos w.heap.size)
  case atStart => exact ⟨0, rfl, by refine Lib.hid ⟨by omega, fun j _ hj => by omega⟩⟩
  case round =>
    obtain ⟨pos, rfl, hc⟩ := hrel
    by_cases hp : pos < s.size
    · have hnx : ∀ ty, (Instr.next (.pointer (some ⟨w.heap.size, 0, none⟩)) true ty).run Tryd.prog (w.iter s pos) = _ := fun ty => run_next_any w s pos ty hp
      have HD := Lib.hid (decode_dig s pos hp)
      have hw : 1 ≤ (Utf8.decode s pos).2 := by
        by_cases ha : (s[pos]'hp).toNat < 128
        · rw [decode_ascii s pos hp ha]; exact Nat.le_refl _
        · exact (decode_high s pos hp (by omega)).2
      by_cases h1 : (Utf8.decode s pos).1 < 48
      · have hres : digs s = pos := digs_of s pos hc.1 hc.2 fun _ => (HD.2 (by omega))
        have HR := Lib.hid hres
        have c1 : decide ((((Utf8.decode s pos).1 : Nat) : Int) < 48) = true := decide_eq_true (by omega)
        clear hres hc HD
        go_wp2
        go_ret
        exact ⟨by rw [HR.out]; rfl, HBI.out _⟩
      · by_cases h2 : 57 < (Utf8.decode s pos).1
        · have hres : digs s = pos := digs_of s pos hc.1 hc.2 fun _ => (HD.2 (by omega))
          have HR := Lib.hid hres
          have c1 : decide ((((Utf8.decode s pos).1 : Nat) : Int) < 48) = false := decide_eq_false (by omega)
          have c2 : decide (57 < (((Utf8.decode s pos).1 : Nat) : Int)) = true := decide_eq_true (by omega)
          clear hres hc HD
          go_wp2
          go_ret
          exact ⟨by rw [HR.out]; rfl, HBI.out _⟩
        · have c1 : decide ((((Utf8.decode s pos).1 : Nat) : Int) < 48) = false := decide_eq_false (by omega)
          have c2 : decide (57 < (((Utf8.decode s pos).1 : Nat) : Int)) = false := decide_eq_false (by omega)
          have hd := HD.1 (by omega)
          have HE := Lib.hid hd
          clear hd
          have HC := Lib.hid hc
          clear hc
          go_wp2
          go_roundw
          case rel =>
            refine ⟨pos + (Utf8.decode s pos).2, rfl, Lib.hid ?_⟩
            have hd := HE.out
            have hc := HC.out
            rw [hd.2]
            refine ⟨by omega, fun j hj hjk => ?_⟩
            by_cases e : j = pos
            · subst e; exact hd.1
            · exact hc.2 j hj (by omega)
          case measure => simp; omega
    · have hnx : ∀ ty, (Instr.next (.pointer (some ⟨w.heap.size, 0, none⟩)) true ty).run Tryd.prog (w.iter s pos) = _ := fun ty => run_next_end w s pos ty hp
      have hres : digs s = s.size := digs_of s s.size (Nat.le_refl _) (fun j hj _ => hc.2 j hj (by omega)) fun h => absurd h (Nat.lt_irrefl _)
      have HR := Lib.hid hres
      clear hres hc
      go_wp2
      go_ret
      exact ⟨by rw [HR.out]; rfl, HBI.out _⟩

/-! ### day.Last -/
def monthF (m : Int) : Int := if m = 2 then 28 else if m = 4 then 30 else if m = 6 then 30 else if m = 9 then 30 else if m = 11 then 30 else 31
def leapF (y : Int) : Bool := decide (y % 4 = 0 ∧ (y % 100 ≠ 0 ∨ y % 400 = 0))
def day_Last.f (y m : Int) : Option (Int × Bool) :=
  if y < 1 then some (0, false) else if 9999 < y then some (0, false) else if m < 1 then some (0, false) else if 12 < m then some (0, false)
  else some (if m = 2 then (if leapF y = true then 29 else 28) else monthF m, true)
theorem ret_bool {a b : Bool} (h : a = b) : Ending.returned (.bool a) = .returned (.bool b) := by rw [h]
theorem leap_any (y : Int) (w : World) (h1 : 1 ≤ y) (h2 : y ≤ 9999) :
    Calls Tryd.prog 55 #[.int .i64 y] w fun e w' => e = .returned (.bool (leapF y)) ∧ w = w' := by
  by_cases a : y % 4 = 0
  · by_cases b : y % 100 = 0
    · by_cases c : y % 400 = 0
      · go_enter Tryd.func55, Tryd.ntmps55
        go_wp2
        go_ret
        exact ⟨ret_bool (by simp [leapF, a, b, c]), rfl⟩
      · have c' : (y % 400 == 0) = false := beq_eq_false_iff_ne.2 c
        go_enter Tryd.func55, Tryd.ntmps55
        go_wp2
        go_ret
        exact ⟨ret_bool (by simp [leapF, a, b, c]), rfl⟩
    · have b' : (y % 100 != 0) = true := bne_iff_ne.2 b
      go_enter Tryd.func55, Tryd.ntmps55
      go_wp2
      go_ret
      exact ⟨ret_bool (by simp [leapF, a, b]), rfl⟩
  · have a' : (y % 4 == 0) = false := beq_eq_false_iff_ne.2 a
    go_enter Tryd.func55, Tryd.ntmps55
    go_wp2
    go_ret
    exact ⟨ret_bool (by simp [leapF, a]), rfl⟩
theorem last_y0 (y m : Int) (w : World) (h : y < 1) :
    Calls Tryd.prog 37 #[.int .i64 y, .int .i64 m] w fun e w' => e = .returned (.tuple #[.int .i64 0, .bool false]) ∧ w = w' := by
  have c : decide (y < 1) = true := decide_eq_true h
  go_enter Tryd.func37, Tryd.ntmps37
  go_wp2
  go_ret2
  exact ⟨rfl, rfl⟩
theorem last_y1 (y m : Int) (w : World) (h : 9999 < y) :
    Calls Tryd.prog 37 #[.int .i64 y, .int .i64 m] w fun e w' => e = .returned (.tuple #[.int .i64 0, .bool false]) ∧ w = w' := by
  have c : decide (y < 1) = false := decide_eq_false (by omega)
  have c2 : decide (9999 < y) = true := decide_eq_true h
  go_enter Tryd.func37, Tryd.ntmps37
  go_wp2
  go_ret2
  exact ⟨rfl, rfl⟩
theorem last_m0 (y m : Int) (w : World) (h0 : 1 ≤ y) (h1 : y ≤ 9999) (h : m < 1) :
    Calls Tryd.prog 37 #[.int .i64 y, .int .i64 m] w fun e w' => e = .returned (.tuple #[.int .i64 0, .bool false]) ∧ w = w' := by
  have c3 : decide (m < 1) = true := decide_eq_true h
  go_enter Tryd.func37, Tryd.ntmps37
  go_wp2
  go_ret2
  exact ⟨rfl, rfl⟩
theorem last_m1 (y m : Int) (w : World) (h0 : 1 ≤ y) (h1 : y ≤ 9999) (h : 12 < m) :
    Calls Tryd.prog 37 #[.int .i64 y, .int .i64 m] w fun e w' => e = .returned (.tuple #[.int .i64 0, .bool false]) ∧ w = w' := by
  have c3 : decide (m < 1) = false := decide_eq_false (by omega)
  have c4 : decide (12 < m) = true := decide_eq_true h
  go_enter Tryd.func37, Tryd.ntmps37
  go_wp2
  go_ret2
  exact ⟨rfl, rfl⟩
set_option maxRecDepth 100000 in
theorem last_k1 (y : Int) (w : World) (h0 : 1 ≤ y) (h1 : y ≤ 9999) :
    Calls Tryd.prog 37 #[.int .i64 y, .int .i64 1] w fun e w' => e = .returned (.tuple #[.int .i64 31, .bool true]) ∧ w = w' := by
  have hix : ∀ w, (Instr.index 85 (.agg #[.int .i64 31, .int .i64 28, .int .i64 31, .int .i64 30, .int .i64 31, .int .i64 30, .int .i64 31, .int .i64 31, .int .i64 30, .int .i64 31, .int .i64 30, .int .i64 31]) (.int .i64 0)).run Tryd.prog w = .ok (.int .i64 31) w := fun _ => by kernel_rfl
  go_enter Tryd.func37, Tryd.ntmps37
  go_wp2
  go_ret2
  exact ⟨rfl, rfl⟩
set_option maxRecDepth 100000 in
theorem last_k2true (y : Int) (w : World) (h0 : 1 ≤ y) (h1 : y ≤ 9999) (hl : leapF y = true) :
    Calls Tryd.prog 37 #[.int .i64 y, .int .i64 2] w fun e w' => e = .returned (.tuple #[.int .i64 29, .bool true]) ∧ w = w' := by
  have HL := fun W => leap_any y W h0 h1
  rw [hl] at HL
  have H := Lib.hid HL
  clear HL hl
  have hix : ∀ w, (Instr.index 85 (.agg #[.int .i64 31, .int .i64 28, .int .i64 31, .int .i64 30, .int .i64 31, .int .i64 30, .int .i64 31, .int .i64 31, .int .i64 30, .int .i64 31, .int .i64 30, .int .i64 31]) (.int .i64 1)).run Tryd.prog w = .ok (.int .i64 28) w := fun _ => by kernel_rfl
  go_enter Tryd.func37, Tryd.ntmps37
  go_wp2_with (go_at_call 55; refine (H.out _).mono ?_; rintro e w' ⟨rfl, rfl⟩)
  go_ret2
  exact ⟨rfl, rfl⟩
set_option maxRecDepth 100000 in
theorem last_k2false (y : Int) (w : World) (h0 : 1 ≤ y) (h1 : y ≤ 9999) (hl : leapF y = false) :
    Calls Tryd.prog 37 #[.int .i64 y, .int .i64 2] w fun e w' => e = .returned (.tuple #[.int .i64 28, .bool true]) ∧ w = w' := by
  have HL := fun W => leap_any y W h0 h1
  rw [hl] at HL
  have H := Lib.hid HL
  clear HL hl
  have hix : ∀ w, (Instr.index 85 (.agg #[.int .i64 31, .int .i64 28, .int .i64 31, .int .i64 30, .int .i64 31, .int .i64 30, .int .i64 31, .int .i64 31, .int .i64 30, .int .i64 31, .int .i64 30, .int .i64 31]) (.int .i64 1)).run Tryd.prog w = .ok (.int .i64 28) w := fun _ => by kernel_rfl
  go_enter Tryd.func37, Tryd.ntmps37
  go_wp2_with (go_at_call 55; refine (H.out _).mono ?_; rintro e w' ⟨rfl, rfl⟩)
  go_ret2
  exact ⟨rfl, rfl⟩
set_option maxRecDepth 100000 in
theorem last_k3 (y : Int) (w : World) (h0 : 1 ≤ y) (h1 : y ≤ 9999) :
    Calls Tryd.prog 37 #[.int .i64 y, .int .i64 3] w fun e w' => e = .returned (.tuple #[.int .i64 31, .bool true]) ∧ w = w' := by
  have hix : ∀ w, (Instr.index 85 (.agg #[.int .i64 31, .int .i64 28, .int .i64 31, .int .i64 30, .int .i64 31, .int .i64 30, .int .i64 31, .int .i64 31, .int .i64 30, .int .i64 31, .int .i64 30, .int .i64 31]) (.int .i64 2)).run Tryd.prog w = .ok (.int .i64 31) w := fun _ => by kernel_rfl
  go_enter Tryd.func37, Tryd.ntmps37
  go_wp2
  go_ret2
  exact ⟨rfl, rfl⟩
set_option maxRecDepth 100000 in
theorem last_k4 (y : Int) (w : World) (h0 : 1 ≤ y) (h1 : y ≤ 9999) :
    Calls Tryd.prog 37 #[.int .i64 y, .int .i64 4] w fun e w' => e = .returned (.tuple #[.int .i64 30, .bool true]) ∧ w = w' := by
  have hix : ∀ w, (Instr.index 85 (.agg #[.int .i64 31, .int .i64 28, .int .i64 31, .int .i64 30, .int .i64 31, .int .i64 30, .int .i64 31, .int .i64 31, .int .i64 30, .int .i64 31, .int .i64 30, .int .i64 31]) (.int .i64 3)).run Tryd.prog w = .ok (.int .i64 30) w := fun _ => by kernel_rfl
  go_enter Tryd.func37, Tryd.ntmps37
  go_wp2
  go_ret2
  exact ⟨rfl, rfl⟩
set_option maxRecDepth 100000 in
theorem last_k5 (y : Int) (w : World) (h0 : 1 ≤ y) (h1 : y ≤ 9999) :
    Calls Tryd.prog 37 #[.int .i64 y, .int .i64 5] w fun e w' => e = .returned (.tuple #[.int .i64 31, .bool true]) ∧ w = w' := by
  have hix : ∀ w, (Instr.index 85 (.agg #[.int .i64 31, .int .i64 28, .int .i64 31, .int .i64 30, .int .i64 31, .int .i64 30, .int .i64 31, .int .i64 31, .int .i64 30, .int .i64 31, .int .i64 30, .int .i64 31]) (.int .i64 4)).run Tryd.prog w = .ok (.int .i64 31) w := fun _ => by kernel_rfl
  go_enter Tryd.func37, Tryd.ntmps37
  go_wp2
  go_ret2
  exact ⟨rfl, rfl⟩
set_option maxRecDepth 100000 in
theorem last_k6 (y : Int) (w : World) (h0 : 1 ≤ y) (h1 : y ≤ 9999) :
    Calls Tryd.prog 37 #[.int .i64 y, .int .i64 6] w fun e w' => e = .returned (.tuple #[.int .i64 30, .bool true]) ∧ w = w' := by
  have hix : ∀ w, (Instr.index 85 (.agg #[.int .i64 31, .int .i64 28, .int .i64 31, .int .i64 30, .int .i64 31, .int .i64 30, .int .i64 31, .int .i64 31, .int .i64 30, .int .i64 31, .int .i64 30, .int .i64 31]) (.int .i64 5)).run Tryd.prog w = .ok (.int .i64 30) w := fun _ => by kernel_rfl
  go_enter Tryd.func37, Tryd.ntmps37
  go_wp2
  go_ret2
  exact ⟨rfl, rfl⟩
set_option maxRecDepth 100000 in
theorem last_k7 (y : Int) (w : World) (h0 : 1 ≤ y) (h1 : y ≤ 9999) :
    Calls Tryd.prog 37 #[.int .i64 y, .int .i64 7] w fun e w' => e = .returned (.tuple #[.int .i64 31, .bool true]) ∧ w = w' := by
  have hix : ∀ w, (Instr.index 85 (.agg #[.int .i64 31, .int .i64 28, .int .i64 31, .int .i64 30, .int .i64 31, .int .i64 30, .int .i64 31, .int .i64 31, .int .i64 30, .int .i64 31, .int .i64 30, .int .i64 31]) (.int .i64 6)).run Tryd.prog w = .ok (.int .i64 31) w := fun _ => by kernel_rfl
  go_enter Tryd.func37, Tryd.ntmps37
  go_wp2
  go_ret2
  exact ⟨rfl, rfl⟩
set_option maxRecDepth 100000 in
theorem last_k8 (y : Int) (w : World) (h0 : 1 ≤ y) (h1 : y ≤ 9999) :
    Calls Tryd.prog 37 #[.int .i64 y, .int .i64 8] w fun e w' => e = .returned (.tuple #[.int .i64 31, .bool true]) ∧ w = w' := by
  have hix : ∀ w, (Instr.index 85 (.agg #[.int .i64 31, .int .i64 28, .int .i64 31, .int .i64 30, .int .i64 31, .int .i64 30, .int .i64 31, .int .i64 31, .int .i64 30, .int .i64 31, .int .i64 30, .int .i64 31]) (.int .i64 7)).run Tryd.prog w = .ok (.int .i64 31) w := fun _ => by kernel_rfl
  go_enter Tryd.func37, Tryd.ntmps37
  go_wp2
  go_ret2
  exact ⟨rfl, rfl⟩
set_option maxRecDepth 100000 in
theorem last_k9 (y : Int) (w : World) (h0 : 1 ≤ y) (h1 : y ≤ 9999) :
    Calls Tryd.prog 37 #[.int .i64 y, .int .i64 9] w fun e w' => e = .returned (.tuple #[.int .i64 30, .bool true]) ∧ w = w' := by
  have hix : ∀ w, (Instr.index 85 (.agg #[.int .i64 31, .int .i64 28, .int .i64 31, .int .i64 30, .int .i64 31, .int .i64 30, .int .i64 31, .int .i64 31, .int .i64 30, .int .i64 31, .int .i64 30, .int .i64 31]) (.int .i64 8)).run Tryd.prog w = .ok (.int .i64 30) w := fun _ => by kernel_rfl
  go_enter Tryd.func37, Tryd.ntmps37
  go_wp2
  go_ret2
  exact ⟨rfl, rfl⟩
set_option maxRecDepth 100000 in
theorem last_k10 (y : Int) (w : World) (h0 : 1 ≤ y) (h1 : y ≤ 9999) :
    Calls Tryd.prog 37 #[.int .i64 y, .int .i64 10] w fun e w' => e = .returned (.tuple #[.int .i64 31, .bool true]) ∧ w = w' := by
  have hix : ∀ w, (Instr.index 85 (.agg #[.int .i64 31, .int .i64 28, .int .i64 31, .int .i64 30, .int .i64 31, .int .i64 30, .int .i64 31, .int .i64 31, .int .i64 30, .int .i64 31, .int .i64 30, .int .i64 31]) (.int .i64 9)).run Tryd.prog w = .ok (.int .i64 31) w := fun _ => by kernel_rfl
  go_enter Tryd.func37, Tryd.ntmps37
  go_wp2
  go_ret2
  exact ⟨rfl, rfl⟩
set_option maxRecDepth 100000 in
theorem last_k11 (y : Int) (w : World) (h0 : 1 ≤ y) (h1 : y ≤ 9999) :
    Calls Tryd.prog 37 #[.int .i64 y, .int .i64 11] w fun e w' => e = .returned (.tuple #[.int .i64 30, .bool true]) ∧ w = w' := by
  have hix : ∀ w, (Instr.index 85 (.agg #[.int .i64 31, .int .i64 28, .int .i64 31, .int .i64 30, .int .i64 31, .int .i64 30, .int .i64 31, .int .i64 31, .int .i64 30, .int .i64 31, .int .i64 30, .int .i64 31]) (.int .i64 10)).run Tryd.prog w = .ok (.int .i64 30) w := fun _ => by kernel_rfl
  go_enter Tryd.func37, Tryd.ntmps37
  go_wp2
  go_ret2
  exact ⟨rfl, rfl⟩
set_option maxRecDepth 100000 in
theorem last_k12 (y : Int) (w : World) (h0 : 1 ≤ y) (h1 : y ≤ 9999) :
    Calls Tryd.prog 37 #[.int .i64 y, .int .i64 12] w fun e w' => e = .returned (.tuple #[.int .i64 31, .bool true]) ∧ w = w' := by
  have hix : ∀ w, (Instr.index 85 (.agg #[.int .i64 31, .int .i64 28, .int .i64 31, .int .i64 30, .int .i64 31, .int .i64 30, .int .i64 31, .int .i64 31, .int .i64 30, .int .i64 31, .int .i64 30, .int .i64 31]) (.int .i64 11)).run Tryd.prog w = .ok (.int .i64 31) w := fun _ => by kernel_rfl
  go_enter Tryd.func37, Tryd.ntmps37
  go_wp2
  go_ret2
  exact ⟨rfl, rfl⟩
theorem day_Last.calls (y m : Int) (r1 : Int) (r2 : Bool) (w : World) (hG : GW w) (h : day_Last.f y m = some (r1, r2)) :
    Calls Tryd.prog 37 #[.int .i64 y, .int .i64 m] w fun e w' => e = .returned (.tuple #[.int .i64 r1, .bool r2]) ∧ Drawn0 w w' := by
  have key : ∀ {R : Ending → World → Prop}, Calls Tryd.prog 37 #[.int .i64 y, .int .i64 m] w (fun e w' => e = .returned (.tuple #[.int .i64 r1, .bool r2]) ∧ w = w') → Calls Tryd.prog 37 #[.int .i64 y, .int .i64 m] w fun e w' => e = .returned (.tuple #[.int .i64 r1, .bool r2]) ∧ Drawn0 w w' :=
    fun hc => hc.mono fun _ _ ⟨a, b⟩ => ⟨a, b ▸ Drawn0.refl _⟩
  refine key (R := fun _ _ => True) ?_
  unfold day_Last.f at h
  split at h
  · simp only [Option.some.injEq, Prod.mk.injEq] at h; obtain ⟨rfl, rfl⟩ := h; exact last_y0 y m w (by assumption)
  split at h
  · simp only [Option.some.injEq, Prod.mk.injEq] at h; obtain ⟨rfl, rfl⟩ := h; exact last_y1 y m w (by assumption)
  split at h
  · simp only [Option.some.injEq, Prod.mk.injEq] at h; obtain ⟨rfl, rfl⟩ := h; exact last_m0 y m w (by omega) (by omega) (by assumption)
  split at h
  · simp only [Option.some.injEq, Prod.mk.injEq] at h; obtain ⟨rfl, rfl⟩ := h; exact last_m1 y m w (by omega) (by omega) (by assumption)
  rename_i h1 h2 h3 h4
  simp only [Option.some.injEq, Prod.mk.injEq] at h
  obtain ⟨he, rfl⟩ := h
  subst he
  by_cases e2 : m = 2
  · subst e2
    rw [if_pos rfl]
    by_cases hl : leapF y = true
    · rw [if_pos hl]; exact last_k2true y w (by omega) (by omega) hl
    · rw [if_neg hl]; exact last_k2false y w (by omega) (by omega) (by simpa using hl)
  rw [if_neg e2]
  by_cases e1 : m = 1
  · subst e1; exact last_k1 y w (by omega) (by omega)
  by_cases e3 : m = 3
  · subst e3; exact last_k3 y w (by omega) (by omega)
  by_cases e4 : m = 4
  · subst e4; exact last_k4 y w (by omega) (by omega)
  by_cases e5 : m = 5
  · subst e5; exact last_k5 y w (by omega) (by omega)
  by_cases e6 : m = 6
  · subst e6; exact last_k6 y w (by omega) (by omega)
  by_cases e7 : m = 7
  · subst e7; exact last_k7 y w (by omega) (by omega)
  by_cases e8 : m = 8
  · subst e8; exact last_k8 y w (by omega) (by omega)
  by_cases e9 : m = 9
  · subst e9; exact last_k9 y w (by omega) (by omega)
  by_cases e10 : m = 10
  · subst e10; exact last_k10 y w (by omega) (by omega)
  by_cases e11 : m = 11
  · subst e11; exact last_k11 y w (by omega) (by omega)
  by_cases e12 : m = 12
  · subst e12; exact last_k12 y w (by omega) (by omega)
  omega
end Go.Proofs.YtghjemcbkackjaaDoor.F
