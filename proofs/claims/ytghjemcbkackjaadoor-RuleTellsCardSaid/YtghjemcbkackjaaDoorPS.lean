/- Plain facts on texts as lists of bytes. -/
import Derived.Test.YtghjemcbkackjaaDoorV
import Derived.Lib.Strings
import Derived.Lib.Atoi
import Derived.Laws.Concat
import Derived.Test.YtghjemcbkackjaaDoorFBase
import Derived.Test.YtghjemcbkackjaaDoorFRule
namespace Go.Proofs.YtghjemcbkackjaaDoor.T
open Go.RowKit Go.Proofs.YtghjemcbkackjaaDoorW.PrintWords Go.Proofs.YtghjemcbkackjaaDoor.F
set_option linter.unusedVariables false
set_option linter.unusedSimpArgs false

/-- A text out of a list. -/
abbrev S (l : List UInt8) : ByteArray := ⟨l.toArray⟩
theorem of_S (s : ByteArray) : s = S s.data.toList := by cases s; simp [S]
theorem S_size (l : List UInt8) : (S l).size = l.length := by simp [S, ByteArray.size]
theorem S_sizeI (l : List UInt8) : ((S l).size : Int) = (l.length : Int) := by rw [S_size]
theorem S_append (a b : List UInt8) : S a ++ S b = S (a ++ b) := ByteArray.mk_append_mk a b
theorem S_toList (l : List UInt8) : (S l).toList = l := ByteArray.toList_mk l
theorem S_data (l : List UInt8) : (S l).data.toList = l := by simp [S]
theorem S_inj {a b : List UInt8} (h : S a = S b) : a = b := by have := congrArg (fun s => s.data.toList) h; simpa [S] using this
theorem S_extract (l : List UInt8) (a b : Nat) : (S l).extract a b = S ((l.drop a).take (b - a)) := by rw [Lib.extract_eq, S_data]
theorem S_drop (l : List UInt8) (a : Nat) : (S l).extract a (S l).size = S (l.drop a) := by
  rw [S_extract, S_size, List.take_of_length_le (by simp)]
theorem S_take (l : List UInt8) (b : Nat) : (S l).extract 0 b = S (l.take b) := by rw [S_extract]; simp
theorem S_bt (l : List UInt8) (i : Nat) (h : i < l.length) : bt (S l) (i : Int) = ((l[i]'h).toNat : Int) := by
  unfold bt
  rw [dif_pos (by rw [S_size]; simpa using h)]
  rfl
theorem S_bt0 (c : UInt8) (l : List UInt8) : bt (S (c :: l)) 0 = (c.toNat : Int) := S_bt (c :: l) 0 (by simp)
theorem S_bt1 (a c : UInt8) (l : List UInt8) : bt (S (a :: c :: l)) 1 = (c.toNat : Int) := S_bt (a :: c :: l) 1 (by simp)
theorem S_bt2 (a b c : UInt8) (l : List UInt8) : bt (S (a :: b :: c :: l)) 2 = (c.toNat : Int) := S_bt (a :: b :: c :: l) 2 (by simp)

theorem u8_lt (c : UInt8) : c.toNat < 256 := c.toNat_lt
theorem u8_eq {a b : UInt8} (h : a.toNat = b.toNat) : a = b := UInt8.toNat_inj.1 h

/-- How many digits a list begins with. -/
def dl (l : List UInt8) : Nat := (l.takeWhile isDig).length
theorem digs_S (l : List UInt8) : digs (S l) = dl l := by unfold digs dl; rw [S_data]
theorem dl_le (l : List UInt8) : dl l ≤ l.length := by unfold dl; exact (List.takeWhile_sublist _).length_le
theorem dl_cons (c : UInt8) (l : List UInt8) : dl (c :: l) = if isDig c = true then dl l + 1 else 0 := by
  unfold dl; rw [List.takeWhile_cons]; split <;> simp
theorem dl_nil : dl [] = 0 := rfl
theorem rule_digits_S (l : List UInt8) (h : l.length ≤ 9223372036854775807) : rule_digits.f (S l) = some (dl l : Int) := by
  unfold rule_digits.f
  rw [if_pos (by rw [S_size]; exact h), digs_S]

/-- The number of a row of digits. -/
def valL (l : List UInt8) : Nat := l.foldl (fun n c => 10 * n + (c.toNat - 48)) 0
theorem decFrom_val : ∀ (l : List UInt8) (acc : Nat), (∀ c ∈ l, isDig c = true) → Lib.decFrom acc l = some (l.foldl (fun n c => 10 * n + (c.toNat - 48)) acc)
  | [], acc, _ => rfl
  | c :: l, acc, h => by
    have hc : isDig c = true := h c (by simp)
    unfold isDig at hc
    simp at hc
    unfold Lib.decFrom Lib.digitVal
    rw [if_pos hc]
    simp only []
    rw [decFrom_val l _ (fun c' hc' => h c' (by simp [hc'])), List.foldl_cons, Nat.mul_comm]
theorem atoi_val (l : List UInt8) (hne : l ≠ []) (h : ∀ c ∈ l, isDig c = true) : Lib.atoi l = some (valL l : Int) := by
  cases l with
  | nil => exact absurd rfl hne
  | cons c r =>
    have hc : isDig c = true := h c (by simp)
    unfold isDig at hc
    simp at hc
    have h1 : (c == 45) = false := by rw [beq_eq_false_iff_ne]; rintro rfl; simp at hc
    have h2 : (c == 43) = false := by rw [beq_eq_false_iff_ne]; rintro rfl; simp at hc
    simp only [Lib.atoi, Lib.decNat, h1, h2, Bool.false_eq_true, if_false, List.isEmpty_cons]
    rw [decFrom_val _ _ h]
    rfl
theorem strconv_Atoi_S (l : List UInt8) (hne : l ≠ []) (h : ∀ c ∈ l, isDig c = true) (hl : l.length ≤ 18) : strconv_Atoi.f (S l) = some ((valL l : Int), none) := by
  unfold strconv_Atoi.f
  rw [if_pos (by rw [S_size]; exact hl), S_data, atoi_val l hne h]
  rfl
theorem take_dl_dig (l : List UInt8) (k : Nat) (h : k ≤ dl l) : ∀ c ∈ l.take k, isDig c = true := by
  intro c hc
  have hs : l.take k = (l.takeWhile isDig).take k := by
    conv => lhs; rw [← List.takeWhile_append_dropWhile (p := isDig) (l := l)]
    rw [List.take_append_of_le_length h]
  rw [hs] at hc
  have hall : (l.takeWhile isDig).all isDig = true := List.all_takeWhile
  exact List.all_eq_true.1 hall c (List.mem_of_mem_take hc)
theorem wrap_in (n : Int) (h0 : -9223372036854775808 ≤ n) (h1 : n ≤ 9223372036854775807) : wrap64 n = n := by unfold wrap64; omega
end Go.Proofs.YtghjemcbkackjaaDoor.T
