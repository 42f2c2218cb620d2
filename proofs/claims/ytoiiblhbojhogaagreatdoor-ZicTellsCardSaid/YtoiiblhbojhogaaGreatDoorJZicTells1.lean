/- What the functions come to in plain data, with proofs, and what that answers. -/
import Derived.Test.YtoiiblhbojhogaaGreatDoorJZicTells0
import Derived.Lib.Strings
import Derived.Lib.Atoi
import Derived.Laws.Concat
import Derived.Lib.ItoaNum
import Derived.Laws.RangeString
import Derived.Laws.RangeAny
import Derived.KernelRfl
import Derived.Lib.Bytealg
import Derived.Lib.Join
section
set_option linter.unusedVariables false
set_option linter.unusedSimpArgs false
namespace Go.Proofs.YtoiiblhbojhogaaGreatDoor.Pl
open Go
set_option linter.unusedVariables false
set_option linter.unusedSimpArgs false

def digsN : Nat → Nat → List UInt8
  | 0, _ => []
  | k + 1, u => if u < 10 then [UInt8.ofNat (48 + u)] else digsN k (u / 10) ++ [UInt8.ofNat (48 + u % 10)]
theorem digsN_eq : ∀ k u, u < 10 ^ (k + 1) → digsN (k + 1) u = Lib.decDigits u
  | 0, u, h => by rw [Lib.decDigits, digsN, if_pos (by simpa using h), dif_pos (by simpa using h)]
  | k + 1, u, h => by
    rw [Lib.decDigits, digsN]
    by_cases h1 : u < 10
    · rw [if_pos h1, dif_pos h1]
    · rw [if_neg h1, dif_neg h1, digsN_eq k (u / 10) (by rw [Nat.pow_succ] at h; omega)]
def itoaK (n : Int) : List UInt8 := if n < 0 then 45 :: digsN 20 n.natAbs else digsN 20 n.toNat
theorem itoaK_eq (n : Int) (h0 : -9223372036854775808 ≤ n) (h1 : n ≤ 9223372036854775807) : itoaK n = Lib.itoa n := by
  unfold itoaK Lib.itoa
  split
  · rw [digsN_eq 19 _ (by omega)]
  · rw [digsN_eq 19 _ (by omega)]
def isDig (c : UInt8) : Bool := 48 ≤ c.toNat && c.toNat ≤ 57
theorem takeWhile_len_of {p : UInt8 → Bool} : ∀ (l : List UInt8) (k : Nat), k ≤ l.length → (∀ j (h : j < l.length), j < k → p l[j] = true) → (∀ h : k < l.length, p l[k] = false) → (l.takeWhile p).length = k
  | [], k, hk, _, _ => by simp at hk; simp [hk]
  | a :: l, 0, _, _, h => by have := h (by simp); simp at this; simp [List.takeWhile_cons, this]
  | a :: l, k + 1, hk, h1, h2 => by
    have ha : p a = true := h1 0 (by simp) (by omega)
    rw [List.takeWhile_cons, if_pos ha, List.length_cons, takeWhile_len_of l k (by simpa using hk) (fun j hj hjk => by have := h1 (j + 1) (by simpa using hj) (by omega); simpa using this) (fun hk' => by have := h2 (by simpa using hk'); simpa using this)]
theorem decode_dig (s : ByteArray) (pos : Nat) (h : pos < s.size) : ((48 ≤ (Utf8.decode s pos).1 ∧ (Utf8.decode s pos).1 ≤ 57) → isDig s[pos] = true ∧ (Utf8.decode s pos).2 = 1) ∧ (¬ (48 ≤ (Utf8.decode s pos).1 ∧ (Utf8.decode s pos).1 ≤ 57) → isDig s[pos] = false) := by
  by_cases ha : (s[pos]'h).toNat < 128
  · rw [decode_ascii s pos h ha]
    unfold isDig
    refine ⟨fun hh => ⟨by simp; omega, rfl⟩, fun hh => ?_⟩
    simp
    omega
  · have hd := (decode_high s pos h (by omega)).1
    unfold isDig
    refine ⟨fun hh => by omega, fun _ => by simp; omega⟩

/-- A text out of a list. -/
abbrev S (l : List UInt8) : ByteArray := ⟨l.toArray⟩
theorem of_S (s : ByteArray) : s = S s.data.toList := by cases s; simp [S]
theorem S_size (l : List UInt8) : (S l).size = l.length := by simp [S, ByteArray.size]
theorem S_sizeI (l : List UInt8) : ((S l).size : Int) = (l.length : Int) := by rw [S_size]
theorem S_append (a b : List UInt8) : S a ++ S b = S (a ++ b) := ByteArray.mk_append_mk a b
theorem S_toList (l : List UInt8) : (S l).toList = l := ByteArray.toList_mk l
theorem S_data (l : List UInt8) : (S l).data.toList = l := by simp [S]
theorem S_inj {a b : List UInt8} (h : S a = S b) : a = b := by have := congrArg (fun s => s.data.toList) h; simpa [S] using this
theorem S_extract (l : List UInt8) (a b : Nat) : (S l).extract a b = S ((l.drop a).take (b - a)) := by rw [Lib.extract_eq, S_data]
theorem S_drop (l : List UInt8) (a : Nat) : (S l).extract a (S l).size = S (l.drop a) := by
  rw [S_extract, S_size, List.take_of_length_le (by simp)]
theorem S_take (l : List UInt8) (b : Nat) : (S l).extract 0 b = S (l.take b) := by rw [S_extract]; simp
theorem u8_lt (c : UInt8) : c.toNat < 256 := c.toNat_lt
theorem u8_eq {a b : UInt8} (h : a.toNat = b.toNat) : a = b := UInt8.toNat_inj.1 h

/-- How many digits a list begins with. -/
def dl (l : List UInt8) : Nat := (l.takeWhile isDig).length
theorem dl_le (l : List UInt8) : dl l ≤ l.length := by unfold dl; exact (List.takeWhile_sublist _).length_le
theorem dl_cons (c : UInt8) (l : List UInt8) : dl (c :: l) = if isDig c = true then dl l + 1 else 0 := by
  unfold dl; rw [List.takeWhile_cons]; split <;> simp
theorem dl_nil : dl [] = 0 := rfl
/-- The number of a row of digits. -/
def valL (l : List UInt8) : Nat := l.foldl (fun n c => 10 * n + (c.toNat - 48)) 0
theorem decFrom_val : ∀ (l : List UInt8) (acc : Nat), (∀ c ∈ l, isDig c = true) → Lib.decFrom acc l = some (l.foldl (fun n c => 10 * n + (c.toNat - 48)) acc)
  | [], acc, _ => rfl
  | c :: l, acc, h => by
    have hc : isDig c = true := h c (by simp)
    unfold isDig at hc
    simp at hc
    unfold Lib.decFrom Lib.digitVal
    rw [if_pos hc]
    simp only []
    rw [decFrom_val l _ (fun c' hc' => h c' (by simp [hc'])), List.foldl_cons, Nat.mul_comm]
theorem atoi_val (l : List UInt8) (hne : l ≠ []) (h : ∀ c ∈ l, isDig c = true) : Lib.atoi l = some (valL l : Int) := by
  cases l with
  | nil => exact absurd rfl hne
  | cons c r =>
    have hc : isDig c = true := h c (by simp)
    unfold isDig at hc
    simp at hc
    have h1 : (c == 45) = false := by rw [beq_eq_false_iff_ne]; rintro rfl; simp at hc
    have h2 : (c == 43) = false := by rw [beq_eq_false_iff_ne]; rintro rfl; simp at hc
    simp only [Lib.atoi, Lib.decNat, h1, h2, Bool.false_eq_true, if_false, List.isEmpty_cons]
    rw [decFrom_val _ _ h]
    rfl
theorem take_dl_dig (l : List UInt8) (k : Nat) (h : k ≤ dl l) : ∀ c ∈ l.take k, isDig c = true := by
  intro c hc
  have hs : l.take k = (l.takeWhile isDig).take k := by
    conv => lhs; rw [← List.takeWhile_append_dropWhile (p := isDig) (l := l)]
    rw [List.take_append_of_le_length h]
  rw [hs] at hc
  have hall : (l.takeWhile isDig).all isDig = true := List.all_takeWhile
  exact List.all_eq_true.1 hall c (List.mem_of_mem_take hc)

end Go.Proofs.YtoiiblhbojhogaaGreatDoor.Pl
end
section
set_option linter.unusedVariables false
set_option linter.unusedSimpArgs false
namespace Go.Proofs.YtoiiblhbojhogaaGreatDoor.Pl
open Go
set_option linter.unusedVariables false
set_option linter.unusedSimpArgs false

/-- What stands behind a colon: minutes, or seconds. -/
def sixtyL : List UInt8 → Int × List UInt8 × Bool
  | c :: a :: b :: r => if c = 58 ∧ isDig a = true ∧ isDig b = true ∧ a.toNat ≤ 53 then (10 * (a.toNat - 48) + (b.toNat - 48), r, true) else (0, c :: a :: b :: r, false)
  | l => (0, l, false)
theorem foldl_lt : ∀ (l : List UInt8) (acc : Nat), (∀ c ∈ l, isDig c = true) → l.foldl (fun n c => 10 * n + (c.toNat - 48)) acc < (acc + 1) * 10 ^ l.length
  | [], acc, _ => by simp
  | c :: l, acc, h => by
    have hc : isDig c = true := h c (by simp)
    unfold isDig at hc
    simp at hc
    have := foldl_lt l (10 * acc + (c.toNat - 48)) (fun c' hc' => h c' (by simp [hc']))
    rw [List.foldl_cons, List.length_cons, Nat.pow_succ]
    refine Nat.lt_of_lt_of_le this ?_
    have h1 : (10 * acc + (c.toNat - 48) + 1) ≤ (acc + 1) * 10 := by omega
    calc (10 * acc + (c.toNat - 48) + 1) * 10 ^ l.length ≤ ((acc + 1) * 10) * 10 ^ l.length := Nat.mul_le_mul_right _ h1
      _ = (acc + 1) * (10 ^ l.length * 10) := by rw [Nat.mul_assoc, Nat.mul_comm 10]
theorem valL_lt (l : List UInt8) (h : ∀ c ∈ l, isDig c = true) : valL l < 10 ^ l.length := by
  have := foldl_lt l 0 h
  simpa [valL] using this
theorem sixty_bd (l : List UInt8) : 0 ≤ (sixtyL l).1 ∧ (sixtyL l).1 ≤ 59 := by
  unfold sixtyL
  split
  · split
    · rename_i h
      obtain ⟨_, ha, hb, h5⟩ := h
      unfold isDig at ha hb
      simp at ha hb
      simp only []
      omega
    · simp
  · simp
theorem sixty_len (l : List UInt8) : (sixtyL l).2.1.length ≤ l.length := by
  unfold sixtyL
  split
  · split
    · simp; omega
    · simp
  · simp

/-- A time. -/
def signL : List UInt8 → Int × List UInt8
  | [] => (1, [])
  | c :: r => if c = 45 then (-1, r) else if c = 43 then (1, r) else (1, c :: r)
def hourL (t : List UInt8) : Nat × Nat :=
  if valL (t.take (min (dl t) 3)) > 167 then (valL (t.take (min (dl t) 3)) / 10, min (dl t) 3 - 1) else (valL (t.take (min (dl t) 3)), min (dl t) 3)
def moreL (p : Int × List UInt8 × Bool) : Int × List UInt8 × Bool := if p.2.2 = true then sixtyL p.2.1 else (0, p.2.1, false)
def timeL (l : List UInt8) : Int × List UInt8 × Bool :=
  if dl (signL l).2 = 0 then (0, l, false)
  else
    ((signL l).1 * ((hourL (signL l).2).1 * 3600 + (sixtyL ((signL l).2.drop (hourL (signL l).2).2)).1 * 60 + (moreL (sixtyL ((signL l).2.drop (hourL (signL l).2).2))).1),
      (moreL (sixtyL ((signL l).2.drop (hourL (signL l).2).2))).2.1, true)
theorem hour_bd (t : List UInt8) : (hourL t).1 ≤ 167 ∧ (hourL t).2 ≤ dl t ∧ (hourL t).2 ≤ 3 ∧ (dl t ≠ 0 → 1 ≤ (hourL t).2) := by
  have hv : valL (t.take (min (dl t) 3)) < 10 ^ (t.take (min (dl t) 3)).length := valL_lt _ (take_dl_dig t _ (Nat.min_le_left _ _))
  have hl : (t.take (min (dl t) 3)).length ≤ 3 := by rw [List.length_take]; omega
  have h3 : 10 ^ (t.take (min (dl t) 3)).length ≤ 10 ^ 3 := Nat.pow_le_pow_right (by omega) hl
  have hm : min (dl t) 3 ≤ dl t := Nat.min_le_left _ _
  have hm3 : min (dl t) 3 ≤ 3 := Nat.min_le_right _ _
  unfold hourL
  split
  · rename_i hgt
    refine ⟨by simp only []; omega, by simp only []; omega, by simp only []; omega, fun h0 => ?_⟩
    simp only []
    have : ¬ (t.take (min (dl t) 3)).length ≤ 1 := fun h1 => by
      have : 10 ^ (t.take (min (dl t) 3)).length ≤ 10 ^ 1 := Nat.pow_le_pow_right (by omega) h1
      omega
    rw [List.length_take] at this
    omega
  · refine ⟨by simp only []; omega, by simp only []; omega, by simp only []; omega, fun h0 => by simp only []; omega⟩
theorem itoaK_nat (n : Nat) : itoaK (n : Int) = digsN 20 n := by
  unfold itoaK
  rw [if_neg (by omega), Int.toNat_natCast]
def pairL (m : Nat) : List UInt8 := 58 :: (digsN 20 (m / 10) ++ digsN 20 (m % 10))
theorem digsN_len : ∀ k u, (digsN k u).length ≤ k
  | 0, _ => by simp [digsN]
  | k + 1, u => by
    rw [digsN]
    split
    · simp
    · have := digsN_len k (u / 10); simp; omega
/-- The text of a time. -/
def clockB (a : Nat) : List UInt8 := digsN 20 (a / 3600) ++ (if a % 60 ≠ 0 then pairL (a / 60 % 60) ++ pairL (a % 60) else if a / 60 % 60 ≠ 0 then pairL (a / 60 % 60) else [])
def clockL (sec : Int) : List UInt8 × Bool := if -604799 ≤ sec ∧ sec ≤ 604799 then ((if sec < 0 then [45] else []) ++ clockB sec.natAbs, true) else ([], false)
theorem pairL_len (m : Nat) : (pairL m).length ≤ 41 := by
  have l1 := digsN_len 20 (m / 10)
  have l2 := digsN_len 20 (m % 10)
  simp [pairL]; omega
theorem hours_ok : ∀ h, h < 168 → ((digsN 20 h).all isDig = true ∧ valL (digsN 20 h) = h ∧ 1 ≤ (digsN 20 h).length ∧ (digsN 20 h).length ≤ 3) := by decide +kernel
theorem pairs_ok : ∀ m, m < 60 → pairL m = [58, UInt8.ofNat (48 + m / 10), UInt8.ofNat (48 + m % 10)] := by decide +kernel
theorem dl_app (a b : List UInt8) (ha : a.all isDig = true) (hb : ∀ c, b.head? = some c → isDig c = false) : dl (a ++ b) = a.length := by
  induction a with
  | nil =>
    cases b with
    | nil => rfl
    | cons c b => rw [List.nil_append, dl_cons, if_neg (by rw [hb c rfl]; simp)]; rfl
  | cons c a ih =>
    simp only [List.all_cons, Bool.and_eq_true] at ha
    rw [List.cons_append, dl_cons, if_pos ha.1, ih ha.2]; rfl
theorem sixty_pair (m : Nat) (h : m < 60) (r : List UInt8) : sixtyL (pairL m ++ r) = ((m : Int), r, true) := by
  rw [pairs_ok m h]
  show sixtyL (58 :: UInt8.ofNat (48 + m / 10) :: UInt8.ofNat (48 + m % 10) :: r) = _
  simp only [sixtyL]
  have h1 : (UInt8.ofNat (48 + m / 10)).toNat = 48 + m / 10 := by rw [UInt8.toNat_ofNat']; omega
  have h2 : (UInt8.ofNat (48 + m % 10)).toNat = 48 + m % 10 := by rw [UInt8.toNat_ofNat']; omega
  rw [if_pos ⟨trivial, by unfold isDig; rw [h1]; simp; omega, by unfold isDig; rw [h2]; simp; omega, by rw [h1]; omega⟩, h1, h2]
  simp only [Prod.mk.injEq, and_true]
  omega
theorem sixty_other (r : List UInt8) (h : r.head? ≠ some 58) : sixtyL r = (0, r, false) := by
  unfold sixtyL
  split
  · rename_i c a b r'
    rw [if_neg]
    rintro ⟨rfl, _⟩
    exact h rfl
  · rfl
/-- Behind the hours: nothing, or a colon. -/
theorem time_body (a : Nat) (h : a ≤ 604799) (tail : List UInt8) (ht : ∀ c, tail.head? = some c → isDig c = false ∧ c ≠ 58) (sg : Int) (l : List UInt8) (hl : signL l = (sg, clockB a ++ tail)) :
    timeL l = (sg * (a : Int), tail, true) := by
  obtain ⟨d1, d2, d3, d4⟩ := hours_ok (a / 3600) (by omega)
  have hcol : isDig 58 = false := by decide
  obtain ⟨rest, hrest, hhead⟩ : ∃ rest, clockB a ++ tail = digsN 20 (a / 3600) ++ rest ∧ (∀ c, rest.head? = some c → isDig c = false) ∧
      (a % 60 ≠ 0 → rest = pairL (a / 60 % 60) ++ (pairL (a % 60) ++ tail)) ∧ (a % 60 = 0 → a / 60 % 60 ≠ 0 → rest = pairL (a / 60 % 60) ++ tail) ∧ (a % 60 = 0 → a / 60 % 60 = 0 → rest = tail) := by
    unfold clockB
    by_cases hs : a % 60 = 0
    · rw [if_neg (by simpa using hs)]
      by_cases hm : a / 60 % 60 = 0
      · rw [if_neg (by simpa using hm)]
        exact ⟨tail, by simp, fun c hc => (ht c hc).1, fun h' => absurd hs h', fun _ h' => absurd hm h', fun _ _ => rfl⟩
      · rw [if_pos (by simpa using hm)]
        exact ⟨pairL (a / 60 % 60) ++ tail, by simp, fun c hc => by simp [pairL] at hc; rw [← hc]; exact hcol, fun h' => absurd hs h', fun _ _ => rfl, fun _ h' => absurd h' hm⟩
    · rw [if_pos (by simpa using hs)]
      exact ⟨pairL (a / 60 % 60) ++ (pairL (a % 60) ++ tail), by simp, fun c hc => by simp [pairL] at hc; rw [← hc]; exact hcol, fun _ => rfl, fun h' => absurd h' hs, fun h' => absurd h' hs⟩
  have hdl : dl (digsN 20 (a / 3600) ++ rest) = (digsN 20 (a / 3600)).length := dl_app _ _ d1 hhead.1
  have hmin : min (dl (digsN 20 (a / 3600) ++ rest)) 3 = (digsN 20 (a / 3600)).length := by rw [hdl]; omega
  have hhour : hourL (digsN 20 (a / 3600) ++ rest) = (a / 3600, (digsN 20 (a / 3600)).length) := by
    unfold hourL
    rw [hmin, List.take_left, d2, if_neg (by omega)]
  unfold timeL
  rw [hl, hrest]
  simp only []
  rw [hhour]
  simp only []
  rw [if_neg (by omega), List.drop_left]
  by_cases hs : a % 60 = 0
  · by_cases hm : a / 60 % 60 = 0
    · rw [hhead.2.2.2 hs hm, sixty_other _ (fun e => (ht 58 e).2 rfl)]
      simp only [moreL, Prod.mk.injEq, and_true, Bool.false_eq_true, if_false]
      congr 1
      omega
    · rw [hhead.2.2.1 hs hm, sixty_pair _ (by omega)]
      simp only [moreL, if_true]
      rw [sixty_other _ (fun e => (ht 58 e).2 rfl)]
      simp only [Prod.mk.injEq, and_true]
      congr 1
      omega
  · rw [hhead.2.1 hs, sixty_pair _ (by omega)]
    simp only [moreL, if_true]
    rw [sixty_pair _ (by omega)]
    simp only [Prod.mk.injEq, and_true]
    congr 1
    omega
theorem clockB_head (a : Nat) (h : a ≤ 604799) (tail : List UInt8) : ∃ c r, clockB a ++ tail = c :: r ∧ isDig c = true := by
  obtain ⟨d1, d2, d3, d4⟩ := hours_ok (a / 3600) (by omega)
  unfold clockB
  match hq : digsN 20 (a / 3600), d3 with
  | c :: q, _ =>
    rw [hq] at d1
    simp only [List.all_cons, Bool.and_eq_true] at d1
    exact ⟨c, _, rfl, d1.1⟩
theorem time_clock (sec : Int) (h : -604799 ≤ sec ∧ sec ≤ 604799) (tail : List UInt8) (ht : ∀ c, tail.head? = some c → isDig c = false ∧ c ≠ 58) : timeL ((clockL sec).1 ++ tail) = (sec, tail, true) := by
  unfold clockL
  rw [if_pos h]
  by_cases h0 : sec < 0
  · simp only [if_pos h0]
    rw [time_body sec.natAbs (by omega) tail ht (-1) _ (by simp [signL])]
    congr 1
    omega
  · simp only [if_neg h0, List.nil_append]
    obtain ⟨c, r, e, hc⟩ := clockB_head sec.natAbs (by omega) tail
    have hc' : c ≠ 45 ∧ c ≠ 43 := by constructor <;> (rintro rfl; exact absurd hc (by decide))
    rw [time_body sec.natAbs (by omega) tail ht 1 _ (by rw [e]; simp [signL, hc'])]
    congr 1
    omega

/-! ### What is behind a time is an end of the text -/
theorem sixty_drop (l : List UInt8) : ∃ j, j ≤ l.length ∧ (sixtyL l).2.1 = l.drop j := by
  unfold sixtyL
  split
  · split
    · exact ⟨3, by simp, rfl⟩
    · exact ⟨0, by simp, rfl⟩
  · exact ⟨0, by simp, rfl⟩
theorem sign_drop (l : List UInt8) : ∃ j, j ≤ l.length ∧ (signL l).2 = l.drop j ∧ ((signL l).1 = 1 ∨ (signL l).1 = -1) := by
  unfold signL
  split
  · exact ⟨0, by simp, rfl, .inl rfl⟩
  · split
    · exact ⟨1, by simp, rfl, .inr rfl⟩
    · split
      · exact ⟨1, by simp, rfl, .inl rfl⟩
      · exact ⟨0, by simp, rfl, .inl rfl⟩
theorem time_drop (l : List UInt8) : ∃ j, j ≤ l.length ∧ (timeL l).2.1 = l.drop j ∧ ((timeL l).2.2 = true ↔ 0 < j) ∧ -604799 ≤ (timeL l).1 ∧ (timeL l).1 ≤ 604799 ∧ ((timeL l).2.2 = false → (timeL l).1 = 0 ∧ j = 0) := by
  obtain ⟨j0, h0, e0, hs⟩ := sign_drop l
  unfold timeL
  by_cases hd : dl (signL l).2 = 0
  · rw [if_pos hd]
    exact ⟨0, by omega, by simp, by simp, by simp, by simp, by simp⟩
  · rw [if_neg hd]
    obtain ⟨b1, b2, b3, b4⟩ := hour_bd (signL l).2
    have b4' := b4 hd
    have hdl := dl_le (signL l).2
    obtain ⟨j1, h1, e1⟩ := sixty_drop ((signL l).2.drop (hourL (signL l).2).2)
    have s1 := sixty_bd ((signL l).2.drop (hourL (signL l).2).2)
    have key : ∃ j2, j2 ≤ (sixtyL ((signL l).2.drop (hourL (signL l).2).2)).2.1.length ∧ (moreL (sixtyL ((signL l).2.drop (hourL (signL l).2).2))).2.1 = (sixtyL ((signL l).2.drop (hourL (signL l).2).2)).2.1.drop j2 ∧
        0 ≤ (moreL (sixtyL ((signL l).2.drop (hourL (signL l).2).2))).1 ∧ (moreL (sixtyL ((signL l).2.drop (hourL (signL l).2).2))).1 ≤ 59 := by
      unfold moreL
      split
      · obtain ⟨j2, h2, e2⟩ := sixty_drop (sixtyL ((signL l).2.drop (hourL (signL l).2).2)).2.1
        exact ⟨j2, h2, e2, sixty_bd _⟩
      · exact ⟨0, by omega, rfl, by simp, by simp⟩
    obtain ⟨j2, h2, e2, hb1, hb2⟩ := key
    rw [e2, e1, e0, List.drop_drop, List.drop_drop, List.drop_drop]
    rw [e1] at h2
    rw [e0] at h1 h2 hdl b2
    simp only [List.length_drop] at h1 h2 hdl
    rw [e0] at b4' b3 s1 hb1 hb2
    refine ⟨_, ?_, rfl, ?_, ?_⟩
    · omega
    · simp; omega
    · generalize (sixtyL (List.drop (hourL (List.drop j0 l)).2 (List.drop j0 l))).1 = x at *
      generalize (moreL (sixtyL (List.drop (hourL (List.drop j0 l)).2 (List.drop j0 l)))).1 = y at *
      rw [e0] at b1
      generalize (hourL (List.drop j0 l)).1 = v at *
      rcases hs with hs | hs <;> rw [hs] <;> refine ⟨?_, ?_, by simp⟩ <;> omega

end Go.Proofs.YtoiiblhbojhogaaGreatDoor.Pl
end
section
set_option linter.unusedVariables false
set_option linter.unusedSimpArgs false
namespace Go.Proofs.YtoiiblhbojhogaaGreatDoor.Pl
open Go
set_option linter.unusedVariables false
set_option linter.unusedSimpArgs false

/-- A leap year. -/
def leapY (y : Int) : Bool := decide (y % 4 = 0 ∧ (y % 100 ≠ 0 ∨ y % 400 = 0))
/-- The number of a year's first day. -/
def fst (y : Int) : Int := 365 * (y - 1) + (y - 1) / 4 - (y - 1) / 100 + (y - 1) / 400 - 719162
/-- How many days of a common year lie ahead of a month. -/
def cum0 (m : Int) : Int := if m = 1 then 0 else if m = 2 then 31 else if m = 3 then 59 else if m = 4 then 90 else if m = 5 then 120 else if m = 6 then 151 else if m = 7 then 181 else if m = 8 then 212 else if m = 9 then 243 else if m = 10 then 273 else if m = 11 then 304 else if m = 12 then 334 else 365
def cum (y m : Int) : Int := cum0 m + if 2 < m ∧ leapY y = true then 1 else 0
def dim (y m : Int) : Int := if m = 2 then (if leapY y = true then 29 else 28) else if m = 4 then 30 else if m = 6 then 30 else if m = 9 then 30 else if m = 11 then 30 else 31
/-- The number of a date. -/
def num (y m d : Int) : Int := fst y + cum y m + d - 1
/-- A date. -/
def Vld (y m d : Int) : Prop := 1 ≤ y ∧ y ≤ 9999 ∧ 1 ≤ m ∧ m ≤ 12 ∧ 1 ≤ d ∧ d ≤ dim y m

theorem leapY_iff (y : Int) : leapY y = true ↔ (y % 4 = 0 ∧ (y % 100 ≠ 0 ∨ y % 400 = 0)) := by unfold leapY; exact decide_eq_true_iff
theorem month_cases {m : Int} (h1 : 1 ≤ m) (h2 : m ≤ 12) : m = 1 ∨ m = 2 ∨ m = 3 ∨ m = 4 ∨ m = 5 ∨ m = 6 ∨ m = 7 ∨ m = 8 ∨ m = 9 ∨ m = 10 ∨ m = 11 ∨ m = 12 := by omega
theorem dim_bd (y m : Int) : 28 ≤ dim y m ∧ dim y m ≤ 31 := by unfold dim; repeat' split <;> omega
theorem fst_succ (y : Int) : fst (y + 1) = fst y + 365 + if leapY y = true then 1 else 0 := by
  have := leapY_iff y
  unfold fst
  by_cases h : leapY y = true
  · rw [if_pos h]; have := this.1 h; omega
  · rw [if_neg h]
    have h' : ¬ (y % 4 = 0 ∧ (y % 100 ≠ 0 ∨ y % 400 = 0)) := fun z => h (this.2 z)
    omega
theorem cum_succ (y m : Int) (h1 : 1 ≤ m) (h2 : m ≤ 12) : cum y m + dim y m = if m = 12 then 365 + (if leapY y = true then 1 else 0) else cum y (m + 1) := by
  rcases month_cases h1 h2 with rfl | rfl | rfl | rfl | rfl | rfl | rfl | rfl | rfl | rfl | rfl | rfl <;>
    cases hl : leapY y <;> simp [cum, cum0, dim, hl]
theorem num_bd {y m d : Int} (h : Vld y m d) : fst y ≤ num y m d ∧ num y m d < fst (y + 1) := by
  obtain ⟨_, _, h1, h2, h3, h4⟩ := h
  rw [fst_succ]
  unfold num
  rcases month_cases h1 h2 with rfl | rfl | rfl | rfl | rfl | rfl | rfl | rfl | rfl | rfl | rfl | rfl <;>
    cases hl : leapY y <;> simp [cum, cum0, dim, hl] at h4 ⊢ <;> omega
theorem fst_bd {y : Int} (h1 : 1 ≤ y) (h2 : y ≤ 9999) : -719162 ≤ fst y ∧ fst (y + 1) ≤ 2932897 := by unfold fst; omega
theorem fst_le {y z : Int} (h : y ≤ z) : fst y ≤ fst z := by unfold fst; omega
theorem num_range {y m d : Int} (h : Vld y m d) : -719162 ≤ num y m d ∧ num y m d ≤ 2932896 := by
  have := num_bd h
  have := fst_bd h.1 h.2.1
  omega

/-! ### Years that begin with March -/
/-- A date's year and month, so counted. -/
def sy (y m : Int) : Int := if m < 3 then y - 1 else y
def sm (m : Int) : Int := if m < 3 then m + 12 else m
/-- The program's own formula. -/
def numP (y m d : Int) : Int := 146097 * (sy y m / 400) + 365 * (sy y m % 400) + (sy y m % 400) / 4 - (sy y m % 400) / 100 + ((153 * (sm m - 3) + 2) / 5 + d - 1) - 719468
theorem numP_eq {y m d : Int} (h1 : 1 ≤ m) (h2 : m ≤ 12) : numP y m d = num y m d := by
  have hl := leapY_iff y
  have key : ∀ b : Bool, leapY y = b → numP y m d = num y m d := by
    intro b hb
    cases b with
    | true =>
      have hl' := hl.1 hb
      rcases month_cases h1 h2 with rfl | rfl | rfl | rfl | rfl | rfl | rfl | rfl | rfl | rfl | rfl | rfl <;>
        simp [numP, num, fst, cum, cum0, sy, sm, hb] <;> omega
    | false =>
      have hl' : ¬ (y % 4 = 0 ∧ (y % 100 ≠ 0 ∨ y % 400 = 0)) := fun z => by rw [hl.2 z] at hb; cases hb
      rcases month_cases h1 h2 with rfl | rfl | rfl | rfl | rfl | rfl | rfl | rfl | rfl | rfl | rfl | rfl <;>
        simp [numP, num, fst, cum, cum0, sy, sm, hb] <;> omega
  exact key _ rfl

/-- The first day of March-year b of an era. -/
def st (b : Int) : Int := 365 * b + b / 4 - b / 100
def gy (o : Int) : Int := o - o / 1460 + o / 36524 - o / 146096
theorem gy_mono {a b : Int} (h0 : 0 ≤ a) (h : a ≤ b) (hb : b ≤ 146096) : gy a ≤ gy b := by unfold gy; omega
theorem ends : ∀ n : Nat, n < 400 → (gy (st n) / 365 = n ∧ gy (st (n + 1) - (if n = 399 then 0 else 1)) / 365 = n) := by decide +kernel
theorem st_400 : st 399 + 365 = 146096 := by decide
/-- The year of a day of an era. -/
theorem year_of {o b : Int} (h0 : 0 ≤ b) (h1 : b < 400) (h2 : st b ≤ o) (h3 : o < st (b + 1) ∨ (b = 399 ∧ o ≤ 146096)) : gy o / 365 = b := by
  obtain ⟨n, rfl⟩ := Int.eq_ofNat_of_zero_le h0
  obtain ⟨e1, e2⟩ := ends n (by omega)
  have hs0 : 0 ≤ st n := by unfold st; omega
  have hs1 : st (n + 1) ≤ 146097 := by unfold st; omega
  by_cases hn : n = 399
  · subst hn
    have hm : st ((399 : Nat) + 1) = 146096 := by decide
    rw [if_pos rfl, hm] at e2
    have ho : o ≤ 146096 := by
      rcases h3 with h3 | h3
      · have : ((399 : Nat) : Int) + 1 = 400 := rfl
        rw [this] at h3; have : st 400 = 146096 := by decide
        omega
      · exact h3.2
    have g1 := gy_mono hs0 h2 ho
    have g2 := gy_mono (by omega : 0 ≤ o) ho (Int.le_refl _)
    simp only [Int.sub_zero] at e2
    omega
  · rw [if_neg hn] at e2
    have ho : o ≤ st (n + 1) - 1 := by
      rcases h3 with h3 | h3
      · omega
      · omega
    have g1 := gy_mono hs0 h2 (by omega)
    have g2 := gy_mono (by omega : 0 ≤ o) ho (by omega)
    omega

/-- The program's own date of a number. -/
def era (n : Int) : Int := (n + 719468) / 146097
def ofE (n : Int) : Int := (n + 719468) % 146097
def yrs (n : Int) : Int := gy (ofE n) / 365
def doy (n : Int) : Int := ofE n - st (yrs n)
def mon (n : Int) : Int := (5 * doy n + 2) / 153
def dayP (n : Int) : Int := doy n - (153 * mon n + 2) / 5 + 1
def monP (n : Int) : Int := if mon n + 3 > 12 then mon n + 3 - 12 else mon n + 3
def yearP (n : Int) : Int := 400 * era n + (if mon n + 3 > 12 then yrs n + 1 else yrs n)

theorem date_num' {y m d : Int} (h : Vld y m d) : (0 ≤ doy (num y m d) ∧ doy (num y m d) ≤ 365) ∧ yearP (num y m d) = y ∧ monP (num y m d) = m ∧ dayP (num y m d) = d := by
  obtain ⟨a1, a2, h1, h2, h3, h4⟩ := h
  have hl := leapY_iff y
  rw [← numP_eq h1 h2]
  have hb : 0 ≤ sy y m % 400 ∧ sy y m % 400 < 400 := by omega
  have hdoy : 0 ≤ (153 * (sm m - 3) + 2) / 5 + d - 1 ∧ st (sy y m % 400) + ((153 * (sm m - 3) + 2) / 5 + d - 1) ≤ 146096 ∧
      (st (sy y m % 400) + ((153 * (sm m - 3) + 2) / 5 + d - 1) < st (sy y m % 400 + 1) ∨ sy y m % 400 = 399) := by
    unfold st
    cases hb' : leapY y with
    | true =>
      have hl' := hl.1 hb'
      rcases month_cases h1 h2 with rfl | rfl | rfl | rfl | rfl | rfl | rfl | rfl | rfl | rfl | rfl | rfl <;>
        simp [sy, sm, dim, hb'] at h4 ⊢ <;> omega
    | false =>
      have hl' : ¬ (y % 4 = 0 ∧ (y % 100 ≠ 0 ∨ y % 400 = 0)) := fun z => by rw [hl.2 z] at hb'; cases hb'
      rcases month_cases h1 h2 with rfl | rfl | rfl | rfl | rfl | rfl | rfl | rfl | rfl | rfl | rfl | rfl <;>
        simp [sy, sm, dim, hb'] at h4 ⊢ <;> omega
  have hst0 : 0 ≤ st (sy y m % 400) := by unfold st; omega
  have hN : numP y m d + 719468 = 146097 * (sy y m / 400) + (st (sy y m % 400) + ((153 * (sm m - 3) + 2) / 5 + d - 1)) := by unfold numP st; omega
  have hera : era (numP y m d) = sy y m / 400 := by unfold era; omega
  have hof : ofE (numP y m d) = st (sy y m % 400) + ((153 * (sm m - 3) + 2) / 5 + d - 1) := by unfold ofE; omega
  have hyrs : yrs (numP y m d) = sy y m % 400 := by
    unfold yrs
    rw [hof]
    refine year_of hb.1 hb.2 (by omega) ?_
    rcases hdoy.2.2 with h | h
    · exact .inl h
    · exact .inr ⟨h, hdoy.2.1⟩
  have hdy : doy (numP y m d) = (153 * (sm m - 3) + 2) / 5 + d - 1 := by unfold doy; rw [hof, hyrs]; omega
  have hdd := dim_bd y m
  have hmon : mon (numP y m d) = sm m - 3 := by
    unfold mon
    rw [hdy]
    rcases month_cases h1 h2 with rfl | rfl | rfl | rfl | rfl | rfl | rfl | rfl | rfl | rfl | rfl | rfl <;>
      simp [sm, dim] at h4 ⊢ <;> omega
  refine ⟨?_, ?_, ?_, ?_⟩
  · rw [hdy]
    rcases month_cases h1 h2 with rfl | rfl | rfl | rfl | rfl | rfl | rfl | rfl | rfl | rfl | rfl | rfl <;>
      simp [sm, dim] at h4 ⊢ <;> omega
  · unfold yearP
    rw [hera, hyrs, hmon]
    rcases month_cases h1 h2 with rfl | rfl | rfl | rfl | rfl | rfl | rfl | rfl | rfl | rfl | rfl | rfl <;>
      simp [sm, sy] <;> omega
  · unfold monP
    rw [hmon]
    rcases month_cases h1 h2 with rfl | rfl | rfl | rfl | rfl | rfl | rfl | rfl | rfl | rfl | rfl | rfl <;> simp [sm]
  · unfold dayP
    rw [hdy, hmon]
    omega
theorem date_num {y m d : Int} (h : Vld y m d) : yearP (num y m d) = y ∧ monP (num y m d) = m ∧ dayP (num y m d) = d := (date_num' h).2

/-! ### Each number is a date's -/
theorem year_ex (n : Int) (h0 : fst 1 ≤ n) : ∀ k : Nat, n < fst (1 + k) → ∃ y : Int, 1 ≤ y ∧ y ≤ k ∧ fst y ≤ n ∧ n < fst (y + 1)
  | 0, h => by simp at h; omega
  | k + 1, h => by
    by_cases h1 : n < fst (1 + k)
    · obtain ⟨y, a, b, c, d⟩ := year_ex n h0 k h1
      exact ⟨y, a, by omega, c, d⟩
    · exact ⟨1 + k, by omega, by omega, by omega, by have e : ((k + 1 : Nat) : Int) = (k : Int) + 1 := rfl; rw [e] at h; rw [Int.add_assoc]; exact h⟩
theorem cum_mono (y m : Int) (h1 : 1 ≤ m) (h2 : m < 12) : cum y m + 28 ≤ cum y (m + 1) := by
  have := cum_succ y m h1 (by omega)
  rw [if_neg (by omega)] at this
  have := dim_bd y m
  omega
theorem month_ex (y r : Int) (h0 : 0 ≤ r) : ∀ k : Nat, k < 12 → r < cum y (1 + k) → ∃ m : Int, 1 ≤ m ∧ m ≤ k ∧ cum y m ≤ r ∧ r < cum y (m + 1)
  | 0, _, h => by simp [cum, cum0] at h; omega
  | k + 1, hk, h => by
    by_cases h1 : r < cum y (1 + k)
    · obtain ⟨m, a, b, c, d⟩ := month_ex y r h0 k (by omega) h1
      exact ⟨m, a, by omega, c, d⟩
    · exact ⟨1 + k, by omega, by omega, by omega, by have e : ((k + 1 : Nat) : Int) = (k : Int) + 1 := rfl; rw [e] at h; rw [Int.add_assoc]; exact h⟩
theorem date_ex {n : Int} (h0 : -719162 ≤ n) (h1 : n ≤ 2932896) : ∃ y m d, Vld y m d ∧ num y m d = n := by
  obtain ⟨y, a, b, c, e⟩ := year_ex n (by have : fst 1 = -719162 := by decide
                                          omega) 9999 (by have : fst (1 + (9999 : Nat)) = 2932897 := by decide
                                                          omega)
  rw [fst_succ] at e
  by_cases h : n - fst y < cum y 12
  · obtain ⟨m, a', b', c', e'⟩ := month_ex y (n - fst y) (by omega) 11 (by omega) h
    have hs := cum_succ y m a' (by omega)
    rw [if_neg (by omega)] at hs
    exact ⟨y, m, n - fst y - cum y m + 1, ⟨a, by omega, a', by omega, by omega, by omega⟩, by unfold num; omega⟩
  · have hs := cum_succ y 12 (by omega) (by omega)
    rw [if_pos rfl] at hs
    exact ⟨y, 12, n - fst y - cum y 12 + 1, ⟨a, by omega, by omega, by omega, by omega, by omega⟩, by unfold num; omega⟩
theorem num_date {n : Int} (h0 : -719162 ≤ n) (h1 : n ≤ 2932896) : Vld (yearP n) (monP n) (dayP n) ∧ num (yearP n) (monP n) (dayP n) = n := by
  obtain ⟨y, m, d, hv, rfl⟩ := date_ex h0 h1
  obtain ⟨e1, e2, e3⟩ := date_num hv
  rw [e1, e2, e3]
  exact ⟨hv, rfl⟩
theorem doy_bd {n : Int} (h0 : -719162 ≤ n) (h1 : n ≤ 2932896) : 0 ≤ doy n ∧ doy n ≤ 365 := by
  obtain ⟨y, m, d, hv, rfl⟩ := date_ex h0 h1
  exact (date_num' hv).1
theorem num_inj {y m d y' m' d' : Int} (h : Vld y m d) (h' : Vld y' m' d') (e : num y m d = num y' m' d') : y = y' ∧ m = m' ∧ d = d' := by
  have a := date_num h
  have b := date_num h'
  rw [e] at a
  exact ⟨a.1.symm.trans b.1, a.2.1.symm.trans b.2.1, a.2.2.symm.trans b.2.2⟩
/-- A day's place in the week, from Sunday on. -/
def wk (n : Int) : Int := (n + 4) % 7

end Go.Proofs.YtoiiblhbojhogaaGreatDoor.Pl
end
section
set_option linter.unusedVariables false
set_option linter.unusedSimpArgs false
namespace Go.Proofs.YtoiiblhbojhogaaGreatDoor.Pl
open Go
set_option linter.unusedVariables false
set_option linter.unusedSimpArgs false

def rightR (K A B C X : Int) : Bool :=
  decide ((-604799 ≤ X ∧ X ≤ 604799) ∧ ((K = 0 ∧ 1 ≤ A ∧ A ≤ 12 ∧ 1 ≤ B ∧ B ≤ 5 ∧ 0 ≤ C ∧ C ≤ 6) ∨ (K = 1 ∧ 1 ≤ A ∧ A ≤ 365 ∧ B = 0 ∧ C = 0) ∨ (K = 2 ∧ 0 ≤ A ∧ A ≤ 365 ∧ B = 0 ∧ C = 0)))
theorem right_iff (K A B C X : Int) : rightR K A B C X = true ↔ ((-604799 ≤ X ∧ X ≤ 604799) ∧ ((K = 0 ∧ 1 ≤ A ∧ A ≤ 12 ∧ 1 ≤ B ∧ B ≤ 5 ∧ 0 ≤ C ∧ C ≤ 6) ∨ (K = 1 ∧ 1 ≤ A ∧ A ≤ 365 ∧ B = 0 ∧ C = 0) ∨ (K = 2 ∧ 0 ≤ A ∧ A ≤ 365 ∧ B = 0 ∧ C = 0))) := by
  unfold rightR; exact decide_eq_true_iff
/-- The place of a rule's day in its month, from 0 on. -/
def offW (A B C y : Int) : Int := let k := (C - wk (num y A 1) + 7) % 7 + 7 * (B - 1); if k ≥ dim y A then k - 7 else k
def ruleDay (K A B C y : Int) : Int := if K = 2 then fst y + A else if K = 1 then (if A ≤ 59 ∨ leapY y = false then fst y - 1 + A else fst y + A) else num y A 1 + offW A B C y
theorem num_first (y : Int) : num y 1 1 = fst y := by unfold num cum cum0; simp
theorem dim_jan (y : Int) : dim y 1 = 31 := rfl
theorem off_bd {A B C y : Int} (h1 : 1 ≤ B) (h2 : B ≤ 5) : 0 ≤ offW A B C y ∧ offW A B C y < dim y A ∧ offW A B C y % 7 = (C - wk (num y A 1) + 7) % 7 := by
  have hd := dim_bd y A
  have hw : 0 ≤ wk (num y A 1) ∧ wk (num y A 1) < 7 := by unfold wk; omega
  unfold offW
  simp only []
  split <;> omega
theorem ruleDay_bd {K A B C X y : Int} (hy : 1 ≤ y ∧ y ≤ 9999) (hr : rightR K A B C X = true) : fst y ≤ ruleDay K A B C y ∧ ruleDay K A B C y ≤ fst y + 365 := by
  have hr' := (right_iff K A B C X).1 hr
  unfold ruleDay
  split
  · omega
  · split
    · split <;> omega
    · have hK : K = 0 ∧ 1 ≤ A ∧ A ≤ 12 ∧ 1 ≤ B ∧ B ≤ 5 ∧ 0 ≤ C ∧ C ≤ 6 := by omega
      obtain ⟨o1, o2, _⟩ := off_bd (A := A) (C := C) (y := y) hK.2.2.2.1 hK.2.2.2.2.1
      have hv : Vld y A (offW A B C y + 1) := ⟨hy.1, hy.2, hK.2.1, hK.2.2.1, by omega, by omega⟩
      have := num_bd hv
      rw [fst_succ] at this
      have e : num y A (offW A B C y + 1) = num y A 1 + offW A B C y := by unfold num; omega
      rw [e] at this
      split at this <;> omega
def cutP (c : UInt8) (l : List UInt8) : List UInt8 × Bool := if l.head? = some c then (l.tail, true) else (l, false)
theorem cut_drop (c : UInt8) (l : List UInt8) : ∃ j, j ≤ l.length ∧ (cutP c l).1 = l.drop j := by
  unfold cutP
  split
  · cases l with
    | nil => rename_i h; simp at h
    | cons a r => exact ⟨1, by simp, rfl⟩
  · exact ⟨0, by omega, rfl⟩

/-- A number of so many digits at most. -/
def numberL (l : List UInt8) (m : Nat) : Int × List UInt8 × Bool := if dl l = 0 ∨ m < dl l then (0, l, false) else ((valL (l.take (dl l)) : Int), l.drop (dl l), true)
theorem numberL_drop (l : List UInt8) (m : Nat) : ∃ j, j ≤ l.length ∧ (numberL l m).2.1 = l.drop j ∧ ((numberL l m).2.2 = true → 0 < j) := by
  unfold numberL
  split
  · exact ⟨0, by omega, rfl, by simp⟩
  · exact ⟨dl l, dl_le l, rfl, fun _ => by omega⟩
theorem numberL_len (l : List UInt8) (m : Nat) : (numberL l m).2.1.length ≤ l.length := by
  obtain ⟨j, _, e, _⟩ := numberL_drop l m
  rw [e, List.length_drop]; omega
theorem cutL_len (c : UInt8) (l : List UInt8) : (cutP c l).1.length ≤ l.length := by
  obtain ⟨j, _, e⟩ := cut_drop c l
  rw [e, List.length_drop]; omega
theorem numberL_bd (l : List UInt8) (m : Nat) : 0 ≤ (numberL l m).1 ∧ ((numberL l m).1 : Int) < ((10 ^ m : Nat) : Int) := by
  unfold numberL
  have h1 : 0 < 10 ^ m := Nat.pos_of_ne_zero (by simp)
  split
  · simp only []; omega
  · rename_i h
    have hv := valL_lt _ (take_dl_dig l _ (Nat.le_refl _))
    have h2 : 10 ^ (l.take (dl l)).length ≤ 10 ^ m := Nat.pow_le_pow_right (by omega) (by rw [List.length_take]; omega)
    simp only []; omega

def weekL (l : List UInt8) : Int × Int × Int × List UInt8 × Bool :=
  ((numberL l 2).1, (numberL (cutP 46 (numberL l 2).2.1).1 1).1, (numberL (cutP 46 (numberL (cutP 46 (numberL l 2).2.1).1 1).2.1).1 1).1,
    (numberL (cutP 46 (numberL (cutP 46 (numberL l 2).2.1).1 1).2.1).1 1).2.1,
    (numberL l 2).2.2 && (numberL (cutP 46 (numberL l 2).2.1).1 1).2.2 && (numberL (cutP 46 (numberL (cutP 46 (numberL l 2).2.1).1 1).2.1).1 1).2.2 && (cutP 46 (numberL l 2).2.1).2 && (cutP 46 (numberL (cutP 46 (numberL l 2).2.1).1 1).2.1).2)
theorem weekL_drop (l : List UInt8) : ∃ j, j ≤ l.length ∧ (weekL l).2.2.2.1 = l.drop j ∧ ((weekL l).2.2.2.2 = true → 0 < j) := by
  unfold weekL
  obtain ⟨j1, h1, e1, p1⟩ := numberL_drop l 2
  obtain ⟨j2, h2, e2⟩ := cut_drop 46 (numberL l 2).2.1
  obtain ⟨j3, h3, e3, _⟩ := numberL_drop (cutP 46 (numberL l 2).2.1).1 1
  obtain ⟨j4, h4, e4⟩ := cut_drop 46 (numberL (cutP 46 (numberL l 2).2.1).1 1).2.1
  obtain ⟨j5, h5, e5, _⟩ := numberL_drop (cutP 46 (numberL (cutP 46 (numberL l 2).2.1).1 1).2.1).1 1
  refine ⟨j1 + j2 + j3 + j4 + j5, ?_, ?_, ?_⟩
  · rw [e4, List.length_drop, e3, List.length_drop, e2, List.length_drop, e1, List.length_drop] at h5
    rw [e3, List.length_drop, e2, List.length_drop, e1, List.length_drop] at h4
    rw [e2, List.length_drop, e1, List.length_drop] at h3
    rw [e1, List.length_drop] at h2
    omega
  · simp only []
    rw [e5, e4, e3, e2, e1]
    simp only [List.drop_drop]
  · intro h
    simp only [Bool.and_eq_true] at h
    have := p1 h.1.1.1.1
    omega

/-- A rule without its time. -/
def dateL (l : List UInt8) : Int × Int × Int × Int × List UInt8 × Bool :=
  if l.head? = some 77 then (0, weekL l.tail) else if l.head? = some 74 then (1, (numberL l.tail 3).1, 0, 0, (numberL l.tail 3).2) else (2, (numberL l 3).1, 0, 0, (numberL l 3).2)
theorem dateL_drop (l : List UInt8) : ∃ j, j ≤ l.length ∧ (dateL l).2.2.2.2.1 = l.drop j ∧ ((dateL l).2.2.2.2.2 = true → 0 < j) := by
  unfold dateL
  by_cases h : l.head? = some 77
  · rw [if_pos h]
    obtain ⟨a, r, rfl⟩ : ∃ a r, l = a :: r := by cases l with | nil => simp at h | cons a r => exact ⟨a, r, rfl⟩
    obtain ⟨j, hj, e, _⟩ := weekL_drop r
    exact ⟨j + 1, by simp; omega, e, fun _ => by omega⟩
  · rw [if_neg h]
    by_cases h' : l.head? = some 74
    · rw [if_pos h']
      obtain ⟨a, r, rfl⟩ : ∃ a r, l = a :: r := by cases l with | nil => simp at h' | cons a r => exact ⟨a, r, rfl⟩
      obtain ⟨j, hj, e, _⟩ := numberL_drop r 3
      exact ⟨j + 1, by simp; omega, e, fun _ => by omega⟩
    · rw [if_neg h']
      exact numberL_drop l 3

/-- A rule. -/
def parseL (l : List UInt8) : Int × Int × Int × Int × Int × List UInt8 × Bool :=
  if (dateL l).2.2.2.2.2 = true then
    (if (dateL l).2.2.2.2.1.head? = some 47 then
      (if (timeL (dateL l).2.2.2.2.1.tail).2.2 = true ∧ rightR (dateL l).1 (dateL l).2.1 (dateL l).2.2.1 (dateL l).2.2.2.1 (timeL (dateL l).2.2.2.2.1.tail).1 = true then
        ((dateL l).1, (dateL l).2.1, (dateL l).2.2.1, (dateL l).2.2.2.1, (timeL (dateL l).2.2.2.2.1.tail).1, (timeL (dateL l).2.2.2.2.1.tail).2.1, true) else (0, 0, 0, 0, 0, l, false))
    else if rightR (dateL l).1 (dateL l).2.1 (dateL l).2.2.1 (dateL l).2.2.2.1 7200 = true then
      ((dateL l).1, (dateL l).2.1, (dateL l).2.2.1, (dateL l).2.2.2.1, 7200, (dateL l).2.2.2.2.1, true) else (0, 0, 0, 0, 0, l, false))
  else (0, 0, 0, 0, 0, l, false)
theorem parse_good (l : List UInt8) (h : (parseL l).2.2.2.2.2.2 = true) :
    rightR (parseL l).1 (parseL l).2.1 (parseL l).2.2.1 (parseL l).2.2.2.1 (parseL l).2.2.2.2.1 = true ∧ ∃ j, 0 < j ∧ j ≤ l.length ∧ (parseL l).2.2.2.2.2.1 = l.drop j := by
  obtain ⟨j, hj, e, hp⟩ := dateL_drop l
  revert h
  unfold parseL
  by_cases hok : (dateL l).2.2.2.2.2 = true
  · have hp := hp hok
    rw [if_pos hok]
    by_cases hc : (dateL l).2.2.2.2.1.head? = some 47
    · rw [if_pos hc]
      by_cases hR : (timeL (dateL l).2.2.2.2.1.tail).2.2 = true ∧ rightR (dateL l).1 (dateL l).2.1 (dateL l).2.2.1 (dateL l).2.2.2.1 (timeL (dateL l).2.2.2.2.1.tail).1 = true
      · rw [if_pos hR]
        intro _
        obtain ⟨i, hi, ei, _⟩ := time_drop (dateL l).2.2.2.2.1.tail
        refine ⟨hR.2, j + 1 + i, by omega, ?_, ?_⟩
        · rw [List.length_tail, e, List.length_drop] at hi
          have : (dateL l).2.2.2.2.1.length ≠ 0 := by intro h0; rw [List.eq_nil_of_length_eq_zero h0] at hc; simp at hc
          rw [e, List.length_drop] at this
          omega
        · simp only []
          rw [ei, e, ← List.drop_one, List.drop_drop, List.drop_drop]
          congr 1; omega
      · rw [if_neg hR]; intro h; simp at h
    · rw [if_neg hc]
      by_cases hR : rightR (dateL l).1 (dateL l).2.1 (dateL l).2.2.1 (dateL l).2.2.2.1 7200 = true
      · rw [if_pos hR]
        intro _
        exact ⟨hR, j, hp, hj, e⟩
      · rw [if_neg hR]; intro h; simp at h
  · rw [if_neg hok]; intro h; simp at h
theorem parse_bad (l : List UInt8) (h : (parseL l).2.2.2.2.2.2 = false) : parseL l = (0, 0, 0, 0, 0, l, false) := by
  revert h
  unfold parseL
  split
  · split
    · split
      · intro h; simp at h
      · intro _; rfl
    · split
      · intro h; simp at h
      · intro _; rfl
  · intro _; rfl

/-- A rule's text. -/
def headL (K A B C : Int) : List UInt8 := if K = 0 then 77 :: (itoaK A ++ 46 :: (itoaK B ++ 46 :: itoaK C)) else if K = 1 then 74 :: itoaK A else itoaK A
def tailL (X : Int) : List UInt8 := if X = 7200 then [] else 47 :: (clockL X).1
def textL (K A B C X : Int) : List UInt8 × Bool := if rightR K A B C X = true then (headL K A B C ++ tailL X, true) else ([], false)
theorem clockL_len (X : Int) : (clockL X).1.length ≤ 200 := by
  unfold clockL
  split
  · have l1 := digsN_len 20 (X.natAbs / 3600)
    have l2 := pairL_len (X.natAbs / 60 % 60)
    have l3 := pairL_len (X.natAbs % 60)
    have : (clockB X.natAbs).length ≤ 102 := by
      unfold clockB
      rw [List.length_append]
      split
      · rw [List.length_append]; omega
      · split
        · omega
        · simp; omega
    simp only []
    rw [List.length_append]
    split
    · simp; omega
    · simp; omega
  · simp
theorem itoaK_len (n : Int) : (itoaK n).length ≤ 21 := by
  unfold itoaK
  split
  · have := digsN_len 20 n.natAbs; simp; omega
  · have := digsN_len 20 n.toNat; omega
theorem textL_len (K A B C X : Int) : (textL K A B C X).1.length ≤ 300 := by
  have h1 := itoaK_len A
  have h2 := itoaK_len B
  have h3 := itoaK_len C
  have h4 := clockL_len X
  unfold textL headL tailL
  split
  · simp only []
    rw [List.length_append]
    repeat' split
    all_goals (simp; omega)
  · simp
theorem nums_ok : ∀ a, a < 366 → ((digsN 20 a).all isDig = true ∧ valL (digsN 20 a) = a ∧ 1 ≤ (digsN 20 a).length ∧ (digsN 20 a).length ≤ 3 ∧ (a < 100 → (digsN 20 a).length ≤ 2) ∧ (a < 10 → (digsN 20 a).length ≤ 1)) := by decide +kernel
theorem numberL_app (a : Nat) (ha : a < 366) (m : Nat) (hm : (digsN 20 a).length ≤ m) (t : List UInt8) (ht : ∀ c, t.head? = some c → isDig c = false) : numberL (digsN 20 a ++ t) m = ((a : Int), t, true) := by
  obtain ⟨h1, h2, h3, _⟩ := nums_ok a ha
  unfold numberL
  rw [dl_app _ _ h1 ht, if_neg (by omega), List.take_left, List.drop_left, h2]
theorem digs_head (a : Nat) (ha : a < 366) (t : List UInt8) (c : UInt8) (hc : isDig c = false) : (digsN 20 a ++ t).head? ≠ some c := by
  obtain ⟨h1, _, h3, _⟩ := nums_ok a ha
  cases hd : digsN 20 a with
  | nil => rw [hd] at h3; simp at h3
  | cons x r =>
    rw [hd] at h1
    simp only [List.cons_append, List.head?_cons, ne_eq, Option.some.injEq]
    rintro rfl
    simp only [List.all_cons, Bool.and_eq_true] at h1
    rw [hc] at h1
    exact absurd h1.1 (by simp)
theorem date_head (K A B C X : Int) (hR : rightR K A B C X = true) (t : List UInt8) (ht : ∀ c, t.head? = some c → isDig c = false) : dateL (headL K A B C ++ t) = (K, A, B, C, t, true) := by
  have hr := (right_iff K A B C X).1 hR
  obtain ⟨a, rfl⟩ : ∃ a : Nat, A = (a : Int) := ⟨A.toNat, by omega⟩
  obtain ⟨b, rfl⟩ : ∃ a : Nat, B = (a : Int) := ⟨B.toNat, by omega⟩
  obtain ⟨c, rfl⟩ : ∃ a : Nat, C = (a : Int) := ⟨C.toNat, by omega⟩
  obtain ⟨_, _, _, a3, a2, _⟩ := nums_ok a (by omega)
  unfold dateL headL
  rw [itoaK_nat, itoaK_nat, itoaK_nat]
  by_cases k0 : K = 0
  · subst k0
    obtain ⟨_, _, _, _, _, b1⟩ := nums_ok b (by omega)
    obtain ⟨_, _, _, _, _, c1⟩ := nums_ok c (by omega)
    rw [if_pos rfl, List.cons_append, if_pos (by rfl)]
    simp only [List.tail_cons, List.append_assoc, List.cons_append]
    unfold weekL
    rw [numberL_app a (by omega) 2 (a2 (by omega)) _ (by intro c hc; simp at hc; subst hc; rfl)]
    simp only []
    rw [show cutP 46 (46 :: (digsN 20 b ++ 46 :: (digsN 20 c ++ t))) = (digsN 20 b ++ 46 :: (digsN 20 c ++ t), true) from rfl]
    simp only []
    rw [numberL_app b (by omega) 1 (b1 (by omega)) _ (by intro c hc; simp at hc; subst hc; rfl)]
    simp only []
    rw [show cutP 46 (46 :: (digsN 20 c ++ t)) = (digsN 20 c ++ t, true) from rfl]
    simp only []
    rw [numberL_app c (by omega) 1 (c1 (by omega)) _ ht]
    rfl
  · rw [if_neg k0]
    by_cases k1 : K = 1
    · subst k1
      rw [if_pos rfl, List.cons_append, if_neg (by simp), if_pos (by rfl), List.tail_cons, numberL_app a (by omega) 3 a3 _ ht]
      have : b = 0 ∧ c = 0 := by omega
      rw [this.1, this.2]; rfl
    · rw [if_neg k1, if_neg (digs_head a (by omega) t 77 rfl), if_neg (digs_head a (by omega) t 74 rfl), numberL_app a (by omega) 3 a3 _ ht]
      have : b = 0 ∧ c = 0 ∧ K = 2 := by omega
      rw [this.1, this.2.1, this.2.2]; rfl
theorem parse_text (K A B C X : Int) (hR : rightR K A B C X = true) (t : List UInt8) (ht : ∀ c, t.head? = some c → isDig c = false ∧ c ≠ 58 ∧ c ≠ 47) :
    parseL ((textL K A B C X).1 ++ t) = (K, A, B, C, X, t, true) := by
  have hr := (right_iff K A B C X).1 hR
  unfold textL
  rw [if_pos hR]
  simp only []
  rw [List.append_assoc]
  have hd : dateL (headL K A B C ++ (tailL X ++ t)) = (K, A, B, C, tailL X ++ t, true) := by
    refine date_head K A B C X hR _ ?_
    intro c hc
    unfold tailL at hc
    split at hc
    · exact (ht c hc).1
    · simp at hc; subst hc; rfl
  unfold parseL
  rw [hd]
  simp only []
  rw [if_pos trivial]
  unfold tailL
  by_cases x7 : X = 7200
  · subst x7
    rw [if_pos rfl, List.nil_append, if_neg (fun h => (ht _ h).2.2 rfl), if_pos hR]
  · rw [if_neg x7, List.cons_append, if_pos (by rfl), List.tail_cons, time_clock X hr.1 t (fun c hc => ⟨(ht c hc).1, (ht c hc).2.1⟩)]
    simp only []
    rw [if_pos ⟨trivial, hR⟩]

end Go.Proofs.YtoiiblhbojhogaaGreatDoor.Pl
end
section
set_option linter.unusedVariables false
set_option linter.unusedSimpArgs false
namespace Go.Proofs.YtoiiblhbojhogaaGreatDoor.Pl
open Go
set_option linter.unusedVariables false
set_option linter.unusedSimpArgs false

theorem digs_one (m n : Nat) (h : n < 10) : digsN (m + 1) n = [UInt8.ofNat (48 + n)] := by rw [digsN, if_pos h]
theorem digs_more (m n : Nat) (h : ¬ n < 10) : digsN (m + 1) n = digsN m (n / 10) ++ [UInt8.ofNat (48 + n % 10)] := by rw [digsN, if_neg h]
theorem sixty_no {c a b : UInt8} {r : List UInt8} (h : ¬ (c = 58 ∧ isDig a = true ∧ isDig b = true ∧ a.toNat ≤ 53)) : sixtyL (c :: a :: b :: r) = (0, c :: a :: b :: r, false) := if_neg h
theorem sixty_yes {c a b : UInt8} {r : List UInt8} (h : c = 58 ∧ isDig a = true ∧ isDig b = true ∧ a.toNat ≤ 53) : sixtyL (c :: a :: b :: r) = (10 * ((a.toNat : Int) - 48) + ((b.toNat : Int) - 48), r, true) := if_pos h
theorem isDig_iff (a : UInt8) : isDig a = true ↔ 48 ≤ a.toNat ∧ a.toNat ≤ 57 := by unfold isDig; simp
theorem valL_one (a : UInt8) : valL [a] = a.toNat - 48 := by simp [valL]
theorem valL_two (a b : UInt8) : valL [a, b] = 10 * (a.toNat - 48) + (b.toNat - 48) := by simp [valL]
theorem valL_three (a b c : UInt8) : valL [a, b, c] = 10 * (10 * (a.toNat - 48) + (b.toNat - 48)) + (c.toNat - 48) := by simp [valL]
theorem valL_snoc (a : List UInt8) (c : UInt8) : valL (a ++ [c]) = 10 * valL a + (c.toNat - 48) := by simp [valL, List.foldl_append]
theorem take_succ_at (l : List UInt8) (j : Nat) (h : j < l.length) : l.take (j + 1) = l.take j ++ [l[j]] := (List.take_append_getElem h).symm
theorem dl_digit (l : List UInt8) : ∀ j (h : j < dl l), isDig (l[j]'(Nat.lt_of_lt_of_le h (dl_le l))) = true := by
  intro j h
  have hl := dl_le l
  have := take_dl_dig l (j + 1) (by omega)
  rw [take_succ_at l j (by omega)] at this
  exact this _ (List.mem_append_right _ (List.mem_singleton.2 rfl))
theorem dl_stop (l : List UInt8) (h : dl l < l.length) : isDig l[dl l] = false := by
  induction l with
  | nil => simp at h
  | cons a r ih =>
    by_cases ha : isDig a = true
    · have e : dl (a :: r) = dl r + 1 := by rw [dl_cons, if_pos ha]
      have h' : dl r < r.length := by rw [e] at h; simpa using h
      have := ih h'
      simp only [e, List.getElem_cons_succ]
      exact this
    · have e : dl (a :: r) = 0 := by rw [dl_cons, if_neg ha]
      simp only [e, List.getElem_cons_zero]
      simpa using ha
def refNum (l : List UInt8) (m hi : Nat) : Int × List UInt8 := if dl l = 0 ∨ m < dl l ∨ hi < valL (l.take (dl l)) then (-1, l) else ((valL (l.take (dl l)) : Int), l.drop (dl l))
theorem refNum_yes {l : List UInt8} {m hi : Nat} (h : 0 ≤ (refNum l m hi).1) : numberL l m = ((refNum l m hi).1, (refNum l m hi).2, true) := by
  unfold refNum at h ⊢
  unfold numberL
  by_cases c : dl l = 0 ∨ m < dl l ∨ hi < valL (l.take (dl l))
  · rw [if_pos c] at h; simp at h
  · rw [if_neg c, if_neg (by omega)]
theorem refNum_of {l : List UInt8} {m hi : Nat} (h : (numberL l m).2.2 = true) (hv : (numberL l m).1 ≤ (hi : Int)) : refNum l m hi = ((numberL l m).1, (numberL l m).2.1) := by
  unfold numberL at h hv ⊢
  unfold refNum
  by_cases c : dl l = 0 ∨ m < dl l
  · rw [if_pos c] at h; cases h
  · rw [if_neg c] at hv ⊢
    rw [if_neg (by simp only [] at hv; omega)]
def refDot (l : List UInt8) : Int × List UInt8 := if l.head? = some 46 then refNum l.tail 1 9 else (-1, l)
def refHead (l : List UInt8) : Int × Int × Int × Int × List UInt8 :=
  if l.head? = some 77 then (0, (refNum l.tail 2 12).1, (refDot (refNum l.tail 2 12).2).1, refDot (refDot (refNum l.tail 2 12).2).2)
  else if l.head? = some 74 then (1, (refNum l.tail 3 365).1, 0, 0, (refNum l.tail 3 365).2) else (2, (refNum l 3 365).1, 0, 0, (refNum l 3 365).2)
theorem dot_yes {l : List UInt8} (h : 0 ≤ (refDot l).1) : cutP 46 l = (l.tail, true) ∧ numberL l.tail 1 = ((refDot l).1, (refDot l).2, true) := by
  unfold refDot at h ⊢
  unfold cutP
  by_cases c : l.head? = some 46
  · rw [if_pos c] at h ⊢
    rw [if_pos c]
    exact ⟨rfl, refNum_yes h⟩
  · rw [if_neg c] at h; simp at h
theorem dot_of {l : List UInt8} (h1 : (cutP 46 l).2 = true) (h2 : (numberL (cutP 46 l).1 1).2.2 = true) : refDot l = ((numberL (cutP 46 l).1 1).1, (numberL (cutP 46 l).1 1).2.1) := by
  unfold cutP at h1 h2 ⊢
  unfold refDot
  by_cases c : l.head? = some 46
  · rw [if_pos c] at h2 ⊢
    rw [if_pos c]
    have hb := numberL_bd l.tail 1
    exact refNum_of h2 (by have h3 := hb.2; rw [show ((10 ^ 1 : Nat) : Int) = 10 from rfl] at h3; omega)
  · rw [if_neg c] at h1; cases h1
theorem head_yes (l : List UInt8) (h : rightR (refHead l).1 (refHead l).2.1 (refHead l).2.2.1 (refHead l).2.2.2.1 7200 = true) :
    dateL l = ((refHead l).1, (refHead l).2.1, (refHead l).2.2.1, (refHead l).2.2.2.1, (refHead l).2.2.2.2, true) := by
  have hr := (right_iff _ _ _ _ _).1 h
  revert hr
  unfold refHead dateL
  by_cases h77 : l.head? = some 77
  · rw [if_pos h77, if_pos h77]
    simp only []
    intro hr
    have y1 := refNum_yes (l := l.tail) (m := 2) (hi := 12) (by omega)
    have y2 := dot_yes (l := (refNum l.tail 2 12).2) (by omega)
    have y3 := dot_yes (l := (refDot (refNum l.tail 2 12).2).2) (by omega)
    unfold weekL
    rw [y1]
    simp only []
    rw [y2.1]
    simp only []
    rw [y2.2]
    simp only []
    rw [y3.1]
    simp only []
    rw [y3.2]
    rfl
  · rw [if_neg h77, if_neg h77]
    by_cases h74 : l.head? = some 74
    · rw [if_pos h74, if_pos h74]
      simp only []
      intro hr
      rw [refNum_yes (l := l.tail) (m := 3) (hi := 365) (by omega)]
    · rw [if_neg h74, if_neg h74]
      simp only []
      intro hr
      rw [refNum_yes (l := l) (m := 3) (hi := 365) (by omega)]
theorem head_of (l : List UInt8) (ho : (dateL l).2.2.2.2.2 = true) (h : rightR (dateL l).1 (dateL l).2.1 (dateL l).2.2.1 (dateL l).2.2.2.1 7200 = true) :
    refHead l = ((dateL l).1, (dateL l).2.1, (dateL l).2.2.1, (dateL l).2.2.2.1, (dateL l).2.2.2.2.1) := by
  have hr := (right_iff _ _ _ _ _).1 h
  revert hr ho
  unfold refHead dateL
  by_cases h77 : l.head? = some 77
  · rw [if_pos h77, if_pos h77]
    simp only []
    unfold weekL
    simp only [Bool.and_eq_true]
    intro ho hr
    have z1 := refNum_of (l := l.tail) (m := 2) (hi := 12) ho.1.1.1.1 (by omega)
    rw [z1]
    simp only []
    have z2 := dot_of ho.1.2 ho.1.1.1.2
    rw [z2]
    simp only []
    have z3 := dot_of ho.2 ho.1.1.2
    rw [z3]
  · rw [if_neg h77, if_neg h77]
    by_cases h74 : l.head? = some 74
    · rw [if_pos h74, if_pos h74]
      simp only []
      intro ho hr
      rw [refNum_of (l := l.tail) (m := 3) (hi := 365) ho (by omega)]
    · rw [if_neg h74, if_neg h74]
      simp only []
      intro ho hr
      rw [refNum_of (l := l) (m := 3) (hi := 365) ho (by omega)]
theorem right_sec (K A B C X Y : Int) (hX : -604799 ≤ X ∧ X ≤ 604799) (hY : -604799 ≤ Y ∧ Y ≤ 604799) : rightR K A B C X = rightR K A B C Y := by
  rw [Bool.eq_iff_iff, right_iff, right_iff]
  constructor
  · intro h; exact ⟨hY, h.2⟩
  · intro h; exact ⟨hX, h.2⟩
theorem cum_one (y : Int) : cum y 1 = 0 := by unfold cum cum0; simp
/-- How many days of the weekday there are among the first t ones of the month, if r days are ahead of the first one. -/
def hits (r t : Int) : Int := (t + 6 - r) / 7
def manyW (r B t : Int) : Int := if hits r t ≤ B then hits r t else B
def atW (n r B t : Int) : Int := if manyW r B t = 0 then -1 else n + r + 7 * (manyW r B t - 1)

end Go.Proofs.YtoiiblhbojhogaaGreatDoor.Pl
end
section
set_option linter.unusedVariables false
set_option linter.unusedSimpArgs false
namespace Go.Proofs.YtoiiblhbojhogaaGreatDoor.Pl
open Go Go.Proofs.YtoiiblhbojhogaaGreatDoor.Eng
set_option linter.unusedVariables false

theorem ifT {c : Prop} [Decidable c] {a b : Prop} (h : c) (ha : a) : if c then a else b := by rw [if_pos h]; exact ha
theorem ifF {c : Prop} [Decidable c] {a b : Prop} (h : ¬ c) (hb : b) : if c then a else b := by rw [if_neg h]; exact hb
theorem ifC {c : Prop} [Decidable c] {a b : Prop} (h1 : c → a) (h2 : ¬ c → b) : if c then a else b := by
  by_cases h : c
  · exact ifT h (h1 h)
  · exact ifF h (h2 h)
theorem w64_in {n : Int} (h0 : -9223372036854775808 ≤ n) (h1 : n ≤ 9223372036854775807) : w64 n = n := by
  simp only [w64, IntKind.wrap, IntKind.bits, IntKind.signed]
  try simp
  try omega
theorem bAt_S (l : List UInt8) (i : Nat) : Eng.bAt (S l) i = ((l.getD i 0).toNat : Int) := rfl
theorem bAt0 (c : UInt8) (l : List UInt8) : Eng.bAt (S (c :: l)) 0 = (c.toNat : Int) := rfl
theorem bAt1 (a c : UInt8) (l : List UInt8) : Eng.bAt (S (a :: c :: l)) 1 = (c.toNat : Int) := rfl
theorem bAt2 (a b c : UInt8) (l : List UInt8) : Eng.bAt (S (a :: b :: c :: l)) 2 = (c.toNat : Int) := rfl
/-- A loop that comes to an end: what holds ahead of each round, and a measure. -/
theorem lp_ind {α : Type} {F : (α → Prop) → α → Prop} (μ : α → Nat) (I : α → Prop) (h : ∀ x, I x → ∀ k : α → Prop, (∀ y, I y → μ y < μ x → k y) → F k x) {x : α} (hx : I x) : Eng.lp F x := by
  have key : ∀ n x, I x → μ x < n → itrT F n x := by
    intro n
    induction n with
    | zero => intro x _ hn; omega
    | succ n ih => intro x hx hn; exact h x hx _ fun y hy hlt => ih y hy (by omega)
  exact ⟨μ x + 1, key _ _ hx (Nat.lt_succ_self _)⟩

/-- A loop through given states. -/
theorem lp_nat {α : Type} {F : (α → Prop) → α → Prop} (st : Nat → α) (N : Nat) (h : ∀ n, n ≤ N → ∀ k : α → Prop, (n < N → k (st (n + 1))) → F k (st n)) : Eng.lp F (st 0) := by
  have key : ∀ d n, n + d = N → itrT F (d + 1) (st n) := by
    intro d
    induction d with
    | zero => intro n hn; exact h n (by omega) _ fun hlt => by omega
    | succ d ih => intro n hn; exact h n (by omega) _ fun hlt => ih (n + 1) (by omega)
  exact ⟨N + 1, key N 0 (by omega)⟩

theorem lp_at {α : Type} {F : (α → Prop) → α → Prop} {x : α} (st : Nat → α) (N : Nat) (h0 : x = st 0) (h : ∀ n, n ≤ N → ∀ k : α → Prop, (n < N → k (st (n + 1))) → F k (st n)) : Eng.lp F x := by
  rw [h0]; exact lp_nat st N h
/-- How many of a list's first elements are not such. -/
def nl (q : UInt8 → Bool) (l : List UInt8) : Nat := (l.takeWhile fun c => !q c).length
theorem nl_le (q : UInt8 → Bool) (l : List UInt8) : nl q l ≤ l.length := by unfold nl; exact (List.takeWhile_sublist _).length_le
theorem nl_cons (q : UInt8 → Bool) (c : UInt8) (l : List UInt8) : nl q (c :: l) = if q c = true then 0 else nl q l + 1 := by
  unfold nl; rw [List.takeWhile_cons]; cases q c <;> simp
theorem nl_any (q : UInt8 → Bool) (l : List UInt8) : l.any q = decide (nl q l < l.length) := by
  induction l with
  | nil => rfl
  | cons c l ih =>
    rw [List.any_cons, nl_cons, ih]
    cases q c <;> simp
theorem nl_of (q : UInt8 → Bool) : ∀ (l : List UInt8) (k : Nat), k ≤ l.length → (∀ c ∈ l.take k, q c = false) → (∀ h : k < l.length, q l[k] = true) → nl q l = k
  | [], k, hk, _, _ => by simp at hk; subst hk; rfl
  | c :: l, 0, _, _, h => by
    have h0 : q c = true := h (by simp)
    rw [nl_cons, if_pos h0]
  | c :: l, k + 1, hk, h1, h2 => by
    have hc := h1 c (by simp)
    rw [nl_cons, if_neg (by rw [hc]; simp), nl_of q l k (by simpa using hk) (fun d hd => h1 d (by rw [List.take_succ_cons]; exact .tail _ hd)) (fun h => by have := h2 (by simpa using h); simpa using this)]
theorem nl_spec (q : UInt8 → Bool) : ∀ (l : List UInt8) (j : Nat) (h : j < l.length), (j < nl q l → q l[j] = false) ∧ (j = nl q l → q l[j] = true)
  | [], j, h => by simp at h
  | c :: l, 0, _ => by
    rw [nl_cons]
    cases hq : q c
    · exact ⟨fun _ => hq, fun h => by simp at h⟩
    · exact ⟨fun h => by simp at h, fun _ => hq⟩
  | c :: l, j + 1, h => by
    have ih := nl_spec q l j (by simpa using h)
    rw [nl_cons]
    cases hq : q c
    · simp only [Bool.false_eq_true, if_false, List.getElem_cons_succ]
      exact ⟨fun h => ih.1 (by omega), fun h => ih.2 (by omega)⟩
    · exact ⟨fun h => by simp at h, fun h => by simp at h⟩
theorem indexByte_nl (l : List UInt8) (c : UInt8) : Lib.indexByte l c = if nl (· == c) l < l.length then (nl (· == c) l : Int) else -1 := by
  induction l with
  | nil => rfl
  | cons b l ih =>
    rw [Lib.indexByte, nl_cons, ih]
    cases hb : (b == c)
    · simp only [Bool.false_eq_true, if_false, List.length_cons]
      by_cases h : nl (· == c) l < l.length
      · rw [if_pos h, if_neg (by simp), if_pos (by omega)]; omega
      · rw [if_neg h, if_pos (by simp), if_neg (by omega)]
    · simp
theorem decode_lo (l : List UInt8) (pos : Nat) (h : pos < l.length) (ha : l[pos].toNat < 128) : Utf8.decode (S l) pos = (l[pos].toNat, 1) := decode_ascii (S l) pos (by rw [S_size]; exact h) ha
theorem decode_hi (l : List UInt8) (pos : Nat) (h : pos < l.length) (ha : 128 ≤ l[pos].toNat) : 128 ≤ (Utf8.decode (S l) pos).1 ∧ 1 ≤ (Utf8.decode (S l) pos).2 := decode_high (S l) pos (by rw [S_size]; exact h) ha
theorem S_toList' (l : List UInt8) : (S l).toList = l := S_toList l
end Go.Proofs.YtoiiblhbojhogaaGreatDoor.Pl
end
section
set_option linter.unusedVariables false
set_option linter.unusedSimpArgs false
namespace Go.Proofs.YtoiiblhbojhogaaGreatDoor.Pl
open Go Go.Proofs.YtoiiblhbojhogaaGreatDoor.Eng
set_option linter.unusedVariables false
set_option linter.unusedSimpArgs false

abbrev W32 := BitVec 32
/-- A word, and a byte, as whole numbers. -/
abbrev wi (x : W32) : Int := (x.toNat : Int)
abbrev bi (c : UInt8) : Int := (c.toNat : Int)
abbrev cw (x : W32) : V := .c (.int .u32 (wi x))
abbrev cb (c : UInt8) : V := .c (.int .u8 (bi c))
theorem wu32_in {n : Int} (h0 : 0 ≤ n) (h1 : n ≤ 4294967295) : wu32 n = n := by
  simp only [wu32, IntKind.wrap, IntKind.bits, IntKind.signed]
  try simp
  try omega
theorem wu8_in {n : Int} (h0 : 0 ≤ n) (h1 : n ≤ 255) : wu8 n = n := by
  simp only [wu8, IntKind.wrap, IntKind.bits, IntKind.signed]
  try simp
  try omega
theorem wu64_in {n : Int} (h0 : 0 ≤ n) (h1 : n ≤ 18446744073709551615) : wu64 n = n := by
  simp only [wu64, IntKind.wrap, IntKind.bits, IntKind.signed]
  try simp
  try omega
theorem wu32_nat (n : Nat) : wu32 (n : Int) = wi (BitVec.ofNat 32 n) := by
  simp only [wu32, wi, IntKind.wrap, IntKind.bits, IntKind.signed, BitVec.toNat_ofNat]
  simp
theorem wi_lt (x : W32) : x.toNat < 4294967296 := x.isLt
theorem bi_lt (c : UInt8) : c.toNat < 256 := c.toNat_lt
theorem wu32_wi (x : W32) : wu32 (x.toNat : Int) = wi x := wu32_in (by omega) (by have := wi_lt x; omega)
theorem ofInt_wi (x : W32) : BitVec.ofInt 32 (wi x) = x := by
  apply BitVec.eq_of_toNat_eq
  rw [BitVec.toNat_ofInt]
  have := wi_lt x
  have e : ((2 ^ 32 : Nat) : Int) = 4294967296 := by decide
  rw [e]
  unfold wi
  omega
theorem wi_add (x y : W32) : wu32 (wi x + wi y) = wi (x + y) := by
  rw [show wi x + wi y = ((x.toNat + y.toNat : Nat) : Int) by simp [wi], wu32_nat]
  congr 1
theorem wi_shl (x : W32) (k : Nat) : wu32 (wi x * 2 ^ k) = wi (x <<< k) := by
  rw [show wi x * 2 ^ k = ((x.toNat * 2 ^ k : Nat) : Int) by simp [wi], wu32_nat]
  congr 1
  apply BitVec.eq_of_toNat_eq
  simp [BitVec.toNat_shiftLeft, Nat.shiftLeft_eq]
theorem wi_shr (x : W32) (k : Nat) : Int.fdiv (wi x) (2 ^ k) = wi (x >>> k) := by
  rw [Int.fdiv_eq_ediv_of_nonneg _ (by exact_mod_cast Nat.zero_le _)]
  unfold wi
  rw [BitVec.toNat_ushiftRight, Nat.shiftRight_eq_div_pow]
  exact_mod_cast rfl
def rotl (x : W32) (k : Nat) : W32 := x <<< k ||| x >>> (32 - k)
theorem wi_lit (n : Nat) (h : n < 4294967296) : (n : Int) = wi (BitVec.ofNat 32 n) := by
  unfold wi
  rw [BitVec.toNat_ofNat, Nat.mod_eq_of_lt (by omega)]
theorem wu32_bi (c : UInt8) : wu32 (bi c) = wi (BitVec.ofNat 32 c.toNat) := by rw [wu32_nat]

/-- The words of a block: sixteen, then those that are mixed. -/
def sched : Nat → List W32 → List W32
  | 0, l => l
  | n + 1, l => sched n (l ++ [rotl (l.getD (l.length - 3) 0 ^^^ l.getD (l.length - 8) 0 ^^^ l.getD (l.length - 14) 0 ^^^ l.getD (l.length - 16) 0) 1])
def next (l : List W32) : List W32 := l ++ [rotl (l.getD (l.length - 3) 0 ^^^ l.getD (l.length - 8) 0 ^^^ l.getD (l.length - 14) 0 ^^^ l.getD (l.length - 16) 0) 1]
def word (b : List UInt8) (i : Nat) : W32 := b.foldl (fun w c => w <<< 8 ||| BitVec.ofNat 32 c.toNat) 0
def wordAt (b : List UInt8) (i : Nat) : W32 := word ((b.drop (4 * i)).take 4) 0
def first (b : List UInt8) (n : Nat) : List W32 := (List.range n).map (wordAt b)
def wordsN (b : List UInt8) : Nat → List W32
  | 0 => first b 16
  | n + 1 => next (wordsN b n)
theorem wordsN_len (b : List UInt8) (n : Nat) : (wordsN b n).length = 16 + n := by
  induction n with
  | zero => simp [wordsN, first]
  | succ n ih => simp [wordsN, next, ih]; omega
structure St5 where
  a : W32
  b : W32
  c : W32
  d : W32
  e : W32
def fAt (i : Nat) (b c d : W32) : W32 := if i < 20 then d ^^^ (b &&& (c ^^^ d)) else if i < 40 then b ^^^ c ^^^ d else if i < 60 then (b &&& c) ||| (d &&& (b ||| c)) else b ^^^ c ^^^ d
def kAt (i : Nat) : W32 := if i < 20 then 1518500249#32 else if i < 40 then 1859775393#32 else if i < 60 then 2400959708#32 else 3395469782#32
def stepS (s : St5) (f k w : W32) : St5 := ⟨rotl s.a 5 + f + s.e + k + w, s.a, rotl s.b 30, s.c, s.d⟩
def roundsN (ws : List W32) (s : St5) : Nat → St5
  | 0 => s
  | n + 1 => let t := roundsN ws s n; stepS t (fAt n t.b t.c t.d) (kAt n) (ws.getD n 0)
def addS (s t : St5) : St5 := ⟨s.a + t.a, s.b + t.b, s.c + t.c, s.d + t.d, s.e + t.e⟩
def blockL (s : St5) (b : List UInt8) : St5 := addS (roundsN (wordsN b 64) s 80) s
def blocksN (l : List UInt8) (s : St5) : Nat → St5
  | 0 => s
  | n + 1 => blockL (blocksN l s n) ((l.drop (64 * n)).take 64)
def be64 (n : Nat) : List UInt8 := (List.range 8).map fun i => UInt8.ofNat (n / 2 ^ (8 * (7 - i)))
def padL (m : List UInt8) : List UInt8 := m ++ [128] ++ List.replicate ((184 - (m.length + 1) % 64) % 64) 0 ++ be64 (8 * m.length)
def s0 : St5 := ⟨1732584193#32, 4023233417#32, 2562383102#32, 271733878#32, 3285377520#32⟩
def St5.at (s : St5) (i : Nat) : W32 := match i with | 0 => s.a | 1 => s.b | 2 => s.c | 3 => s.d | _ => s.e
def sumS (m : List UInt8) : St5 := blocksN (padL m) s0 ((padL m).length / 64)
def digest (m : List UInt8) (i : Nat) : UInt8 := UInt8.ofNat (((sumS m).at (i / 4)).toNat / 2 ^ (24 - 8 * (i % 4)))
theorem padL_len (m : List UInt8) : (padL m).length % 64 = 0 := by
  simp [padL, be64]
  omega
/-- Words of a digest, and its digits. -/
def wordsOf (d : Nat → UInt8) (j : Nat) : W32 := word [d (4 * j), d (4 * j + 1), d (4 * j + 2), d (4 * j + 3)] 0
def hexC (n : Nat) : UInt8 := [48, 49, 50, 51, 52, 53, 54, 55, 56, 57, 97, 98, 99, 100, 101, 102].getD n 0
def hexN (d : Nat → UInt8) : Nat → List UInt8
  | 0 => []
  | n + 1 => hexN d n ++ [hexC ((d n).toNat / 16), hexC ((d n).toNat % 16)]

theorem wordsN_get (b : List UInt8) (n i : Nat) (h : i < 16 + n) : ∀ m, n ≤ m → (wordsN b m).getD i 0 = (wordsN b n).getD i 0 := by
  intro m
  induction m with
  | zero => intro hm; rw [show n = 0 by omega]
  | succ m ih =>
    intro hm
    by_cases e : n = m + 1
    · rw [e]
    · rw [← ih (by omega)]
      have hl : i < (wordsN b m).length := by rw [wordsN_len]; omega
      simp only [wordsN, next, List.getD_eq_getElem?_getD, List.getElem?_append_left hl]
theorem first_get (b : List UInt8) (n i : Nat) (h : i < n) : (first b n).getD i 0 = wordAt b i := by
  simp [first, List.getD_eq_getElem?_getD, h]

/-- Arrays in memory: one element, its cells plain. -/
def agL (k : IntKind) (n : Nat) (f : Nat → Int) : List V := [.agg ((List.range n).map fun i => .c (.int k (f i)))]
def updF (f : Nat → Int) (i : Nat) (x : Int) : Nat → Int := fun j => if j = i then x else f j
theorem agL_get {k : IntKind} {n : Nat} {f : Nat → Int} {i : Nat} (h : i < n) : getC (agL k n f) 0 i = some (.c (.int k (f i))) := by
  simp [agL, getC, V.cells, h]
theorem asI {k : IntKind} {n : Nat} {f : Nat → Int} {i : Nat} (h : i < n) {F : Prop} {K : Int → Prop} (hk : K (f i)) : Eng.asInt k (getC (agL k n f) 0 i) F K := by
  rw [agL_get h]
  simpa [Eng.asInt] using hk
theorem asL {k : IntKind} {n : Nat} {f : Nat → Int} {i : Nat} (h : i < n) {F : Prop} {K : Int → Prop} (hk : K (f i)) : Eng.asInt k (((List.range n).map fun i => V.c (.int k (f i)))[i]?) F K := by
  simp [Eng.asInt, h, hk]
theorem agL_set {k : IntKind} {n : Nat} {f : Nat → Int} {i : Nat} {x : Int} (h : i < n) : List.set (agL k n f) 0 (setE (List.getD (agL k n f) 0 V.bad) i [.c (.int k x)]) = agL k n (updF f i x) := by
  simp only [agL, List.getD_cons_zero, setE, setL, List.set_cons_zero]
  congr 2
  apply List.ext_getElem?
  intro j
  rw [List.getElem?_set]
  by_cases hj : j < n
  · by_cases e : i = j
    · subst e; simp [updF, h]
    · simp [e, hj, updF, Ne.symm e]
  · have : ¬ i = j := by omega
    simp [this, hj]
theorem agL_len {k : IntKind} {n : Nat} {f : Nat → Int} : (agL k n f).length = 1 := rfl
theorem agL_congr {k : IntKind} {n : Nat} {f g : Nat → Int} (h : ∀ i, i < n → f i = g i) : agL k n f = agL k n g := by
  unfold agL
  congr 2
  apply List.map_congr_left
  intro i hi
  rw [h i (List.mem_range.1 hi)]
end Go.Proofs.YtoiiblhbojhogaaGreatDoor.Pl
end
section
set_option linter.unusedVariables false
set_option linter.unusedSimpArgs false
namespace Go.Proofs.YtoiiblhbojhogaaGreatDoor.Pl
open Go Go.Proofs.YtoiiblhbojhogaaGreatDoor.Eng
set_option linter.unusedVariables false
set_option linter.unusedSimpArgs false

/-- Cut at a byte, so often. -/
def splN (c : UInt8) : Nat → List UInt8 → List (List UInt8)
  | 0, l => [l]
  | k + 1, l => if nl (· == c) l < l.length then l.take (nl (· == c) l) :: splN c k (l.drop (nl (· == c) l + 1)) else [l]
/-- Cut at each such byte. -/
def spl (c : UInt8) : List UInt8 → List (List UInt8)
  | [] => [[]]
  | b :: r => if b == c then [] :: spl c r else match spl c r with
    | [] => [[b]]
    | h :: t => (b :: h) :: t
theorem spl_ne (c : UInt8) (l : List UInt8) : spl c l ≠ [] := by
  cases l with
  | nil => simp [spl]
  | cons b r =>
    rw [spl]; split
    · simp
    · split <;> simp
theorem spl_eq (c : UInt8) : ∀ l, spl c l = if nl (· == c) l < l.length then l.take (nl (· == c) l) :: spl c (l.drop (nl (· == c) l + 1)) else [l]
  | [] => rfl
  | b :: r => by
    rw [spl, nl_cons]
    cases hb : b == c
    · simp only [Bool.false_eq_true, if_false, List.length_cons]
      rw [spl_eq c r]
      by_cases h : nl (· == c) r < r.length
      · simp only [if_pos h]; rw [if_pos (by omega)]; simp
      · simp only [if_neg h]; rw [if_neg (by omega)]
    · simp
theorem count_nl (c : UInt8) (l : List UInt8) (h : nl (· == c) l < l.length) : l.count c = (l.drop (nl (· == c) l + 1)).count c + 1 := by
  induction l with
  | nil => simp at h
  | cons b r ih =>
    rw [nl_cons] at h ⊢
    cases hb : b == c
    · rw [hb] at h
      simp only [Bool.false_eq_true, if_false, List.length_cons] at h ⊢
      rw [List.count_cons, hb, ih (by omega)]; simp
    · rw [List.count_cons, hb]; simp
theorem splN_spl (c : UInt8) : ∀ (k : Nat) (l : List UInt8), l.count c ≤ k → splN c k l = spl c l
  | 0, l, h => by
    rw [splN, spl_eq, if_neg]
    intro hh
    have := count_nl c l hh
    omega
  | k + 1, l, h => by
    rw [splN, spl_eq]
    split
    · rename_i hh
      have := count_nl c l hh
      rw [splN_spl c k _ (by omega)]
    · rfl
theorem spl_app (c : UInt8) : ∀ (a r : List UInt8), c ∉ a → spl c (a ++ c :: r) = a :: spl c r
  | [], r, _ => by rw [List.nil_append, spl]; simp
  | b :: a, r, h => by
    have hb : (b == c) = false := by
      simp only [beq_eq_false_iff_ne]; exact fun e => h (e ▸ .head _)
    rw [List.cons_append, spl, hb, spl_app c a r (fun hh => h (.tail _ hh))]; simp
theorem splN_len (c : UInt8) : ∀ (k : Nat) (l : List UInt8), (splN c k l).length ≤ k + 1 ∧ 1 ≤ (splN c k l).length ∧ ∀ w ∈ splN c k l, w.length ≤ l.length
  | 0, l => by simp [splN]
  | k + 1, l => by
    rw [splN]
    split
    · obtain ⟨h1, h2, h3⟩ := splN_len c k (l.drop (nl (· == c) l + 1))
      refine ⟨by simp; omega, by simp, fun w hw => ?_⟩
      cases hw with
      | head => simp; omega
      | tail _ hw => have := h3 w hw; simp at this; omega
    · refine ⟨by simp, by simp, fun w hw => ?_⟩
      simp at hw; rw [hw]; exact Nat.le_refl _
theorem spl_len (c : UInt8) (l : List UInt8) : (spl c l).length ≤ l.length + 1 ∧ 1 ≤ (spl c l).length ∧ ∀ w ∈ spl c l, w.length ≤ l.length := by
  rw [← splN_spl c l.length l List.count_le_length]
  exact splN_len c _ l
/-- Without a 13 at the end. -/
def trimR (l : List UInt8) : List UInt8 := if l.getLast? = some 13 then l.dropLast else l
/-- Lines. -/
def linesL (l : List UInt8) : List (List UInt8) := (if (spl 10 l).getLast? = some [] then (spl 10 l).dropLast else spl 10 l).map trimR
theorem trimR_len (l : List UInt8) : (trimR l).length ≤ l.length := by unfold trimR; split <;> simp
theorem linesL_len (l : List UInt8) : (linesL l).length ≤ l.length + 1 ∧ ∀ w ∈ linesL l, w.length ≤ l.length := by
  obtain ⟨h1, h2, h3⟩ := spl_len 10 l
  unfold linesL
  constructor
  · split <;> simp <;> omega
  · intro w hw
    obtain ⟨v, hv, rfl⟩ := List.mem_map.1 hw
    have hv' : v ∈ spl 10 l := by
      split at hv
      · exact (List.dropLast_sublist _).subset hv
      · exact hv
    have := trimR_len v
    have := h3 v hv'
    omega
def blankB (c : UInt8) : Bool := c == 32 || c == 9
/-- Words. -/
def wd : List UInt8 → List UInt8 → List (List UInt8)
  | cur, [] => if cur = [] then [] else [cur]
  | cur, c :: r => if blankB c = true then (if cur = [] then wd [] r else cur :: wd [] r) else wd (cur ++ [c]) r
def wordsL (l : List UInt8) : List (List UInt8) := wd [] l
theorem wd_blank (l : List UInt8) : ∀ cur, wd cur (l ++ [32]) = wd cur l := by
  induction l with
  | nil => intro cur; simp [wd, blankB]
  | cons c r ih =>
    intro cur
    rw [List.cons_append, wd, wd]
    simp only [ih]
theorem wd_skip : ∀ (a cur r : List UInt8), (∀ c ∈ a, blankB c = false) → wd cur (a ++ r) = wd (cur ++ a) r
  | [], cur, r, _ => by simp
  | c :: a, cur, r, h => by
    rw [List.cons_append, wd, if_neg (by rw [h c (.head _)]; simp), wd_skip a _ r (fun d hd => h d (.tail _ hd))]; simp
theorem wd_len : ∀ (l cur : List UInt8), (wd cur l).length ≤ l.length + 1 ∧ ∀ w ∈ wd cur l, w.length ≤ cur.length + l.length ∧ w ≠ []
  | [], cur => by
    rw [wd]; split
    · simp
    · rename_i h; simp [h]
  | c :: r, cur => by
    rw [wd]
    split
    · split
      · obtain ⟨h1, h2⟩ := wd_len r []
        refine ⟨by simp; omega, fun w hw => ⟨by have := (h2 w hw).1; simp at this ⊢; omega, (h2 w hw).2⟩⟩
      · rename_i hc
        obtain ⟨h1, h2⟩ := wd_len r []
        refine ⟨by simp; omega, fun w hw => ?_⟩
        cases hw with
        | head => exact ⟨by simp, hc⟩
        | tail _ hw => exact ⟨by have := (h2 w hw).1; simp at this ⊢; omega, (h2 w hw).2⟩
    · obtain ⟨h1, h2⟩ := wd_len r (cur ++ [c])
      exact ⟨by simp; omega, fun w hw => ⟨by have := (h2 w hw).1; simp at this ⊢; omega, (h2 w hw).2⟩⟩
/-- A number of a text. -/
def numL (l : List UInt8) : Int × Bool := if l ≠ [] ∧ l.all isDig = true ∧ valL l ≤ 9223372036854775807 then ((valL l : Int), true) else (0, false)
def lowB (c : UInt8) : UInt8 := if 65 ≤ c.toNat ∧ c.toNat ≤ 90 then UInt8.ofNat (c.toNat + 32) else c
def foldLw (l : List UInt8) : List UInt8 := l.map lowB
def preB (n f : List UInt8) : Bool := n.take f.length == f
def monNames : List (List UInt8) := [[106, 97, 110, 117, 97, 114, 121], [102, 101, 98, 114, 117, 97, 114, 121], [109, 97, 114, 99, 104], [97, 112, 114, 105, 108], [109, 97, 121], [106, 117, 110, 101], [106, 117, 108, 121], [97, 117, 103, 117, 115, 116], [115, 101, 112, 116, 101, 109, 98, 101, 114], [111, 99, 116, 111, 98, 101, 114], [110, 111, 118, 101, 109, 98, 101, 114], [100, 101, 99, 101, 109, 98, 101, 114]]
def monG (f : List UInt8) : Nat → List (List UInt8) → Int × Bool
  | _, [] => (0, false)
  | k, n :: r => if (decide (f.length > 2) && preB n f) = true then ((k : Int) + 1, true) else monG f (k + 1) r
def monthL (s : List UInt8) : Int × Bool := monG (foldLw s) 0 monNames
def secondL (h m s : Int) : Int × Bool := if h = 23 ∧ m = 59 ∧ s = 60 then (86400, true) else if 0 ≤ h ∧ h ≤ 23 ∧ 0 ≤ m ∧ m ≤ 59 ∧ 0 ≤ s ∧ s ≤ 59 then (h * 3600 + m * 60 + s, true) else (0, false)
def two (l : List UInt8) : Bool := (numL l).2 && decide (l.length ≤ 2)
def zclockL (s : List UInt8) : Int × Bool := match splN 58 2 s with
  | [a, b, c] => if (two a && two b && two c) = true then secondL (numL a).1 (numL b).1 (numL c).1 else (0, false)
  | _ => (0, false)
/-- Leaps: the day, the step, whether of local time; and tables. -/
abbrev LR := Int × Int × Bool
structure Tb where
  ls : List LR
  has : Bool
  ex : Int
deriving DecidableEq
def eLR (l : LR) : V := .agg [.c (.int .i64 l.1), .c (.int .i64 l.2.1), .c (.bool l.2.2)]
def endD (n : Int) : Bool := decide (-719162 ≤ n ∧ n ≤ 2932896) && (dayP n == dim (yearP n) (monP n))
def wrongL (k : Nat) (l : LR) (ahead : Int) : Int :=
  if 200 ≤ k then 8 else if l.1 < 730 ∨ 2932896 ≤ l.1 then 9 else if endD l.1 = false then 5 else if l.2.1 ≠ 1 ∧ l.2.1 ≠ -1 then 6 else if l.1 ≤ ahead then 4 else 0
/-- The first wrong leap, what is wrong of it, the last day ahead. -/
def checkG : Nat → Int → List LR → Nat × Int × Int
  | k, ahead, [] => (k, 0, ahead)
  | k, ahead, l :: r => if wrongL k l ahead ≠ 0 then (k, wrongL k l ahead, ahead) else checkG (k + 1) l.1 r
def expB (has : Bool) (ex ahead : Int) : Int :=
  if has = true then (if ex < (if 63072000 > (ahead + 1) * 86400 then 63072000 else (ahead + 1) * 86400) ∨ 253402300799 < ex then 9 else 0) else if ex ≠ 0 then 9 else 0
def checkT (t : Tb) : Nat × Int := if (checkG 0 729 t.ls).2.1 ≠ 0 then ((checkG 0 729 t.ls).1, (checkG 0 729 t.ls).2.1) else (t.ls.length, expB t.has t.ex (checkG 0 729 t.ls).2.2)
def rightT (t : Tb) : Bool := (checkT t).2 == 0
/-- A leap laid behind all others, or what is wrong. -/
def addT (t : Tb) (l : LR) : Tb × Int := if (checkT ⟨t.ls ++ [l], t.has, t.ex⟩).2 ≠ 0 then (t, (checkT ⟨t.ls ++ [l], t.has, t.ex⟩).2) else (⟨t.ls ++ [l], t.has, t.ex⟩, 0)
/-- A line: its kind, its date, its second, and what a leap has beside. -/
structure Row where
  kind : Int
  y : Int
  m : Int
  d : Int
  sec : Int
  sign : List UInt8
  roll : Bool
def rollL (s : List UInt8) : Bool × Bool := if preB [114, 111, 108, 108, 105, 110, 103] (foldLw s) = true then (true, true) else (false, preB [115, 116, 97, 116, 105, 111, 110, 97, 114, 121] (foldLw s))
def dateW (kind : Int) (w1 w2 w3 w4 : List UInt8) : Row × Bool := (⟨kind, (numL w1).1, (monthL w2).1, (numL w3).1, (zclockL w4).1, [], false⟩, (numL w1).2 && (monthL w2).2 && (numL w3).2 && (zclockL w4).2)
def row0 : Row := ⟨0, 0, 0, 0, 0, [], false⟩
def readW (w : List (List UInt8)) : Row × Bool :=
  if foldLw (w.getD 0 []) = [108, 101, 97, 112] ∧ w.length = 7 then
    let r := dateW 0 (w.getD 1 []) (w.getD 2 []) (w.getD 3 []) (w.getD 4 [])
    (⟨r.1.kind, r.1.y, r.1.m, r.1.d, r.1.sec, w.getD 5 [], (rollL (w.getD 6 [])).1⟩, (decide (w.getD 5 [] = [43] ∨ w.getD 5 [] = [45])) && r.2 && (rollL (w.getD 6 [])).2)
  else if foldLw (w.getD 0 []) = [101, 120, 112, 105, 114, 101, 115] ∧ w.length = 5 then dateW 1 (w.getD 1 []) (w.getD 2 []) (w.getD 3 []) (w.getD 4 [])
  else (row0, false)
/-- What is read so far: the table (without an expiry), the line of the expiry, and what it says. -/
structure Src where
  ls : List LR
  at' : Int
  til : Int
def dayN (y m d : Int) : Option Int := if 1 ≤ y ∧ y ≤ 9999 ∧ 1 ≤ m ∧ m ≤ 12 ∧ 1 ≤ d ∧ d ≤ dim y m then some (num y m d) else none
def leapW (s : Src) (r : Row) (n : Int) : Src × Int :=
  if r.sign = [43] ∧ r.sec = 86400 then (⟨(addT ⟨s.ls, false, 0⟩ (n, 1, r.roll)).1.ls, s.at', s.til⟩, (addT ⟨s.ls, false, 0⟩ (n, 1, r.roll)).2)
  else if r.sign = [45] ∧ r.sec = 86399 then (⟨(addT ⟨s.ls, false, 0⟩ (n, -1, r.roll)).1.ls, s.at', s.til⟩, (addT ⟨s.ls, false, 0⟩ (n, -1, r.roll)).2)
  else (s, 6)
def lineW (s : Src) (no : Nat) (w : List (List UInt8)) : Src × Int :=
  if (readW w).2 = false ∨ ((readW w).1.kind = 1 ∧ s.at' > 0) then (s, 2)
  else match dayN (readW w).1.y (readW w).1.m (readW w).1.d with
    | none => (s, 9)
    | some n => if (readW w).1.kind = 0 then leapW s (readW w).1 n else if (readW w).1.sec = 86400 then (s, 9) else (⟨s.ls, no, n * 86400 + (readW w).1.sec⟩, 0)
/-- The part of a line ahead of a remark. -/
def bareL (l : List UInt8) : List UInt8 := l.take (nl (· == 35) l)
def tb0 : Tb := ⟨[], false, 0⟩
def parseE (s : Src) : Tb × Int × Int := if s.at' > 0 then (if rightT ⟨s.ls, true, s.til⟩ = true then (⟨s.ls, true, s.til⟩, 0, 0) else (tb0, s.at', 9)) else (⟨s.ls, false, 0⟩, 0, 0)
def parseG : Nat → Src → List (List UInt8) → Tb × Int × Int
  | k, s, [] => parseE s
  | k, s, x :: r => if wordsL (bareL x) = [] then parseG (k + 1) s r else
      if (lineW s (k + 1) (wordsL (bareL x))).2 ≠ 0 then (tb0, (k : Int) + 1, (lineW s (k + 1) (wordsL (bareL x))).2) else parseG (k + 1) (lineW s (k + 1) (wordsL (bareL x))).1 r
def src0 : Src := ⟨[], 0, 0⟩
def zparseL (s : List UInt8) : Tb × Int × Int := parseG 0 src0 (linesL s)
theorem decode_cont (l : List UInt8) (pos : Nat) (h : pos < l.length) (ha : 128 ≤ l[pos].toNat) :
    128 ≤ (Utf8.decode (S l) pos).1 ∧ 1 ≤ (Utf8.decode (S l) pos).2 ∧ pos + (Utf8.decode (S l) pos).2 ≤ l.length ∧ ∀ c ∈ (l.drop pos).take (Utf8.decode (S l) pos).2, 128 ≤ c.toNat := by
  obtain ⟨h1, h2⟩ := decode_hi l pos h ha
  refine ⟨h1, h2, ?_⟩
  have g : ∀ k (hk : pos + k < l.length), ((S l).get! (pos + k)).toNat = l[pos + k].toNat := fun k hk => by
    simp [S, ByteArray.get!, hk]
  have one : pos + 1 ≤ l.length ∧ ∀ c ∈ (l.drop pos).take 1, 128 ≤ c.toNat := by
    refine ⟨h, fun c hc => ?_⟩
    rw [List.drop_eq_getElem_cons h, List.take_succ_cons, List.take_zero, List.mem_singleton] at hc
    rw [hc]; exact ha
  have more : ∀ w, 1 ≤ w → (∀ k, 1 ≤ k → k < w → pos + k < l.length ∧ ((S l).get! (pos + k)).toNat / 64 = 2) → pos + w ≤ l.length ∧ ∀ c ∈ (l.drop pos).take w, 128 ≤ c.toNat := fun w hw hk => by
    have hl : pos + w ≤ l.length := by
      by_cases e : w = 1
      · omega
      · have := (hk (w - 1) (by omega) (by omega)).1; omega
    refine ⟨hl, fun c hc => ?_⟩
    obtain ⟨i, hi⟩ := List.getElem?_of_mem hc
    rw [List.getElem?_take] at hi
    split at hi
    · rename_i hiw
      rw [List.getElem?_drop, List.getElem?_eq_getElem (by omega)] at hi
      cases hi
      by_cases e : i = 0
      · subst e; exact ha
      · obtain ⟨q1, q2⟩ := hk i (by omega) hiw
        rw [g i q1] at q2
        omega
    · cases hi
  unfold Utf8.decode
  simp only [S_size]
  have c1 : ∀ k, (decide (pos + k < l.length) && ((S l).get! (pos + k)).toNat / 64 == 2) = true → pos + k < l.length ∧ ((S l).get! (pos + k)).toNat / 64 = 2 := fun k hk => by
    simpa using hk
  split
  · exact one
  · split
    · rename_i hc
      simp only [Bool.and_eq_true] at hc
      split
      · exact more 2 (by omega) fun k k1 k2 => by
          have : k = 1 := by omega
          subst this; exact c1 1 (by simp only [Bool.and_eq_true]; exact hc.2)
      · exact one
    · split
      · rename_i hc
        simp only [Bool.and_eq_true] at hc
        split
        · exact more 3 (by omega) fun k k1 k2 => by
            rcases (show k = 1 ∨ k = 2 by omega) with rfl | rfl
            · exact c1 1 (by simp only [Bool.and_eq_true]; exact hc.1.2)
            · exact c1 2 (by simp only [Bool.and_eq_true]; exact hc.2)
        · exact one
      · split
        · rename_i hc
          simp only [Bool.and_eq_true] at hc
          split
          · exact more 4 (by omega) fun k k1 k2 => by
              rcases (show k = 1 ∨ k = 2 ∨ k = 3 by omega) with rfl | rfl | rfl
              · exact c1 1 (by simp only [Bool.and_eq_true]; exact hc.1.1.2)
              · exact c1 2 (by simp only [Bool.and_eq_true]; exact hc.1.2)
              · exact c1 3 (by simp only [Bool.and_eq_true]; exact hc.2)
          · exact one
        · exact one
/-- Rows of texts. -/
def WV (ws : List (List UInt8)) : List V := ws.map fun w => .c (.string (S w))
theorem WV_len (ws : List (List UInt8)) : (WV ws).length = ws.length := by simp [WV]
theorem WV_app (a b : List (List UInt8)) : WV (a ++ b) = WV a ++ WV b := by simp [WV]
theorem asW {ws : List (List UInt8)} {i : Nat} (h : i < ws.length) {F : Prop} {K : ByteArray → Prop} (hk : K (S ws[i])) : Eng.asStr (getC (WV ws) i 0) F K := by
  have : getC (WV ws) i 0 = some (.c (.string (S ws[i]))) := by simp [getC, WV, V.cells, h]
  rw [this]; simpa [Eng.asStr] using hk
theorem kS_nil (l : List UInt8) : (ByteArray.toList (S l) == ByteArray.toList (ByteArray.mk #[])) = l.isEmpty := by
  rw [S_toList, show ByteArray.toList (ByteArray.mk #[]) = [] from S_toList []]
  cases l <;> rfl
theorem set_mid {α : Type} (a : List α) (x y : α) (b : List α) : (a ++ y :: b).set a.length x = a ++ x :: b := by
  induction a with
  | nil => rfl
  | cons h t ih => simp
theorem getD_mid {α : Type} (a : List α) (d y : α) (b : List α) : (a ++ y :: b).getD a.length d = y := by simp
/-- Bytes, one by one. -/
def B8 (l : List UInt8) : List V := l.map fun b => .c (.int .u8 b.toNat)
theorem B8_len (l : List UInt8) : (B8 l).length = l.length := by simp [B8]
theorem bytesV_S (l : List UInt8) : Eng.bytesV (S l) = B8 l := by simp [Eng.bytesV, B8]
theorem asB8 {l : List UInt8} {i : Nat} (h : i < l.length) {F : Prop} {K : Int → Prop} (hk : K (l[i].toNat : Int)) : Eng.asInt .u8 (getC (B8 l) i 0) F K := by
  have : getC (B8 l) i 0 = some (.c (.int .u8 (l[i].toNat : Int))) := by simp [getC, B8, V.cells, h]
  rw [this]; simpa [Eng.asInt] using hk
theorem B8_all (l : List UInt8) : Eng.allU8 (B8 l) = true := by
  simp [Eng.allU8, B8, Eng.isU8]
theorem B8_pack (l : List UInt8) : Eng.packB (B8 l) = S l := by
  have : (l.map fun b => V.c (.int .u8 (b.toNat : Int))).map Eng.byteOf = l := by
    rw [List.map_map]
    conv => rhs; rw [← List.map_id l]
    refine List.map_congr_left fun b _ => ?_
    simp [Eng.byteOf]
  unfold Eng.packB B8
  rw [this]
theorem kS_eq (l m : List UInt8) : (ByteArray.toList (S l) == ByteArray.toList (S m)) = (l == m) := by rw [S_toList, S_toList]
theorem getD_in {α : Type} (l : List α) (i : Nat) (d : α) (h : i < l.length) : l.getD i d = l[i] := by simp [List.getD, h]
theorem asWd {ws : List (List UInt8)} {i : Nat} (h : i < ws.length) {F : Prop} {K : ByteArray → Prop} (hk : K (S (ws.getD i []))) : Eng.asStr (getC (WV ws) i 0) F K := by
  rw [getD_in _ _ _ h] at hk; exact asW h hk
def tupRow (r : Row) : Int × Int × Int × Int × Int × ByteArray × Bool × Unit := (r.kind, r.y, r.m, r.d, r.sec, S r.sign, r.roll, ())
theorem two_bd {l : List UInt8} (h : two l = true) : 0 ≤ (numL l).1 ∧ (numL l).1 ≤ 99 := by
  unfold two numL at h
  unfold numL
  split at h
  · rename_i hc
    rw [if_pos hc]
    simp only [Bool.true_and, decide_eq_true_eq] at h
    have := valL_lt l (List.all_eq_true.1 hc.2.1)
    have : 10 ^ l.length ≤ 10 ^ 2 := Nat.pow_le_pow_right (by omega) h
    omega
  · simp at h
theorem dneg {p : Prop} [Decidable p] (h : ¬ p) : ¬ (decide p = true) := by simpa using h
def TLV (l : List LR) : List V := l.map eLR
theorem TLV_len (l : List LR) : (TLV l).length = l.length := by simp [TLV]
theorem asL1 {l : List LR} {i : Nat} (h : i < l.length) {F : Prop} {K : Int → Prop} (hk : K (l[i]).1) : Eng.asInt .i64 (getC (TLV l) i 0) F K := by
  have : getC (TLV l) i 0 = some (.c (.int .i64 (l[i]).1)) := by simp [getC, TLV, eLR, V.cells, h]
  rw [this]; simpa [Eng.asInt] using hk
theorem asL2 {l : List LR} {i : Nat} (h : i < l.length) {F : Prop} {K : Int → Prop} (hk : K (l[i]).2.1) : Eng.asInt .i64 (getC (TLV l) i 1) F K := by
  have : getC (TLV l) i 1 = some (.c (.int .i64 (l[i]).2.1)) := by simp [getC, TLV, eLR, V.cells, h]
  rw [this]; simpa [Eng.asInt] using hk
theorem asL3 {l : List LR} {i : Nat} (h : i < l.length) {F : Prop} {K : Bool → Prop} (hk : K (l[i]).2.2) : Eng.asBool (getC (TLV l) i 2) F K := by
  have : getC (TLV l) i 2 = some (.c (.bool (l[i]).2.2)) := by simp [getC, TLV, eLR, V.cells, h]
  rw [this]; simpa [Eng.asBool] using hk
theorem numL_bd (l : List UInt8) : 0 ≤ (numL l).1 ∧ (numL l).1 ≤ 9223372036854775807 := by
  unfold numL; split
  · rename_i h; simp only; omega
  · simp
theorem second_bd (a b c : Int) : 0 ≤ (secondL a b c).1 ∧ (secondL a b c).1 ≤ 86400 := by
  unfold secondL; split
  · simp
  · split
    · simp only; omega
    · simp
theorem zclock_bd (l : List UInt8) : 0 ≤ (zclockL l).1 ∧ (zclockL l).1 ≤ 86400 := by
  unfold zclockL
  split
  · split
    · exact second_bd _ _ _
    · simp
  · simp
/-- A table's leaps as they come, and what holds of those that are right. -/
theorem wrongL_0 {k : Nat} {l : LR} {a : Int} (h : wrongL k l a = 0) : k < 200 ∧ 730 ≤ l.1 ∧ l.1 < 2932896 ∧ endD l.1 = true ∧ (l.2.1 = 1 ∨ l.2.1 = -1) ∧ a < l.1 := by
  unfold wrongL at h
  split at h; · omega
  split at h; · omega
  split at h; · omega
  split at h; · omega
  split at h; · omega
  rename_i h1 h2 h3 h4 h5
  refine ⟨by omega, by omega, by omega, by simpa using h3, by omega, by omega⟩
theorem readW_bd (w : List (List UInt8)) : (0 ≤ (readW w).1.sec ∧ (readW w).1.sec ≤ 86400) ∧ ((readW w).2 = true → (readW w).1.kind = 0 ∨ (readW w).1.kind = 1) ∧ 0 ≤ (readW w).1.d ∧ (readW w).1.d ≤ 9223372036854775807 := by
  unfold readW
  split
  · exact ⟨zclock_bd _, fun _ => .inl rfl, numL_bd _⟩
  · split
    · exact ⟨zclock_bd _, fun _ => .inr rfl, numL_bd _⟩
    · refine ⟨?_, fun h => ?_, ?_⟩
      · simp [row0]
      · simp at h
      · simp [row0]
theorem add_len (t : Tb) (l : LR) : (addT t l).1.ls.length ≤ t.ls.length + 1 := by
  unfold addT; split <;> simp
theorem leapW_len (s : Src) (r : Row) (n : Int) : (leapW s r n).1.ls.length ≤ s.ls.length + 1 := by
  unfold leapW
  split
  · exact add_len _ _
  · split
    · exact add_len _ _
    · simp
theorem lineW_len (s : Src) (no : Nat) (w : List (List UInt8)) : (lineW s no w).1.ls.length ≤ s.ls.length + 1 := by
  unfold lineW
  split
  · simp
  · split
    · simp
    · split
      · exact leapW_len _ _ _
      · split <;> simp
end Go.Proofs.YtoiiblhbojhogaaGreatDoor.Pl
end
section
set_option linter.unusedVariables false
set_option linter.unusedSimpArgs false
namespace Go.Proofs.YtoiiblhbojhogaaGreatDoor.Pl
open Go Go.Proofs.YtoiiblhbojhogaaGreatDoor.Eng
set_option linter.unusedVariables false
set_option linter.unusedSimpArgs false

/-- A month's name: three letters, the first one great. -/
def monCap (m : Int) : List UInt8 := match (monNames.getD (m - 1).toNat []).take 3 with
  | c :: r => UInt8.ofNat (c.toNat - 32) :: r
  | [] => []
def dateWords (kind : List UInt8) (n : Int) (rest : List (List UInt8)) : List (List UInt8) := [kind, itoaK (yearP n), monCap (monP n), itoaK (dayP n)] ++ rest
def joinT (ws : List (List UInt8)) : List UInt8 := Lib.join ws [9]
def leapWords (l : LR) : List (List UInt8) := dateWords [76, 101, 97, 112] l.1 [if l.2.1 < 0 then [50, 51, 58, 53, 57, 58, 53, 57] else [50, 51, 58, 53, 57, 58, 54, 48], if l.2.1 < 0 then [45] else [43], if l.2.2 = true then [82] else [83]]
def dd (n : Int) : List UInt8 := [UInt8.ofNat (48 + (n / 10 % 10).toNat), UInt8.ofNat (48 + (n % 10).toNat)]
def hms (x : Int) : List UInt8 := dd (x / 3600) ++ 58 :: (dd (x / 60 % 60) ++ 58 :: dd (x % 60))
def expWords (ex : Int) : List (List UInt8) := dateWords [69, 120, 112, 105, 114, 101, 115] (ex / 86400) [hms (ex % 86400)]
def zlines (t : Tb) : List (List (List UInt8)) := t.ls.map leapWords ++ (if t.has = true then [expWords t.ex] else [])
def ztextB (t : Tb) : List UInt8 := ((zlines t).map fun ws => joinT ws ++ [10]).flatten
def ztextL (t : Tb) : List UInt8 × Bool := if rightT t = true then (ztextB t, true) else ([], false)

/- Numbers. -/
theorem digsN_val : ∀ (k u : Nat), u < 10 ^ (k + 1) → (digsN (k + 1) u).all isDig = true ∧ valL (digsN (k + 1) u) = u ∧ digsN (k + 1) u ≠ []
  | k, u, h => by
    rw [digsN]
    by_cases e : u < 10
    · rw [if_pos e]
      have : (UInt8.ofNat (48 + u)).toNat = 48 + u := by simp; omega
      refine ⟨?_, ?_, by simp⟩
      · simp [isDig, this]; omega
      · unfold valL; rw [List.foldl_cons, List.foldl_nil, this]; omega
    · rw [if_neg e]
      cases k with
      | zero => omega
      | succ k =>
        obtain ⟨h1, h2, h3⟩ := digsN_val k (u / 10) (by rw [Nat.pow_succ] at h; omega)
        have : (UInt8.ofNat (48 + u % 10)).toNat = 48 + u % 10 := by simp; omega
        refine ⟨?_, ?_, by simp⟩
        · rw [List.all_append, h1]; simp [isDig, this]; omega
        · rw [valL_snoc, h2, this]; omega
theorem itoa_num (n : Int) (h0 : 0 ≤ n) (h1 : n ≤ 9223372036854775807) : (itoaK n).all isDig = true ∧ valL (itoaK n) = n.toNat ∧ itoaK n ≠ [] := by
  unfold itoaK
  rw [if_neg (by omega)]
  exact digsN_val 19 n.toNat (by omega)
theorem numL_itoa (n : Int) (h0 : 0 ≤ n) (h1 : n ≤ 9223372036854775807) : numL (itoaK n) = (n, true) := by
  obtain ⟨q1, q2, q3⟩ := itoa_num n h0 h1
  unfold numL
  rw [if_pos ⟨q3, q1, by omega⟩, q2, show ((n.toNat : Nat) : Int) = n by omega]
/-- A word that may stand in a line. -/
def gw (w : List UInt8) : Prop := w ≠ [] ∧ ∀ c ∈ w, blankB c = false ∧ c ≠ 10 ∧ c ≠ 35 ∧ c ≠ 13
theorem gw_digs {w : List UInt8} (h : w.all isDig = true) (hn : w ≠ []) : gw w := by
  refine ⟨hn, fun c hc => ?_⟩
  have := List.all_eq_true.1 h c hc
  simp only [isDig, Bool.and_eq_true, decide_eq_true_eq] at this
  refine ⟨?_, ?_, ?_, ?_⟩
  · unfold blankB
    rw [Bool.or_eq_false_iff]
    constructor <;> (rw [beq_eq_false_iff_ne]; intro e; subst e; revert this; decide)
  all_goals (intro e; subst e; revert this; decide)
theorem gw_itoa (n : Int) (h0 : 0 ≤ n) (h1 : n ≤ 9223372036854775807) : gw (itoaK n) := by
  obtain ⟨q1, q2, q3⟩ := itoa_num n h0 h1
  exact gw_digs q1 q3
def gwB (w : List UInt8) : Bool := !w.isEmpty && w.all fun c => !blankB c && c != 10 && c != 35 && c != 13
theorem gw_of {w : List UInt8} (h : gwB w = true) : gw w := by
  unfold gwB at h
  rw [Bool.and_eq_true] at h
  refine ⟨by intro e; rw [e] at h; simp at h, fun c hc => ?_⟩
  have := List.all_eq_true.1 h.2 c hc
  simpa [and_assoc] using this
theorem join_cons (w v : List UInt8) (r : List (List UInt8)) : joinT (w :: v :: r) = w ++ 9 :: joinT (v :: r) := by
  simp [joinT, Lib.join, List.intercalate, List.intersperse]
theorem join_one (w : List UInt8) : joinT [w] = w := by simp [joinT, Lib.join, List.intercalate, List.intersperse]
theorem words_join : ∀ (ws : List (List UInt8)), ws ≠ [] → (∀ w ∈ ws, gw w) → wordsL (joinT ws) = ws
  | [], h, _ => absurd rfl h
  | [w], _, h => by
    obtain ⟨h1, h2⟩ := h w (.head _)
    rw [join_one]
    have := wd_skip w [] [] (fun c hc => (h2 c hc).1)
    rw [List.append_nil, List.nil_append] at this
    unfold wordsL
    rw [this, wd, if_neg h1]
  | w :: v :: r, _, h => by
    obtain ⟨h1, h2⟩ := h w (.head _)
    have ih := words_join (v :: r) (by simp) (fun x hx => h x (.tail _ hx))
    unfold wordsL at ih ⊢
    rw [join_cons, wd_skip w [] _ (fun c hc => (h2 c hc).1), List.nil_append, wd, if_pos (by rfl), if_neg h1, ih]
theorem join_mem : ∀ (ws : List (List UInt8)) (c : UInt8), c ∈ joinT ws → c = 9 ∨ ∃ w ∈ ws, c ∈ w
  | [], c, h => by simp [joinT, Lib.join, List.intercalate, List.intersperse] at h
  | [w], c, h => by rw [join_one] at h; exact .inr ⟨w, .head _, h⟩
  | w :: v :: r, c, h => by
    rw [join_cons, List.mem_append, List.mem_cons] at h
    rcases h with h | h | h
    · exact .inr ⟨w, .head _, h⟩
    · exact .inl h
    · rcases join_mem (v :: r) c h with h | ⟨x, hx, hc⟩
      · exact .inl h
      · exact .inr ⟨x, .tail _ hx, hc⟩
theorem join_not {ws : List (List UInt8)} (h : ∀ w ∈ ws, gw w) : (10 : UInt8) ∉ joinT ws ∧ (13 : UInt8) ∉ joinT ws ∧ (35 : UInt8) ∉ joinT ws := by
  have key : ∀ c : UInt8, c = 10 ∨ c = 13 ∨ c = 35 → c ∉ joinT ws := fun c hc hm => by
    rcases join_mem ws c hm with h9 | ⟨w, hw, hcw⟩
    · subst h9; revert hc; decide
    · obtain ⟨_, q2, q3, q4⟩ := (h w hw).2 c hcw
      rcases hc with rfl | rfl | rfl
      · exact q2 rfl
      · exact q4 rfl
      · exact q3 rfl
  exact ⟨key 10 (.inl rfl), key 13 (.inr (.inl rfl)), key 35 (.inr (.inr rfl))⟩
theorem spl_flat : ∀ (xs : List (List UInt8)), (∀ x ∈ xs, (10 : UInt8) ∉ x) → spl 10 (xs.map (· ++ [10])).flatten = xs ++ [[]]
  | [], _ => rfl
  | x :: r, h => by
    rw [List.map_cons, List.flatten_cons, List.append_assoc, List.singleton_append, spl_app 10 x _ (h x (.head _)), spl_flat r (fun y hy => h y (.tail _ hy))]; rfl
theorem trimR_id {l : List UInt8} (h : (13 : UInt8) ∉ l) : trimR l = l := by
  unfold trimR
  rw [if_neg]
  intro hh
  exact h (List.mem_of_getLast? hh)
theorem lines_flat (xs : List (List UInt8)) (h : ∀ x ∈ xs, (10 : UInt8) ∉ x) : linesL (xs.map (· ++ [10])).flatten = xs.map trimR := by
  unfold linesL
  rw [spl_flat xs h]
  simp
theorem map_id_of {α : Type} {f : α → α} : ∀ (l : List α), (∀ x ∈ l, f x = x) → l.map f = l
  | [], _ => rfl
  | x :: r, h => by rw [List.map_cons, h x (.head _), map_id_of r fun y hy => h y (.tail _ hy)]
theorem bare_id {l : List UInt8} (h : (35 : UInt8) ∉ l) : bareL l = l := by
  unfold bareL
  have : nl (· == (35 : UInt8)) l = l.length := nl_of _ l l.length (Nat.le_refl _) (fun c hc => by
    rw [List.take_length] at hc
    simp only [beq_eq_false_iff_ne]; intro e; subst e; exact h hc) (fun hh => absurd hh (Nat.lt_irrefl _))
  rw [this, List.take_length]
/- Months and clocks. -/
theorem mon_cap {m : Int} (h1 : 1 ≤ m) (h2 : m ≤ 12) : monthL (monCap m) = (m, true) ∧ gw (monCap m) := by
  have key : ∀ k : Nat, k < 12 → monthL (monCap ((k : Int) + 1)) = ((k : Int) + 1, true) ∧ gwB (monCap ((k : Int) + 1)) = true := by decide +kernel
  have := key (m - 1).toNat (by omega)
  rw [show (((m - 1).toNat : Nat) : Int) + 1 = m by omega] at this
  exact ⟨this.1, gw_of this.2⟩
theorem dd_ok {n : Int} (h0 : 0 ≤ n) (h1 : n ≤ 99) : two (dd n) = true ∧ (numL (dd n)).1 = n ∧ (58 : UInt8) ∉ dd n ∧ gw (dd n) := by
  have key : ∀ k : Nat, k < 100 → (two (dd (k : Int)) = true ∧ (numL (dd (k : Int))).1 = (k : Int) ∧ (dd (k : Int)).contains 58 = false) ∧ gwB (dd (k : Int)) = true := by decide +kernel
  have := key n.toNat (by omega)
  rw [show ((n.toNat : Nat) : Int) = n by omega] at this
  exact ⟨this.1.1, this.1.2.1, by simpa using this.1.2.2, gw_of this.2⟩
theorem splN_app (c : UInt8) (k : Nat) : ∀ (a r : List UInt8), c ∉ a → splN c (k + 1) (a ++ c :: r) = a :: splN c k r := fun a r h => by
  have hn : nl (· == c) (a ++ c :: r) = a.length := nl_of _ _ a.length (by simp) (fun x hx => by
    rw [List.take_left] at hx
    simp only [beq_eq_false_iff_ne]; intro e; subst e; exact h hx) (fun hh => by simp)
  rw [splN, hn, if_pos (by simp)]
  simp
theorem splN_no (c : UInt8) (k : Nat) (a : List UInt8) (h : c ∉ a) : splN c k a = [a] := by
  have hn : nl (· == c) a = a.length := nl_of _ _ a.length (Nat.le_refl _) (fun x hx => by
    rw [List.take_length] at hx
    simp only [beq_eq_false_iff_ne]; intro e; subst e; exact h hx) (fun hh => absurd hh (Nat.lt_irrefl _))
  cases k with
  | zero => rfl
  | succ k => rw [splN, hn, if_neg (Nat.lt_irrefl _)]
theorem clock_hms {x : Int} (h0 : 0 ≤ x) (h1 : x < 86400) : zclockL (hms x) = (x, true) ∧ gw (hms x) := by
  obtain ⟨a1, a2, a3, a4⟩ := dd_ok (n := x / 3600) (by omega) (by omega)
  obtain ⟨b1, b2, b3, b4⟩ := dd_ok (n := x / 60 % 60) (by omega) (by omega)
  obtain ⟨c1, c2, c3, c4⟩ := dd_ok (n := x % 60) (by omega) (by omega)
  constructor
  · unfold zclockL hms
    rw [splN_app 58 1 _ _ a3, splN_app 58 0 _ _ b3, splN]
    dsimp only
    rw [if_pos (by rw [a1, b1, c1]; rfl), a2, b2, c2]
    unfold secondL
    rw [if_neg (by omega), if_pos (by omega)]
    rw [show x / 3600 * 3600 + x / 60 % 60 * 60 + x % 60 = x by omega]
  · refine ⟨by simp [hms, dd], fun c hc => ?_⟩
    have g58 : blankB 58 = false ∧ (58 : UInt8) ≠ 10 ∧ (58 : UInt8) ≠ 35 ∧ (58 : UInt8) ≠ 13 := by decide
    unfold hms at hc
    simp only [List.mem_append, List.mem_cons] at hc
    rcases hc with hc | rfl | hc | rfl | hc
    · exact a4.2 c hc
    · exact g58
    · exact b4.2 c hc
    · exact g58
    · exact c4.2 c hc
theorem date_good {kind : List UInt8} {n : Int} {rest : List (List UInt8)} (hn : -719162 ≤ n ∧ n ≤ 2932896) (hk : gw kind) (hr : ∀ w ∈ rest, gw w) : ∀ w ∈ dateWords kind n rest, gw w := by
  obtain ⟨⟨v1, v2, v3, v4, v5, v6⟩, _⟩ := num_date hn.1 hn.2
  have := dim_bd (yearP n) (monP n)
  intro w hw
  unfold dateWords at hw
  simp only [List.cons_append, List.nil_append, List.mem_cons] at hw
  rcases hw with rfl | rfl | rfl | rfl | hw
  · exact hk
  · exact gw_itoa _ (by omega) (by omega)
  · exact (mon_cap v3 v4).2
  · exact gw_itoa _ (by omega) (by omega)
  · exact hr w hw
theorem date_read {k : Int} {n : Int} (hn : -719162 ≤ n ∧ n ≤ 2932896) (c : List UInt8) : dateW k (itoaK (yearP n)) (monCap (monP n)) (itoaK (dayP n)) c = (⟨k, yearP n, monP n, dayP n, (zclockL c).1, [], false⟩, (zclockL c).2) := by
  obtain ⟨⟨v1, v2, v3, v4, v5, v6⟩, _⟩ := num_date hn.1 hn.2
  have := dim_bd (yearP n) (monP n)
  unfold dateW
  rw [numL_itoa _ (by omega) (by omega), numL_itoa _ (by omega) (by omega), (mon_cap v3 v4).1]
  simp
theorem dayN_of {n : Int} (hn : -719162 ≤ n ∧ n ≤ 2932896) : dayN (yearP n) (monP n) (dayP n) = some n := by
  obtain ⟨v, e⟩ := num_date hn.1 hn.2
  unfold dayN
  have v' : 1 ≤ yearP n ∧ yearP n ≤ 9999 ∧ 1 ≤ monP n ∧ monP n ≤ 12 ∧ 1 ≤ dayP n ∧ dayP n ≤ dim (yearP n) (monP n) := v
  rw [if_pos v', e]
theorem leap_good {l : LR} (hn : -719162 ≤ l.1 ∧ l.1 ≤ 2932896) : ∀ w ∈ leapWords l, gw w := by
  refine date_good hn (gw_of rfl) fun w hw => ?_
  simp only [List.mem_cons, List.not_mem_nil, or_false] at hw
  rcases hw with rfl | rfl | rfl <;> split <;> exact gw_of rfl
theorem exp_good {ex : Int} (h0 : 0 ≤ ex) (h1 : ex ≤ 253402300799) : ∀ w ∈ expWords ex, gw w := by
  refine date_good (by omega) (gw_of rfl) fun w hw => ?_
  simp only [List.mem_cons, List.not_mem_nil, or_false] at hw
  subst hw
  exact (clock_hms (by omega) (by omega)).2
theorem lineW_leap (s : Src) (no : Nat) {l : LR} (hn : -719162 ≤ l.1 ∧ l.1 ≤ 2932896) (hs : l.2.1 = 1 ∨ l.2.1 = -1) :
    lineW s no (leapWords l) = (⟨(addT ⟨s.ls, false, 0⟩ l).1.ls, s.at', s.til⟩, (addT ⟨s.ls, false, 0⟩ l).2) := by
  have c6 : zclockL [50, 51, 58, 53, 57, 58, 54, 48] = (86400, true) := by decide +kernel
  have c5 : zclockL [50, 51, 58, 53, 57, 58, 53, 57] = (86399, true) := by decide +kernel
  have hroll : ∀ b : Bool, rollL (if b = true then [82] else [83]) = (b, true) := by decide +kernel
  obtain ⟨n, st, ro⟩ := l
  have hr : readW (leapWords (n, st, ro)) = (⟨0, yearP n, monP n, dayP n, if st < 0 then 86399 else 86400, if st < 0 then [45] else [43], ro⟩, true) := by
    unfold readW
    rw [if_pos ⟨by rfl, rfl⟩]
    have e1 : (leapWords (n, st, ro)).getD 1 [] = itoaK (yearP n) := rfl
    have e2 : (leapWords (n, st, ro)).getD 2 [] = monCap (monP n) := rfl
    have e3 : (leapWords (n, st, ro)).getD 3 [] = itoaK (dayP n) := rfl
    have e4 : (leapWords (n, st, ro)).getD 4 [] = if st < 0 then [50, 51, 58, 53, 57, 58, 53, 57] else [50, 51, 58, 53, 57, 58, 54, 48] := rfl
    have e5 : (leapWords (n, st, ro)).getD 5 [] = if st < 0 then [45] else [43] := rfl
    have e6 : (leapWords (n, st, ro)).getD 6 [] = if ro = true then [82] else [83] := rfl
    rw [e1, e2, e3, e4, e5, e6, date_read hn, hroll]
    rcases hs with hs | hs <;> (have hs : st = _ := hs; subst hs; simp [c5, c6])
  unfold lineW
  rw [hr, if_neg (by simp)]
  dsimp only
  rw [dayN_of hn]
  dsimp only
  rw [if_pos rfl]
  unfold leapW
  rcases hs with hs | hs <;> (have hs : st = _ := hs; subst hs; simp)
theorem lineW_exp (s : Src) (no : Nat) {ex : Int} (h0 : 0 ≤ ex) (h1 : ex ≤ 253402300799) (ha : ¬ s.at' > 0) : lineW s no (expWords ex) = (⟨s.ls, no, ex⟩, 0) := by
  have hn : -719162 ≤ ex / 86400 ∧ ex / 86400 ≤ 2932896 := by omega
  have hr : readW (expWords ex) = (⟨1, yearP (ex / 86400), monP (ex / 86400), dayP (ex / 86400), ex % 86400, [], false⟩, true) := by
    unfold readW
    rw [if_neg (fun hh => absurd (show 5 = 7 from hh.2) (by decide)), if_pos ⟨by rfl, rfl⟩]
    have e1 : (expWords ex).getD 1 [] = itoaK (yearP (ex / 86400)) := rfl
    have e2 : (expWords ex).getD 2 [] = monCap (monP (ex / 86400)) := rfl
    have e3 : (expWords ex).getD 3 [] = itoaK (dayP (ex / 86400)) := rfl
    have e4 : (expWords ex).getD 4 [] = hms (ex % 86400) := rfl
    rw [e1, e2, e3, e4, date_read hn, (clock_hms (by omega) (by omega)).1]
  unfold lineW
  rw [hr, if_neg (by simp; omega)]
  dsimp only
  rw [dayN_of hn]
  dsimp only
  rw [if_neg (by omega), if_neg (by omega), show ex / 86400 * 86400 + ex % 86400 = ex by omega]
/- Tables. -/
theorem checkG_app : ∀ (p q : List LR) (k : Nat) (a : Int), (checkG k a (p ++ q)).2.1 = 0 → (checkG k a p).2.1 = 0
  | [], q, k, a, h => rfl
  | l :: p, q, k, a, h => by
    rw [List.cons_append, checkG] at h
    rw [checkG]
    split at h
    · rename_i hw; exact absurd h hw
    · rename_i hw; rw [if_neg hw]; exact checkG_app p q _ _ h
theorem checkG_all : ∀ (p : List LR) (k : Nat) (a : Int), (checkG k a p).2.1 = 0 → ∀ l ∈ p, 730 ≤ l.1 ∧ l.1 < 2932896 ∧ (l.2.1 = 1 ∨ l.2.1 = -1)
  | [], k, a, h, l, hl => by cases hl
  | x :: p, k, a, h, l, hl => by
    rw [checkG] at h
    split at h
    · rename_i hw; exact absurd h hw
    · rename_i hw
      have hw : wrongL k x a = 0 := by omega
      obtain ⟨_, q1, q2, _, q3, _⟩ := wrongL_0 hw
      cases hl with
      | head => exact ⟨q1, q2, q3⟩
      | tail _ hl => exact checkG_all p _ _ h l hl
theorem checkG_last : ∀ (p : List LR) (k : Nat) (a : Int), 729 ≤ a → a ≤ 2932896 → 729 ≤ (checkG k a p).2.2 ∧ (checkG k a p).2.2 ≤ 2932896
  | [], k, a, h, h' => ⟨h, h'⟩
  | x :: p, k, a, h, h' => by
    rw [checkG]
    split
    · exact ⟨h, h'⟩
    · rename_i hw
      have hw : wrongL k x a = 0 := by omega
      obtain ⟨_, q1, q2, _⟩ := wrongL_0 hw
      exact checkG_last p _ _ (by omega) (by omega)
theorem right_0 {t : Tb} (h : rightT t = true) : (checkG 0 729 t.ls).2.1 = 0 ∧ expB t.has t.ex (checkG 0 729 t.ls).2.2 = 0 := by
  unfold rightT checkT at h
  rw [beq_iff_eq] at h
  split at h
  · rename_i hw; exact absurd h hw
  · rename_i hw; exact ⟨by omega, h⟩
theorem right_of {t : Tb} (h1 : (checkG 0 729 t.ls).2.1 = 0) (h2 : expB t.has t.ex (checkG 0 729 t.ls).2.2 = 0) : rightT t = true := by
  unfold rightT checkT
  rw [if_neg (by omega), h2]; rfl
theorem expB_no (a : Int) : expB false 0 a = 0 := rfl
theorem right_ex {t : Tb} (h : rightT t = true) : (t.has = false → t.ex = 0) ∧ (t.has = true → 63072000 ≤ t.ex ∧ t.ex ≤ 253402300799) := by
  obtain ⟨h1, h2⟩ := right_0 h
  unfold expB at h2
  constructor
  · intro hh
    rw [hh, if_neg (by simp)] at h2
    split at h2 <;> omega
  · intro hh
    rw [hh, if_pos rfl] at h2
    split at h2
    · omega
    · split at h2 <;> omega
theorem addT_ok {ls : List LR} {l : LR} (h : (checkG 0 729 (ls ++ [l])).2.1 = 0) : addT ⟨ls, false, 0⟩ l = (⟨ls ++ [l], false, 0⟩, 0) := by
  have : (checkT ⟨ls ++ [l], false, 0⟩).2 = 0 := by
    unfold checkT
    rw [if_neg (fun hn => hn h)]
    exact expB_no (checkG 0 729 (ls ++ [l])).2.2
  unfold addT
  rw [if_neg (fun hn => hn this)]
theorem addT_good {ls : List LR} {l : LR} (h : (checkG 0 729 ls).2.1 = 0) : (checkG 0 729 (addT ⟨ls, false, 0⟩ l).1.ls).2.1 = 0 := by
  unfold addT
  split
  · exact h
  · rename_i hc
    unfold checkT at hc
    split at hc
    · rename_i hw; exact absurd hw (by omega)
    · rename_i hw; dsimp only at hw ⊢; omega
/- What was written is read as it was. -/
theorem parseG_step (k : Nat) (s : Src) (ws : List (List UInt8)) (rest : List (List UInt8)) (h1 : ws ≠ []) (h2 : ∀ w ∈ ws, gw w) : parseG k s (joinT ws :: rest) =
    if (lineW s (k + 1) ws).2 ≠ 0 then (tb0, (k : Int) + 1, (lineW s (k + 1) ws).2) else parseG (k + 1) (lineW s (k + 1) ws).1 rest := by
  rw [parseG, bare_id (join_not h2).2.2, words_join ws h1 h2, if_neg h1]
theorem parse_leaps : ∀ (q p : List LR) (k : Nat) (a t : Int) (rest : List (List UInt8)), (checkG 0 729 (p ++ q)).2.1 = 0 →
    parseG k ⟨p, a, t⟩ ((q.map leapWords).map joinT ++ rest) = parseG (k + q.length) ⟨p ++ q, a, t⟩ rest
  | [], p, k, a, t, rest, h => by simp
  | l :: q, p, k, a, t, rest, h => by
    obtain ⟨q1, q2, q3⟩ := checkG_all _ _ _ h l (by simp)
    have h' : (checkG 0 729 (p ++ [l])).2.1 = 0 := checkG_app (p ++ [l]) q _ _ (by simpa using h)
    have hn : -719162 ≤ l.1 ∧ l.1 ≤ 2932896 := by omega
    rw [List.map_cons, List.map_cons, List.cons_append, parseG_step _ _ _ _ (by simp [leapWords, dateWords]) (leap_good hn), lineW_leap _ _ hn q3]
    dsimp only
    rw [addT_ok h', if_neg (by simp)]
    dsimp only
    rw [parse_leaps q (p ++ [l]) _ _ _ _ (by simpa using h)]
    simp [Nat.add_assoc, Nat.add_comm 1]
theorem lines_text {t : Tb} (h : rightT t = true) : linesL (ztextB t) = (zlines t).map joinT := by
  obtain ⟨h1, h2⟩ := right_0 h
  have good : ∀ ws ∈ zlines t, ∀ w ∈ ws, gw w := fun ws hws => by
    unfold zlines at hws
    rw [List.mem_append] at hws
    rcases hws with hws | hws
    · obtain ⟨l, hl, rfl⟩ := List.mem_map.1 hws
      obtain ⟨q1, q2, q3⟩ := checkG_all _ _ _ h1 l hl
      exact leap_good (by omega)
    · split at hws
      · rename_i hh
        obtain ⟨x1, x2⟩ := (right_ex h).2 hh
        simp only [List.mem_singleton] at hws
        subst hws
        exact exp_good (by omega) (by omega)
      · cases hws
  unfold ztextB
  have e : ((zlines t).map fun ws => joinT ws ++ [10]) = ((zlines t).map joinT).map (· ++ [10]) := by rw [List.map_map]; rfl
  rw [e, lines_flat _ (fun x hx => by
    obtain ⟨ws, hws, rfl⟩ := List.mem_map.1 hx
    exact (join_not (good ws hws)).1)]
  exact map_id_of _ fun x hx => by
    obtain ⟨ws, hws, rfl⟩ := List.mem_map.1 hx
    exact trimR_id (join_not (good ws hws)).2.1
theorem zparse_text {t : Tb} (h : rightT t = true) : zparseL (ztextB t) = (t, 0, 0) := by
  obtain ⟨h1, h2⟩ := right_0 h
  obtain ⟨x1, x2⟩ := right_ex h
  unfold zparseL
  rw [lines_text h]
  unfold zlines
  rw [List.map_append, src0, parse_leaps t.ls [] 0 0 0 _ (by simpa using h1), List.nil_append]
  obtain ⟨ls, has, ex⟩ := t
  dsimp only at *
  cases has
  · rw [x1 rfl, if_neg (by simp), List.map_nil, parseG]
    rfl
  · obtain ⟨y1, y2⟩ := x2 rfl
    rw [if_pos rfl, List.map_cons, List.map_nil, parseG_step _ _ _ _ (by simp [expWords, dateWords]) (exp_good (by omega) (by omega)), lineW_exp _ _ (by omega) (by omega) (by simp), if_neg (by simp), parseG]
    unfold parseE
    dsimp only
    rw [if_pos (by omega), if_pos h]
/- A table that is read is right, or there is a fault. -/
theorem leapW_good {s : Src} {r : Row} {n : Int} (h : (checkG 0 729 s.ls).2.1 = 0) : (checkG 0 729 (leapW s r n).1.ls).2.1 = 0 := by
  unfold leapW
  split
  · exact addT_good h
  · split
    · exact addT_good h
    · exact h
theorem lineW_good {s : Src} {no : Nat} {w : List (List UInt8)} (h : (checkG 0 729 s.ls).2.1 = 0) : (checkG 0 729 (lineW s no w).1.ls).2.1 = 0 := by
  unfold lineW
  split
  · exact h
  · split
    · exact h
    · split
      · exact leapW_good h
      · split
        · exact h
        · exact h
theorem lineW_at (s : Src) (no : Nat) (w : List (List UInt8)) (h : 0 ≤ s.at' ∧ s.at' ≤ no) : 0 ≤ (lineW s no w).1.at' ∧ (lineW s no w).1.at' ≤ no := by
  unfold lineW
  split
  · exact h
  · split
    · exact h
    · split
      · unfold leapW
        split
        · exact h
        · split <;> exact h
      · split
        · exact h
        · exact ⟨by simp, by simp⟩
theorem parseE_good {s : Src} {k : Nat} (h : (checkG 0 729 s.ls).2.1 = 0) (ha : 0 ≤ s.at' ∧ s.at' ≤ k) :
    ((parseE s).2.2 = 0 ∧ (parseE s).2.1 = 0 ∧ rightT (parseE s).1 = true) ∨ ((parseE s).2.2 ≠ 0 ∧ (parseE s).1 = tb0 ∧ 1 ≤ (parseE s).2.1 ∧ (parseE s).2.1 ≤ k) := by
  unfold parseE
  split
  · split
    · rename_i hr; exact .inl ⟨rfl, rfl, hr⟩
    · exact .inr ⟨by simp, rfl, by dsimp only; omega, ha.2⟩
  · exact .inl ⟨rfl, rfl, right_of h (expB_no _)⟩
theorem parseG_good : ∀ (L : List (List UInt8)) (k : Nat) (s : Src), (checkG 0 729 s.ls).2.1 = 0 → (0 ≤ s.at' ∧ s.at' ≤ k) →
    ((parseG k s L).2.2 = 0 ∧ (parseG k s L).2.1 = 0 ∧ rightT (parseG k s L).1 = true) ∨ ((parseG k s L).2.2 ≠ 0 ∧ (parseG k s L).1 = tb0 ∧ 1 ≤ (parseG k s L).2.1 ∧ (parseG k s L).2.1 ≤ ((k + L.length : Nat) : Int))
  | [], k, s, h, ha => parseE_good h ha
  | x :: r, k, s, h, ha => by
    rw [parseG]
    have e : k + (x :: r).length = k + 1 + r.length := by simp; omega
    split
    · rw [e]; exact parseG_good r (k + 1) s h ⟨ha.1, by omega⟩
    · split
      · rename_i he
        exact .inr ⟨he, rfl, by dsimp only; omega, by dsimp only; rw [e]; omega⟩
      · rw [e]; exact parseG_good r (k + 1) _ (lineW_good h) (lineW_at _ _ _ ⟨ha.1, by omega⟩)
theorem zparse_good (s : List UInt8) : ((zparseL s).2.2 = 0 ∧ (zparseL s).2.1 = 0 ∧ rightT (zparseL s).1 = true) ∨
    ((zparseL s).2.2 ≠ 0 ∧ (zparseL s).1 = tb0 ∧ 1 ≤ (zparseL s).2.1 ∧ (zparseL s).2.1 ≤ ((linesL s).length : Int)) := by
  have := parseG_good (linesL s) 0 src0 rfl (by simp [src0])
  rw [Nat.zero_add] at this
  exact this
end Go.Proofs.YtoiiblhbojhogaaGreatDoor.Pl
end
section
set_option linter.unusedVariables false
set_option linter.unusedSimpArgs false
namespace Go.Proofs.YtoiiblhbojhogaaGreatDoor.Pl
open Go Go.Proofs.YtoiiblhbojhogaaGreatDoor.Eng
set_option linter.unusedVariables false
set_option linter.unusedSimpArgs false

theorem low_all : ∀ n : Nat, n < 256 → lowB (lowB (UInt8.ofNat n)) = lowB (UInt8.ofNat n) ∧ isDig (lowB (UInt8.ofNat n)) = isDig (UInt8.ofNat n) ∧ (isDig (UInt8.ofNat n) = true → lowB (UInt8.ofNat n) = UInt8.ofNat n) ∧
    (lowB (UInt8.ofNat n) == 58) = (UInt8.ofNat n == 58) ∧ (lowB (UInt8.ofNat n) == 43) = (UInt8.ofNat n == 43) ∧ (lowB (UInt8.ofNat n) == 45) = (UInt8.ofNat n == 45) ∧
    (lowB (UInt8.ofNat n) == 35) = (UInt8.ofNat n == 35) ∧ (lowB (UInt8.ofNat n) == 13) = (UInt8.ofNat n == 13) ∧ (lowB (UInt8.ofNat n) == 10) = (UInt8.ofNat n == 10) ∧ blankB (lowB (UInt8.ofNat n)) = blankB (UInt8.ofNat n) := by decide +kernel
theorem low_one (c : UInt8) : lowB (lowB c) = lowB c ∧ isDig (lowB c) = isDig c ∧ (isDig c = true → lowB c = c) ∧
    (lowB c == 58) = (c == 58) ∧ (lowB c == 43) = (c == 43) ∧ (lowB c == 45) = (c == 45) ∧ (lowB c == 35) = (c == 35) ∧ (lowB c == 13) = (c == 13) ∧ (lowB c == 10) = (c == 10) ∧ blankB (lowB c) = blankB c := by
  have := low_all c.toNat c.toNat_lt
  rwa [UInt8.ofNat_toNat] at this
theorem fold_fold (l : List UInt8) : foldLw (foldLw l) = foldLw l := by
  unfold foldLw; rw [List.map_map]; exact List.map_congr_left fun c _ => (low_one c).1
theorem fold_len (l : List UInt8) : (foldLw l).length = l.length := by simp [foldLw]
theorem fold_dig (l : List UInt8) : (foldLw l).all isDig = l.all isDig := by
  unfold foldLw; rw [List.all_map]; congr 1; funext c; exact (low_one c).2.1
theorem fold_digs {l : List UInt8} (h : l.all isDig = true) : foldLw l = l := map_id_of l fun c hc => (low_one c).2.2.1 (List.all_eq_true.1 h c hc)
theorem num_fold (l : List UInt8) : numL (foldLw l) = numL l := by
  by_cases h : l.all isDig = true
  · rw [fold_digs h]
  · unfold numL
    rw [if_neg (fun hh => h (by rw [← fold_dig]; exact hh.2.1)), if_neg (fun hh => h hh.2.1)]
theorem two_fold (l : List UInt8) : two (foldLw l) = two l := by unfold two; rw [num_fold, fold_len]
theorem nl_map (q : UInt8 → Bool) (f : UInt8 → UInt8) (l : List UInt8) (h : ∀ c, q (f c) = q c) : nl q (l.map f) = nl q l := by
  induction l with
  | nil => rfl
  | cons c l ih => rw [List.map_cons, nl_cons, nl_cons, h, ih]
theorem splN_fold : ∀ (k : Nat) (l : List UInt8), splN 58 k (foldLw l) = (splN 58 k l).map foldLw
  | 0, l => rfl
  | k + 1, l => by
    have hn : nl (· == (58 : UInt8)) (foldLw l) = nl (· == (58 : UInt8)) l := nl_map _ _ l fun c => (low_one c).2.2.2.1
    rw [splN, splN, hn, fold_len]
    split
    · rw [List.map_cons, ← splN_fold k]
      simp [foldLw, List.map_take, List.map_drop]
    · rfl
theorem clock_fold (l : List UInt8) : zclockL (foldLw l) = zclockL l := by
  unfold zclockL
  rw [splN_fold]
  match splN 58 2 l with
  | [] => rfl
  | [_] => rfl
  | [_, _] => rfl
  | [a, b, c] => simp only [List.map_cons, List.map_nil, two_fold, num_fold]
  | _ :: _ :: _ :: _ :: _ => rfl
theorem month_fold (l : List UInt8) : monthL (foldLw l) = monthL l := by unfold monthL; rw [fold_fold]
theorem roll_fold (l : List UInt8) : rollL (foldLw l) = rollL l := by unfold rollL; rw [fold_fold]
theorem one_fold (l : List UInt8) (x : UInt8) (hx : ∀ c, (lowB c == x) = (c == x)) : foldLw l = [x] ↔ l = [x] := by
  have hx' : ∀ c, lowB c = x ↔ c = x := fun c => by
    have := hx c
    constructor
    · intro h; rw [← beq_iff_eq, ← this, h]; simp
    · intro h; rw [← beq_iff_eq, this, h]; simp
  match l with
  | [] => simp [foldLw]
  | [c] => simp [foldLw, hx']
  | _ :: _ :: _ => simp [foldLw]
theorem getD_fold (w : List (List UInt8)) (i : Nat) : (w.map foldLw).getD i [] = foldLw (w.getD i []) := by
  simp only [List.getD, List.getElem?_map]
  cases w[i]? <;> rfl
theorem dateW_fold (k : Int) (a b c d : List UInt8) : dateW k (foldLw a) (foldLw b) (foldLw c) (foldLw d) = dateW k a b c d := by
  unfold dateW; rw [num_fold, month_fold, num_fold, clock_fold]
theorem read_fold (w : List (List UInt8)) : (readW (w.map foldLw)).2 = (readW w).2 ∧ ((readW w).2 = true → readW (w.map foldLw) = readW w) := by
  unfold readW
  simp only [getD_fold, fold_fold, dateW_fold, roll_fold, List.length_map, one_fold _ 43 (fun c => (low_one c).2.2.2.2.1), one_fold _ 45 (fun c => (low_one c).2.2.2.2.2.1)]
  split
  · refine ⟨rfl, fun h => ?_⟩
    simp only [Bool.and_eq_true, decide_eq_true_eq] at h
    rcases h.1.1 with h5 | h5 <;> rw [h5] <;> rfl
  · split
    · exact ⟨rfl, fun _ => rfl⟩
    · exact ⟨rfl, fun _ => rfl⟩
theorem lineW_fold (s : Src) (no : Nat) (w : List (List UInt8)) : lineW s no (w.map foldLw) = lineW s no w := by
  obtain ⟨h1, h2⟩ := read_fold w
  cases h : (readW w).2
  · unfold lineW
    rw [h1, h, if_pos (.inl rfl), if_pos (.inl rfl)]
  · unfold lineW
    rw [h2 h]
/- The line in other words. -/
def otherL (x : List UInt8) : List UInt8 := ((wordsL x).map fun w => [9, 32] ++ foldLw w).flatten
theorem wd_parts : ∀ (l cur : List UInt8), (∀ c ∈ cur, c ∈ cur ++ l) ∧ ∀ w ∈ wd cur l, ∀ c ∈ w, c ∈ cur ++ l
  | [], cur => by
    rw [wd]; split
    · simp
    · simp
  | a :: r, cur => by
    refine ⟨fun c hc => by simp [hc], ?_⟩
    rw [wd]
    split
    · split
      · rename_i hc; subst hc
        intro w hw c hcw
        have := (wd_parts r []).2 w hw c hcw
        simp at this ⊢; exact .inr this
      · intro w hw c hcw
        cases hw with
        | head => simp [hcw]
        | tail _ hw =>
          have := (wd_parts r []).2 w hw c hcw
          simp at this ⊢; exact .inr (.inr this)
    · intro w hw c hcw
      have := (wd_parts r (cur ++ [a])).2 w hw c hcw
      simp at this ⊢; exact this
theorem words_sub (l : List UInt8) {w : List UInt8} (hw : w ∈ wordsL l) {c : UInt8} (hc : c ∈ w) : c ∈ l := by
  have := (wd_parts l []).2 w hw c hc
  simpa using this
theorem wd_good : ∀ (l cur : List UInt8), (∀ c ∈ cur, blankB c = false) → ∀ w ∈ wd cur l, w ≠ [] ∧ ∀ c ∈ w, blankB c = false
  | [], cur, h => by
    rw [wd]; split
    · simp
    · rename_i hc
      intro w hw
      simp only [List.mem_singleton] at hw
      subst hw; exact ⟨hc, h⟩
  | a :: r, cur, h => by
    rw [wd]
    split
    · split
      · exact wd_good r [] (by simp)
      · rename_i hc
        intro w hw
        cases hw with
        | head => exact ⟨hc, h⟩
        | tail _ hw => exact wd_good r [] (by simp) w hw
    · rename_i hb
      exact wd_good r (cur ++ [a]) (fun c hc => by
        rw [List.mem_append, List.mem_singleton] at hc
        rcases hc with hc | rfl
        · exact h c hc
        · simpa using hb)
theorem words_good (l : List UInt8) : ∀ w ∈ wordsL l, w ≠ [] ∧ ∀ c ∈ w, blankB c = false := wd_good l [] (by simp)
theorem words_flat : ∀ (ws : List (List UInt8)), (∀ w ∈ ws, w ≠ [] ∧ ∀ c ∈ w, blankB c = false) → ∀ (cur : List UInt8), (∀ c ∈ cur, blankB c = false) → wd cur (ws.map fun w => [9, 32] ++ w).flatten = (if cur = [] then [] else [cur]) ++ ws
  | [], _, cur, _ => by simp [wd]
  | w :: r, h, cur, hc => by
    obtain ⟨h1, h2⟩ := h w (.head _)
    have ih := words_flat r (fun x hx => h x (.tail _ hx)) w h2
    rw [if_neg h1] at ih
    have e : wd [] (w ++ (r.map fun w => [9, 32] ++ w).flatten) = w :: r := by rw [wd_skip w [] _ h2, List.nil_append, ih]; rfl
    have e9 : blankB 9 = true := rfl
    have e32 : blankB 32 = true := rfl
    rw [List.map_cons, List.flatten_cons, List.append_assoc, List.cons_append, List.cons_append, List.nil_append, wd, if_pos e9, wd, if_pos e32, if_pos rfl, e]
    split <;> simp
theorem other_words (x : List UInt8) : wordsL (otherL x) = (wordsL x).map foldLw := by
  have := words_flat ((wordsL x).map foldLw) (fun w hw => by
    obtain ⟨v, hv, rfl⟩ := List.mem_map.1 hw
    obtain ⟨h1, h2⟩ := words_good x v hv
    refine ⟨fun e => h1 (List.length_eq_zero_iff.1 (by rw [← fold_len, e]; rfl)), fun c hc => ?_⟩
    obtain ⟨d, hd, rfl⟩ := List.mem_map.1 hc
    rw [(low_one d).2.2.2.2.2.2.2.2.2]; exact h2 d hd) [] (by simp)
  rw [List.map_map] at this
  unfold wordsL at *
  unfold otherL
  rw [if_pos rfl, List.nil_append] at this
  exact this
theorem other_not {x : List UInt8} {c : UInt8} (hc : c = 10 ∨ c = 13 ∨ c = 35) (h : c ∉ x) : c ∉ otherL x := by
  intro hm
  unfold otherL at hm
  rw [List.mem_flatten] at hm
  obtain ⟨y, hy, hcy⟩ := hm
  obtain ⟨w, hw, rfl⟩ := List.mem_map.1 hy
  simp only [List.cons_append, List.nil_append, List.mem_cons] at hcy
  rcases hcy with rfl | rfl | hcy
  · revert hc; decide
  · revert hc; decide
  · obtain ⟨d, hd, e⟩ := List.mem_map.1 hcy
    obtain ⟨_, _, _, _, _, _, l35, l13, l10, _⟩ := low_one d
    have : d = c := by
      rcases hc with rfl | rfl | rfl
      · rw [e] at l10; simpa using l10.symm
      · rw [e] at l13; simpa using l13.symm
      · rw [e] at l35; simpa using l35.symm
    subst this
    exact h (words_sub x hw hd)
theorem wd_sum : ∀ (l cur : List UInt8), ((wd cur l).map fun w => w.length + 2).sum ≤ 3 * l.length + (if cur = [] then 0 else cur.length + 2)
  | [], cur => by rw [wd]; split <;> simp
  | a :: r, cur => by
    rw [wd]
    have h1 := wd_sum r []
    have h2 := wd_sum r (cur ++ [a])
    rw [if_pos rfl] at h1
    rw [if_neg (by simp)] at h2
    simp only [List.length_append, List.length_singleton] at h2
    simp only [List.length_cons]
    split
    · split
      · omega
      · rw [List.map_cons, List.sum_cons]; omega
    · split
      · rename_i hc; subst hc; simp at h2 ⊢; omega
      · omega
theorem other_len (x : List UInt8) : (otherL x).length ≤ 3 * x.length := by
  have := wd_sum x []
  rw [if_pos rfl] at this
  unfold otherL
  rw [List.length_flatten, List.map_map]
  have e : (List.map (List.length ∘ fun w => [9, 32] ++ foldLw w) (wordsL x)) = (wordsL x).map fun w => w.length + 2 := List.map_congr_left fun w _ => by simp [fold_len]
  rw [e]; exact this
theorem spl_sum (c : UInt8) : ∀ l : List UInt8, ((spl c l).map List.length).sum + (spl c l).length = l.length + 1
  | [] => rfl
  | b :: r => by
    have ih := spl_sum c r
    rw [spl]
    split
    · simp; omega
    · have := spl_ne c r
      match hs : spl c r with
      | [] => exact absurd hs this
      | h :: t => rw [hs] at ih; simp at ih ⊢; omega
/- The whole. -/
def shf (k : Nat) (x : Int) : Int := if x > (k : Int) then x + 1 else x
def otherLines (rem : List UInt8) (k : Nat) (L : List (List UInt8)) : List (List UInt8) := (L.take k).map otherL ++ (32 :: 35 :: rem) :: (L.drop k).map otherL
theorem lineW_sh (s : Src) (k no : Nat) (hk : k < no) (w : List (List UInt8)) : lineW ⟨s.ls, shf k s.at', s.til⟩ (no + 1) w = (⟨(lineW s no w).1.ls, shf k (lineW s no w).1.at', (lineW s no w).1.til⟩, (lineW s no w).2) := by
  have hpos : shf k s.at' > 0 ↔ s.at' > 0 := by unfold shf; split <;> omega
  unfold lineW
  simp only [hpos]
  split
  · rfl
  · split
    · rfl
    · split
      · unfold leapW
        split
        · rfl
        · split <;> rfl
      · split
        · rfl
        · have : shf k (no : Int) = ((no + 1 : Nat) : Int) := by unfold shf; rw [if_pos (by omega)]; omega
          simp only [this]
theorem parseE_sh (s : Src) (k : Nat) (h0 : 0 ≤ s.at') : parseE ⟨s.ls, shf k s.at', s.til⟩ = ((parseE s).1, shf k (parseE s).2.1, (parseE s).2.2) := by
  have hpos : shf k s.at' > 0 ↔ s.at' > 0 := by unfold shf; split <;> omega
  have h00 : shf k 0 = 0 := by unfold shf; rw [if_neg (by omega)]
  unfold parseE
  simp only [hpos]
  split
  · split
    · simp only [h00]
    · rfl
  · simp only [h00]
theorem parse_behind : ∀ (L : List (List UInt8)) (j k : Nat) (s : Src), k ≤ j → (0 ≤ s.at' ∧ s.at' ≤ j) → (∀ x ∈ L, (35 : UInt8) ∉ x) →
    parseG (j + 1) ⟨s.ls, shf k s.at', s.til⟩ (L.map otherL) = ((parseG j s L).1, shf k (parseG j s L).2.1, (parseG j s L).2.2)
  | [], j, k, s, hj, ha, hL => parseE_sh s k ha.1
  | x :: r, j, k, s, hj, ha, hL => by
    have hx := hL x (.head _)
    have hr : ∀ y ∈ r, (35 : UInt8) ∉ y := fun y hy => hL y (.tail _ hy)
    rw [List.map_cons, parseG, parseG, bare_id (other_not (.inr (.inr rfl)) hx), bare_id hx, other_words, lineW_fold, lineW_sh s k (j + 1) (by omega)]
    have hm : (wordsL x).map foldLw = [] ↔ wordsL x = [] := by simp
    simp only [hm]
    split
    · exact parse_behind r (j + 1) k s (by omega) ⟨ha.1, by omega⟩ hr
    · split
      · have : shf k ((j : Int) + 1) = ((j + 1 : Nat) : Int) + 1 := by unfold shf; rw [if_pos (by omega)]; omega
        simp only [this]
      · exact parse_behind r (j + 1) k _ (by omega) (lineW_at _ _ _ ⟨ha.1, by omega⟩) hr
theorem parse_ahead (rem : List UInt8) : ∀ (A B : List (List UInt8)) (j k : Nat) (s : Src), j + A.length = k → (0 ≤ s.at' ∧ s.at' ≤ j) → (∀ x ∈ A ++ B, (35 : UInt8) ∉ x) →
    parseG j s (A.map otherL ++ (32 :: 35 :: rem) :: B.map otherL) = ((parseG j s (A ++ B)).1, shf k (parseG j s (A ++ B)).2.1, (parseG j s (A ++ B)).2.2)
  | [], B, j, k, s, hj, ha, hL => by
    have hj : j = k := by simpa using hj
    subst hj
    have hb : bareL (32 :: 35 :: rem) = [32] := rfl
    rw [List.map_nil, List.nil_append, List.nil_append, parseG, hb, if_pos (by rfl)]
    have : s = ⟨s.ls, shf j s.at', s.til⟩ := by
      have : shf j s.at' = s.at' := by unfold shf; rw [if_neg (by omega)]
      rw [this]
    rw [this]
    have := parse_behind B j j s (Nat.le_refl _) ha hL
    rw [this]
    have e : shf j (shf j s.at') = shf j s.at' := by unfold shf; rw [if_neg (by omega), if_neg (by omega)]
    have e' : shf j s.at' = s.at' := by unfold shf; rw [if_neg (by omega)]
    simp only [e']
  | x :: A, B, j, k, s, hj, ha, hL => by
    have hx := hL x (.head _)
    have hr : ∀ y ∈ A ++ B, (35 : UInt8) ∉ y := fun y hy => hL y (.tail _ hy)
    have hj' : j + 1 + A.length = k := by simp at hj; omega
    rw [List.map_cons, List.cons_append, List.cons_append, parseG, parseG, bare_id (other_not (.inr (.inr rfl)) hx), bare_id hx, other_words, lineW_fold]
    have hm : (wordsL x).map foldLw = [] ↔ wordsL x = [] := by simp
    simp only [hm]
    split
    · exact parse_ahead rem A B (j + 1) k s hj' ⟨ha.1, by omega⟩ hr
    · split
      · have : shf k ((j : Int) + 1) = (j : Int) + 1 := by unfold shf; rw [if_neg (by omega)]
        simp only [this]
      · exact parse_ahead rem A B (j + 1) k _ hj' (lineW_at _ _ _ ⟨ha.1, by omega⟩) hr
theorem rem_trim (rem : List UInt8) : ∃ rem', trimR (32 :: 35 :: rem) = 32 :: 35 :: rem' := by
  unfold trimR
  split
  · cases rem with
    | nil => rename_i h; simp at h
    | cons c r => exact ⟨(c :: r).dropLast, by simp [List.dropLast]⟩
  · exact ⟨rem, rfl⟩
theorem lines_parts {s : List UInt8} {c : UInt8} (h : c ∉ s) : ∀ x ∈ linesL s, c ∉ x := by
  have key : ∀ (l : List UInt8), c ∉ l → ∀ x ∈ spl 10 l, c ∉ x := by
    intro l
    induction l with
    | nil => intro _ x hx; simp [spl] at hx; subst hx; simp
    | cons b r ih =>
      intro hl x hx
      have hb : c ≠ b := fun e => hl (by rw [e]; exact .head _)
      have hr : c ∉ r := fun e => hl (.tail _ e)
      rw [spl] at hx
      split at hx
      · cases hx with
        | head => simp
        | tail _ hx => exact ih hr x hx
      · have := spl_ne 10 r
        match hs : spl 10 r with
        | [] => exact absurd hs this
        | h :: t =>
          rw [hs] at hx
          dsimp only at hx
          cases hx with
          | head =>
            have := ih hr h (by rw [hs]; exact .head _)
            simp only [List.mem_cons, not_or]; exact ⟨hb, this⟩
          | tail _ hx => exact ih hr x (by rw [hs]; exact .tail _ hx)
  intro x hx
  unfold linesL at hx
  obtain ⟨y, hy, rfl⟩ := List.mem_map.1 hx
  have hy' : y ∈ spl 10 s := by
    split at hy
    · exact (List.dropLast_sublist _).subset hy
    · exact hy
  have := key s h y hy'
  unfold trimR
  split
  · exact fun hc => this ((List.dropLast_sublist _).subset hc)
  · exact this
theorem lines_no10 (s : List UInt8) : ∀ x ∈ linesL s, (10 : UInt8) ∉ x := by
  have key : ∀ (l : List UInt8), ∀ x ∈ spl 10 l, (10 : UInt8) ∉ x := by
    intro l
    induction l with
    | nil => intro x hx; simp [spl] at hx; subst hx; simp
    | cons b r ih =>
      intro x hx
      rw [spl] at hx
      split at hx
      · cases hx with
        | head => simp
        | tail _ hx => exact ih x hx
      · rename_i hb
        have hb : (10 : UInt8) ≠ b := fun e => hb (by rw [← e]; rfl)
        have := spl_ne 10 r
        match hs : spl 10 r with
        | [] => exact absurd hs this
        | h :: t =>
          rw [hs] at hx
          dsimp only at hx
          cases hx with
          | head =>
            have := ih h (by rw [hs]; exact .head _)
            simp only [List.mem_cons, not_or]; exact ⟨hb, this⟩
          | tail _ hx => exact ih x (by rw [hs]; exact .tail _ hx)
  intro x hx
  unfold linesL at hx
  obtain ⟨y, hy, rfl⟩ := List.mem_map.1 hx
  have hy' : y ∈ spl 10 s := by
    split at hy
    · exact (List.dropLast_sublist _).subset hy
    · exact hy
  have := key s y hy'
  unfold trimR
  split
  · exact fun hc => this ((List.dropLast_sublist _).subset hc)
  · exact this
def otherText (rem : List UInt8) (k : Nat) (s : List UInt8) : List UInt8 := ((otherLines rem k (linesL s)).map (· ++ [10])).flatten
theorem other_all (rem : List UInt8) (k : Nat) (s : List UInt8) (hk : k ≤ (linesL s).length) (hr : (10 : UInt8) ∉ rem) (h13 : (13 : UInt8) ∉ s) (h35 : (35 : UInt8) ∉ s) :
    zparseL (otherText rem k s) = ((zparseL s).1, shf k (zparseL s).2.1, (zparseL s).2.2) := by
  have l35 := lines_parts h35
  have l13 := lines_parts h13
  have l10 := lines_no10 s
  have lines : linesL (otherText rem k s) = (otherLines rem k (linesL s)).map trimR := lines_flat _ fun x hx => by
    unfold otherLines at hx
    simp only [List.mem_append, List.mem_cons, List.mem_map] at hx
    rcases hx with ⟨y, hy, rfl⟩ | rfl | ⟨y, hy, rfl⟩
    · exact other_not (.inl rfl) (l10 y (List.mem_of_mem_take hy))
    · simp only [List.mem_cons, not_or]; exact ⟨by decide, by decide, hr⟩
    · exact other_not (.inl rfl) (l10 y (List.mem_of_mem_drop hy))
  unfold zparseL
  rw [lines]
  unfold otherLines
  obtain ⟨rem', hrem⟩ := rem_trim rem
  have m1 : (((linesL s).take k).map otherL).map trimR = ((linesL s).take k).map otherL := map_id_of _ fun x hx => by
    obtain ⟨y, hy, rfl⟩ := List.mem_map.1 hx
    exact trimR_id (other_not (.inr (.inl rfl)) (l13 y (List.mem_of_mem_take hy)))
  have m2 : (((linesL s).drop k).map otherL).map trimR = ((linesL s).drop k).map otherL := map_id_of _ fun x hx => by
    obtain ⟨y, hy, rfl⟩ := List.mem_map.1 hx
    exact trimR_id (other_not (.inr (.inl rfl)) (l13 y (List.mem_of_mem_drop hy)))
  rw [List.map_append, List.map_cons, m1, m2, hrem]
  have := parse_ahead rem' ((linesL s).take k) ((linesL s).drop k) 0 k src0 (by simp; omega) (by simp [src0]) (by rw [List.take_append_drop]; exact l35)
  rw [List.take_append_drop] at this
  exact this
theorem lines_sum (s : List UInt8) : ((linesL s).map List.length).sum + (linesL s).length ≤ s.length + 1 := by
  have h := spl_sum 10 s
  have tr : ∀ L : List (List UInt8), ((L.map trimR).map List.length).sum ≤ (L.map List.length).sum := fun L => by
    induction L with
    | nil => simp
    | cons x r ih => have := trimR_len x; simp at ih ⊢; omega
  have dl : ∀ L : List (List UInt8), (L.dropLast.map List.length).sum ≤ (L.map List.length).sum := fun L => by
    induction L with
    | nil => simp
    | cons x r ih =>
      cases r with
      | nil => simp
      | cons y r => simp at ih ⊢; omega
  unfold linesL
  split
  · have h1 := tr (spl 10 s).dropLast
    have h2 := dl (spl 10 s)
    rw [List.length_map, List.length_dropLast]; omega
  · have h1 := tr (spl 10 s)
    rw [List.length_map]; omega
theorem other_sum : ∀ L : List (List UInt8), ((L.map otherL).map List.length).sum ≤ 3 * (L.map List.length).sum
  | [] => by simp
  | x :: r => by have := other_sum r; have := other_len x; simp at *; omega
end Go.Proofs.YtoiiblhbojhogaaGreatDoor.Pl
end
section
set_option linter.unusedVariables false
set_option linter.unusedSimpArgs false
namespace Go.Proofs.YtoiiblhbojhogaaGreatDoor.Pl
open Go
set_option linter.unusedVariables false
set_option linter.unusedSimpArgs false

/-- A text, cut at a sign. -/
def splitL (c : UInt8) (l : List UInt8) : List UInt8 × List UInt8 × Bool := if nl (· == c) l < l.length then (l.take (nl (· == c) l), l.drop (nl (· == c) l + 1), true) else (l, [], false)
/-- A sign that may not be in a name; one that is a letter; names of local times. -/
def badC (c : UInt8) : Bool := !((97 ≤ c.toNat && c.toNat ≤ 122) || (65 ≤ c.toNat && c.toNat ≤ 90) || (48 ≤ c.toNat && c.toNat ≤ 57) || c.toNat == 43 || c.toNat == 45)
def letC (c : UInt8) : Bool := (97 ≤ c.toNat && c.toNat ≤ 122) || (65 ≤ c.toNat && c.toNat ≤ 90)
def abbrL (l : List UInt8) : Bool := decide (3 ≤ l.length ∧ l.length ≤ 16) && !l.any badC

theorem sixty_bad (l : List UInt8) (h : (sixtyL l).2.2 = false) : (sixtyL l).1 = 0 ∧ (sixtyL l).2.1 = l := by
  match l, h with
  | [], _ => exact ⟨rfl, rfl⟩
  | [_], _ => exact ⟨rfl, rfl⟩
  | [_, _], _ => exact ⟨rfl, rfl⟩
  | c :: a :: b :: r, h =>
    by_cases hh : c = 58 ∧ isDig a = true ∧ isDig b = true ∧ a.toNat ≤ 53
    · rw [sixty_yes hh] at h; cases h
    · rw [sixty_no hh]; exact ⟨rfl, rfl⟩
structure Ru where
  k : Int
  a : Int
  b : Int
  c : Int
  x : Int
def Ru.z : Ru := ⟨0, 0, 0, 0, 0⟩
def Ru.ok (r : Ru) : Bool := rightR r.k r.a r.b r.c r.x
def Ru.txt (r : Ru) : List UInt8 := (textL r.k r.a r.b r.c r.x).1
def Ru.at (r : Ru) (y : Int) : Int := ruleDay r.k r.a r.b r.c y * 86400 + r.x
structure Ft where
  so : Int
  sd : Bool
  sa : List UInt8
  wo : Int
  wd : Bool
  wa : List UInt8
  has : Bool
  fr : Ru
  to : Ru
def Ft.z : Ft := ⟨0, false, [], 0, false, [], false, .z, .z⟩
def kindR (o : Int) (d : Bool) (l : List UInt8) (w : Bool) : Bool := abbrL l && (d == w) && decide (-89999 ≤ o ∧ o ≤ 89999)
def Ft.bare (f : Ft) : Prop := f.wo = 0 ∧ f.wd = false ∧ f.wa = [] ∧ (f.fr.k = 0 ∧ f.fr.a = 0 ∧ f.fr.b = 0 ∧ f.fr.c = 0 ∧ f.fr.x = 0) ∧ (f.to.k = 0 ∧ f.to.a = 0 ∧ f.to.b = 0 ∧ f.to.c = 0 ∧ f.to.x = 0)
instance (f : Ft) : Decidable f.bare := inferInstanceAs (Decidable (_ ∧ _))
def Ft.ok (f : Ft) : Bool := kindR f.so f.sd f.sa false && (if f.has = true then kindR f.wo f.wd f.wa true && f.fr.ok && f.to.ok else decide f.bare)
def nameT (l : List UInt8) : List UInt8 := if l.any (fun c => !letC c) = true then 60 :: (l ++ [62]) else l
def Ft.txt (f : Ft) : List UInt8 := nameT f.sa ++ ((clockL (-f.so)).1 ++ (if f.has = true then nameT f.wa ++ ((if f.wo - f.so ≠ 3600 then (clockL (-f.wo)).1 else []) ++ 44 :: (f.fr.txt ++ 44 :: f.to.txt)) else []))
def Ft.text (f : Ft) : List UInt8 × Bool := if f.ok = true then (f.txt, true) else ([], false)

/-- A name that is read: it, whether it may be, what is behind it. -/
def nameP (l : List UInt8) : List UInt8 × Bool × List UInt8 :=
  if l.head? = some 60 then ((splitL 62 l.tail).1, (splitL 62 l.tail).2.2 && abbrL (splitL 62 l.tail).1, (splitL 62 l.tail).2.1)
  else (l.take (nl (fun c => !letC c) l), abbrL (l.take (nl (fun c => !letC c) l)), l.drop (nl (fun c => !letC c) l))
structure Us where
  ok : Bool
  rest : List UInt8
  o : Int
  a : List UInt8
def usualP (l : List UInt8) : Us := ⟨(nameP l).2.1 && (timeL (nameP l).2.2).2.2, (timeL (nameP l).2.2).2.1, -(timeL (nameP l).2.2).1, (nameP l).1⟩
def summerP (so : Int) (l : List UInt8) : Us :=
  if (timeL (nameP l).2.2).2.2 = true then ⟨(nameP l).2.1, (timeL (nameP l).2.2).2.1, -(timeL (nameP l).2.2).1, (nameP l).1⟩ else ⟨(nameP l).2.1, (nameP l).2.2, so + 3600, (nameP l).1⟩
structure Rp where
  ok : Bool
  rest : List UInt8
  r : Ru
def ruleP (l : List UInt8) : Rp := ⟨(parseL (cutP 44 l).1).2.2.2.2.2.2 && (cutP 44 l).2, (parseL (cutP 44 l).1).2.2.2.2.2.1, ⟨(parseL (cutP 44 l).1).1, (parseL (cutP 44 l).1).2.1, (parseL (cutP 44 l).1).2.2.1, (parseL (cutP 44 l).1).2.2.2.1, (parseL (cutP 44 l).1).2.2.2.2.1⟩⟩
def Ft.chk (f : Ft) : Ft × Bool := if f.ok = true then (f, true) else (.z, false)
def Ft.parse (l : List UInt8) : Ft × Bool :=
  if (usualP l).ok = true then
    (if (usualP l).rest = [] then Ft.chk ⟨(usualP l).o, false, (usualP l).a, 0, false, [], false, .z, .z⟩
    else if (summerP (usualP l).o (usualP l).rest).ok = true then
      (if (ruleP (summerP (usualP l).o (usualP l).rest).rest).ok = true then
        (if (ruleP (ruleP (summerP (usualP l).o (usualP l).rest).rest).rest).ok = true then
          (if (ruleP (ruleP (summerP (usualP l).o (usualP l).rest).rest).rest).rest = [] then
            Ft.chk ⟨(usualP l).o, false, (usualP l).a, (summerP (usualP l).o (usualP l).rest).o, true, (summerP (usualP l).o (usualP l).rest).a, true, (ruleP (summerP (usualP l).o (usualP l).rest).rest).r, (ruleP (ruleP (summerP (usualP l).o (usualP l).rest).rest).rest).r⟩
          else (.z, false)) else (.z, false)) else (.z, false)) else (.z, false))
  else (.z, false)
/-- When the summer's time holds in a year. -/
def Ft.spans (f : Ft) (y : Int) : Prop := f.has = true ∧ f.ok = true ∧ 1 ≤ y ∧ y ≤ 9999
instance (f : Ft) (y : Int) : Decidable (f.spans y) := inferInstanceAs (Decidable (_ ∧ _))
def Ft.from' (f : Ft) (y : Int) : Int := f.fr.at y - f.so
def Ft.to' (f : Ft) (y : Int) : Int := f.to.at y - f.wo
/-- Whether a second's year is known; whether the summer's time holds. -/
def inDays (n : Int) : Prop := -719162 ≤ n / 86400 ∧ n / 86400 ≤ 2932896
instance (n : Int) : Decidable (inDays n) := inferInstanceAs (Decidable (_ ∧ _))
def Ft.sum (f : Ft) (p : Int) : Prop := inDays (p + f.so) ∧ f.spans (yearP ((p + f.so) / 86400)) ∧
  ((f.from' (yearP ((p + f.so) / 86400)) ≤ p ∧ p < f.to' (yearP ((p + f.so) / 86400))) ∨ (f.to' (yearP ((p + f.so) / 86400)) ≤ f.from' (yearP ((p + f.so) / 86400)) ∧ (f.from' (yearP ((p + f.so) / 86400)) ≤ p ∨ p < f.to' (yearP ((p + f.so) / 86400)))))
instance (f : Ft) (p : Int) : Decidable (f.sum p) := inferInstanceAs (Decidable (_ ∧ _))
end Go.Proofs.YtoiiblhbojhogaaGreatDoor.Pl
end
section
set_option linter.unusedVariables false
set_option linter.unusedSimpArgs false
namespace Go.Proofs.YtoiiblhbojhogaaGreatDoor
open Go Go.Proofs.YtoiiblhbojhogaaGreatDoor.Eng Go.Proofs.YtoiiblhbojhogaaGreatDoor.Pl
set_option linter.unusedVariables false
set_option linter.unusedSimpArgs false

theorem sHasPrefix (l : List UInt8) (c : UInt8) {K} (h : K (l.head? == some c)) : Xinternal_stringslite_HasPrefix (S l) (S [c]) K := by
  unfold Xinternal_stringslite_HasPrefix Yinternal_stringslite_HasPrefix
  simp only [S_size, S_extract, S_toList, decide_eq_true_eq, ge_iff_le, List.length_singleton]
  cases l with
  | nil => exact ifF (by simp) h
  | cons a l =>
    refine ifT (by simp; omega) (ifT (by simp; omega) ?_)
    have e : ((List.take (Int.toNat (((1 : Nat) : Int)) - 0) (List.drop 0 (a :: l)) == [c]) : Bool) = ((a :: l).head? == some c) := by
      simp
    rw [e]; exact h
theorem sIndex (l : List UInt8) (c : UInt8) {K} (h : K (if nl (· == c) l < l.length then (nl (· == c) l : Int) else -1)) : Xinternal_stringslite_Index (S l) (S [c]) K := by
  unfold Xinternal_stringslite_Index Yinternal_stringslite_Index
  simp only [S_size, S_toList, beq_iff_eq, List.length_singleton]
  refine ifF (by decide) (ifC (fun e => ?_) fun _ => ifT rfl (ifT (by decide) ?_))
  · subst e
    have : nl (· == c) [c] = 0 := by rw [nl_cons]; simp
    rw [this] at h; exact h
  · unfold XindexByte
    rw [indexByte_nl, S_data]
    have : (Eng.bAt (S [c]) 0).toNat.toUInt8 = c := by rw [bAt0]; simp
    rw [this]; exact h
theorem sCut (l : List UInt8) (c : UInt8) (hl : l.length ≤ 140737488351232) {K} (h : K (S (splitL c l).1) (S (splitL c l).2.1) (splitL c l).2.2) : Xstrings_Cut (S l) (S [c]) K := by
  unfold Xstrings_Cut Ystrings_Cut Xinternal_stringslite_Cut Yinternal_stringslite_Cut
  refine sIndex l c ?_
  unfold splitL at h
  simp only [S_size, S_extract, List.length_singleton, decide_eq_true_eq, ge_iff_le]
  by_cases e : nl (· == c) l < l.length
  · rw [if_pos e] at h
    simp only [if_pos e]
    rw [w64_in (by omega) (by omega)]
    refine ifT (by omega) (ifT (by omega) (ifT (by omega) (ifT (by omega) (ifT (by omega) ?_))))
    have e1 : Int.toNat ((nl (· == c) l : Int) + ((1 : Nat) : Int)) = nl (· == c) l + 1 := by omega
    have e2 : Int.toNat ((nl (· == c) l : Int)) = nl (· == c) l := by omega
    rw [e1, e2]
    rw [show (l.drop (nl (· == c) l + 1)).take (Int.toNat (l.length : Int) - (nl (· == c) l + 1)) = l.drop (nl (· == c) l + 1) from List.take_of_length_le (by simp)]
    exact h
  · rw [if_neg e] at h
    simp only [if_neg e]
    exact ifF (by omega) h
end Go.Proofs.YtoiiblhbojhogaaGreatDoor
end
section
set_option linter.unusedVariables false
set_option linter.unusedSimpArgs false
namespace Go.Proofs.YtoiiblhbojhogaaGreatDoor
open Go Go.Proofs.YtoiiblhbojhogaaGreatDoor.Eng Go.Proofs.YtoiiblhbojhogaaGreatDoor.Pl
set_option linter.unusedVariables false
set_option linter.unusedSimpArgs false
set_option maxRecDepth 100000
set_option maxHeartbeats 2000000

theorem kPre (n f : List UInt8) {K} (h : K (preB n f)) : Xstrings_HasPrefix (S n) (S f) K := by
  unfold Xstrings_HasPrefix Ystrings_HasPrefix Xinternal_stringslite_HasPrefix Yinternal_stringslite_HasPrefix
  simp only [S_size, S_extract, S_toList, decide_eq_true_eq, ge_iff_le, Int.toNat_natCast, List.drop_zero, Nat.sub_zero]
  unfold preB at h
  by_cases e : f.length ≤ n.length
  · rw [if_pos (by omega), if_pos (by omega)]; exact h
  · rw [if_neg (by omega)]
    have : (n.take f.length == f) = false := by
      simp only [beq_eq_false_iff_ne]
      intro hh
      have := congrArg List.length hh
      simp at this; omega
    rw [this] at h; exact h
theorem kIndex (l : List UInt8) (c : UInt8) {K} (h : K (if nl (· == c) l < l.length then (nl (· == c) l : Int) else -1)) : Xstrings_Index (S l) (S [c]) K := by
  unfold Xstrings_Index Ystrings_Index
  exact sIndex l c h
theorem kCut (l : List UInt8) (hl : l.length ≤ 140737488351232) {K} (h : ∀ b o, K (S (bareL l)) b o) : Xstrings_Cut (S l) (S [35]) K := by
  refine sCut l 35 hl ?_
  have : (splitL 35 l).1 = bareL l := by
    unfold splitL bareL
    split
    · rfl
    · rename_i hh
      have := nl_le (· == (35 : UInt8)) l
      rw [List.take_of_length_le (by omega)]
  rw [this]; exact h _ _
theorem kTrim (l : List UInt8) (hl : l.length ≤ 140737488351232) {K} (h : K (S (trimR l))) : Xstrings_TrimSuffix (S l) (S [13]) K := by
  unfold Xstrings_TrimSuffix Ystrings_TrimSuffix Xinternal_stringslite_TrimSuffix Yinternal_stringslite_TrimSuffix Xinternal_stringslite_HasSuffix Yinternal_stringslite_HasSuffix
  simp only [S_size, S_extract, S_toList, decide_eq_true_eq, ge_iff_le, List.length_singleton, lt]
  unfold trimR at h
  by_cases e : 1 ≤ l.length
  · have e1 : w64 ((l.length : Int) - ((1 : Nat) : Int)) = (l.length : Int) - 1 := w64_in (by omega) (by omega)
    rw [if_pos (by omega), if_pos (by omega), e1, if_pos (by omega)]
    have e2 : Int.toNat ((l.length : Int) - 1) = l.length - 1 := by omega
    have e3 : (List.take (Int.toNat (l.length : Int) - (l.length - 1)) (List.drop (l.length - 1) l) == [13]) = (l.getLast? == some 13) := by
      have : Int.toNat (l.length : Int) - (l.length - 1) = 1 := by omega
      rw [this, List.drop_eq_getElem_cons (show l.length - 1 < l.length by omega), List.take_succ_cons, List.take_zero, List.getLast?_eq_getElem?, List.getElem?_eq_getElem (show l.length - 1 < l.length by omega)]
      simp
    rw [e2, e3]
    cases hh : (l.getLast? == some 13)
    · rw [if_neg (by simp)]
      rw [if_neg (by simpa using hh)] at h; exact h
    · rw [if_pos rfl, if_pos (by omega), if_pos (by omega)]
      rw [if_pos (by simpa using hh)] at h
      rw [List.dropLast_eq_take] at h
      simpa using h
  · have : l = [] := by cases l <;> simp at e ⊢
    subst this
    rw [if_neg (by simp), if_neg (by simp)]
    simpa using h
def e0 : V := .c (.string (S []))
theorem WV_set (done : List (List UInt8)) (k : Nat) (r : List UInt8) :
    List.set (WV done ++ List.replicate (k + 1) e0) done.length (Eng.setE (List.getD (WV done ++ List.replicate (k + 1) e0) done.length Eng.V.bad) 0 [.c (.string (S r))]) = WV (done ++ [r]) ++ List.replicate k e0 := by
  rw [List.replicate_succ]
  have := WV_len done
  rw [← this, getD_mid, set_mid, WV_app]
  simp [WV, Eng.setE, e0]
theorem kGenLoop (c : UInt8) {K : List V → Bool → Bool → Prop} (k : Nat) (rest : List UInt8) (done : List (List UInt8)) (hb : rest.length + k + done.length ≤ 1000000000) (hk : K (WV (done ++ splN c k rest)) true false) :
    Eng.lp (Lstrings_genSplit_0 Xstrings_Index K) ((S rest, S [c], (0 : Int), ((done.length + k : Nat) : Int), (), (), (done.length : Int), ()), WV done ++ List.replicate (k + 1) e0, ()) := by
  refine lp_ind (fun x => (x.1.2.2.2.1 - x.1.2.2.2.2.2.2.1).toNat) (fun x => ∃ (k : Nat) (rest : List UInt8) (done : List (List UInt8)), rest.length + k + done.length ≤ 1000000000 ∧ K (WV (done ++ splN c k rest)) true false ∧
    x = ((S rest, S [c], (0 : Int), ((done.length + k : Nat) : Int), (), (), (done.length : Int), ()), WV done ++ List.replicate (k + 1) e0, ())) ?_ ⟨k, rest, done, hb, hk, rfl⟩
  rintro x ⟨k, rest, done, hb, hk, rfl⟩ kk hkk
  unfold Lstrings_genSplit_0
  simp only [decide_eq_true_eq, lt, Int.toNat_natCast]
  have l1 : (WV done ++ List.replicate (k + 1) e0).length = done.length + (k + 1) := by simp [WV_len]
  have l2 : ∀ r, (WV (done ++ [r]) ++ List.replicate k e0).length = done.length + (k + 1) := fun r => by simp [WV_len]; omega
  have w1 : w64 ((done.length : Int) + 1) = (done.length : Int) + 1 := w64_in (by omega) (by omega)
  have t1 : ∀ r, List.take (done.length + 1) (WV (done ++ [r]) ++ List.replicate k e0) = WV (done ++ [r]) := fun r => List.take_left' (by simp [WV_len])
  have n1 : Int.toNat ((done.length : Int) + 1) = done.length + 1 := by omega
  simp only [WV_set, l1, l2, w1, n1, Nat.sub_zero, t1]
  by_cases e : k = 0
  · subst e
    rw [if_neg (by omega), if_pos (by omega), if_pos (by omega), if_pos (by omega), if_pos (by omega), if_pos (Nat.ble_eq_true_of_le (by omega))]
    exact hk
  · obtain ⟨k, rfl⟩ : ∃ j, k = j + 1 := ⟨k - 1, by omega⟩
    rw [if_pos (by omega)]
    refine kIndex rest c ?_
    rw [splN] at hk
    by_cases hn : nl (· == c) rest < rest.length
    · rw [if_pos hn] at hk ⊢
      have w2 : w64 ((nl (· == c) rest : Int) + 0) = (nl (· == c) rest : Int) := by rw [Int.add_zero]; exact w64_in (by omega) (by omega)
      have w3 : w64 ((nl (· == c) rest : Int) + (([c] : List UInt8).length : Int)) = (nl (· == c) rest : Int) + 1 := by exact w64_in (by simp; omega) (by simp; omega)
      have n2 : Int.toNat ((nl (· == c) rest : Int) + 1) = nl (· == c) rest + 1 := by omega
      simp only [w2, w3, S_size, Int.toNat_natCast, n2, S_extract, WV_set, List.drop_zero, Nat.sub_zero]
      rw [if_neg (by omega), if_pos (by omega), if_pos (by omega), if_pos (by omega), if_pos (by omega), if_pos (by omega), if_pos (by omega)]
      refine hkk _ ⟨k, rest.drop (nl (· == c) rest + 1), done ++ [rest.take (nl (· == c) rest)], ?_, ?_, ?_⟩ ?_
      · simp; omega
      · rw [List.append_assoc]; exact hk
      · have : (rest.drop (nl (· == c) rest + 1)).take (rest.length - (nl (· == c) rest + 1)) = rest.drop (nl (· == c) rest + 1) := List.take_of_length_le (by simp)
        rw [this]
        simp only [List.length_append, List.length_singleton, Prod.mk.injEq, true_and, and_true]
        omega
      · simp; omega
    · rw [if_neg hn] at hk ⊢
      rw [if_pos (by omega), if_pos (by omega), if_pos (by omega), if_pos (by omega), if_pos (by omega), if_pos (Nat.ble_eq_true_of_le (by omega))]
      exact hk
theorem kSplitN (l : List UInt8) (c : UInt8) (n : Nat) (hn : 1 ≤ n) (hn' : n ≤ 1000) (hl : l.length ≤ 1000000) {K} (h : K (WV (splN c (n - 1) l)) true false) : Xstrings_SplitN (S l) (S [c]) (n : Int) K := by
  unfold Xstrings_SplitN Ystrings_SplitN Xstrings_genSplit Ystrings_genSplit
  simp only [beq_iff_eq, decide_eq_true_eq, lt, kS_nil]
  rw [if_neg (by omega), if_neg (by simp), if_neg (by omega)]
  have w1 : w64 (((S l).size : Int) + 1) = (l.length : Int) + 1 := by rw [S_size]; exact w64_in (by omega) (by omega)
  rw [w1]
  have go : ∀ m : Nat, 1 ≤ m → m ≤ n → splN c (m - 1) l = splN c (n - 1) l → (if 0 ≤ (m : Int) ∧ (m : Int) ≤ (m : Int) ∧ (m : Int) ≤ 4294967296 then
      Eng.lp (Lstrings_genSplit_0 Xstrings_Index fun r3 r4 r5 => K r3 r4 r5) ((S l, S [c], (0 : Int), w64 ((m : Int) - 1), (), (), (0 : Int), ()), List.replicate (Int.toNat (m : Int)) (Eng.ofVal (Value.string (ByteArray.mk #[]))), ()) else False) := fun m h1 h2 he => by
    have w2 : w64 ((m : Int) - 1) = ((m - 1 : Nat) : Int) := by rw [w64_in (by omega) (by omega)]; omega
    rw [if_pos (by omega), w2, show Eng.ofVal (Value.string (ByteArray.mk #[])) = e0 from rfl]
    have := kGenLoop c (K := fun r3 r4 r5 => K r3 r4 r5) (m - 1) l [] (by simp; omega) (by rw [List.nil_append, he]; exact h)
    have e1 : m - 1 + 1 = m := by omega
    rw [e1] at this
    simpa [WV] using this
  split
  · rename_i hlt
    have := go (l.length + 1) (by omega) (by omega) (by
      rw [Nat.add_sub_cancel, splN_spl c l.length l List.count_le_length, splN_spl c (n - 1) l (by have := List.count_le_length (a := c) (l := l); omega)])
    simpa using this
  · exact go n hn (Nat.le_refl _) rfl
theorem kSplit (l : List UInt8) (c : UInt8) (hl : l.length ≤ 2000000) {K} (h : K (WV (spl c l)) true false) : Xstrings_Split (S l) (S [c]) K := by
  unfold Xstrings_Split Ystrings_Split Xstrings_genSplit Ystrings_genSplit
  simp only [beq_iff_eq, decide_eq_true_eq, lt, kS_nil]
  rw [if_neg (by omega), if_neg (by simp), if_pos (by omega)]
  refine ⟨c, rfl, ?_⟩
  rw [S_data]
  have hc : Lib.countByte l c = l.count c := rfl
  have hc' := List.count_le_length (a := c) (l := l)
  rw [hc]
  dsimp only
  rw [show Eng.ofVal (Value.string (ByteArray.mk #[])) = e0 from rfl]
  have w1 : w64 (((S l).size : Int) + 1) = (l.length : Int) + 1 := by rw [S_size]; exact w64_in (by omega) (by omega)
  have w2 : w64 ((l.count c : Int) + 1) = ((l.count c + 1 : Nat) : Int) := by rw [w64_in (by omega) (by omega)]; omega
  rw [w1, w2, if_neg (show ¬ ((l.length : Int) + 1 < ((l.count c + 1 : Nat) : Int)) by omega), if_pos (by omega)]
  have w3 : w64 (((l.count c + 1 : Nat) : Int) - 1) = ((l.count c : Nat) : Int) := by rw [w64_in (by omega) (by omega)]; omega
  rw [w3]
  have := kGenLoop c (K := fun r3 r4 r5 => K r3 r4 r5) (l.count c) l [] (by simp; omega) (by rw [List.nil_append, splN_spl c _ l (Nat.le_refl _)]; exact h)
  simpa [WV] using this
theorem kLines (l : List UInt8) (hl : l.length ≤ 2000000) {K} (h : K (WV (linesL l)) true false) : Xlines_Split (S l) K := by
  unfold Xlines_Split Ylines_Split
  refine kSplit l 10 hl ?_
  obtain ⟨q1, q2, q3⟩ := spl_len 10 l
  unfold linesL at h
  generalize spl 10 l = ls at *
  have w1 : w64 (((WV ls).length : Int) - 1) = ((ls.length - 1 : Nat) : Int) := by rw [WV_len, w64_in (by omega) (by omega)]; omega
  have step : ∀ (n : Nat) (hn : n < ls.length), List.set (WV ((ls.take n).map trimR ++ ls.drop n)) n (Eng.setE (List.getD (WV ((ls.take n).map trimR ++ ls.drop n)) n Eng.V.bad) 0 [.c (.string (S (trimR ls[n])))]) = WV ((ls.take (n + 1)).map trimR ++ ls.drop (n + 1)) := fun n hn => by
    have hl1 : (WV ((ls.take n).map trimR)).length = n := by simp [WV_len]; omega
    rw [WV_app, List.drop_eq_getElem_cons hn]
    have e1 : WV (ls[n] :: ls.drop (n + 1)) = .c (.string (S ls[n])) :: WV (ls.drop (n + 1)) := rfl
    rw [e1]
    have g := getD_mid (WV ((ls.take n).map trimR)) V.bad (.c (.string (S ls[n]))) (WV (ls.drop (n + 1)))
    have s := set_mid (WV ((ls.take n).map trimR)) (.c (.string (S (trimR ls[n])))) (.c (.string (S ls[n]))) (WV (ls.drop (n + 1)))
    rw [hl1] at g s
    rw [g]
    show List.set _ n (V.c (.string (S (trimR ls[n])))) = _
    rw [s, WV_app, List.take_succ_eq_append_getElem hn, List.map_append, WV_app]
    simp [WV]
  have at' : ∀ (n : Nat) (hn : n < ls.length), ((ls.take n).map trimR ++ ls.drop n)[n]'(by simp; omega) = ls[n] := fun n hn => by
    rw [List.getElem_append_right (by simp; omega)]
    simp [Nat.min_eq_left (Nat.le_of_lt hn)]
  have len' : ∀ n, n ≤ ls.length → (WV ((ls.take n).map trimR ++ ls.drop n)).length = ls.length := fun n hn => by simp [WV_len]; omega
  rw [w1, if_pos (by rw [WV_len]; omega)]
  simp only [Int.toNat_natCast, Nat.sub_zero]
  refine asW (by omega) ?_
  rw [kS_nil]
  have hlast : ls.getLast? = some (ls[ls.length - 1]'(by omega)) := by rw [List.getLast?_eq_getElem?, List.getElem?_eq_getElem (by omega)]
  cases he : (ls[ls.length - 1]'(by omega)).isEmpty
  · have : ls.getLast? ≠ some [] := by
      rw [hlast]; intro hh
      simp only [Option.some.injEq] at hh
      rw [hh] at he; cases he
    rw [if_neg this] at h
    rw [if_neg (by simp)]
    refine lp_at (fun n => (((), (), (ls.length : Int), (n : Int), ()), (WV ((ls.take n).map trimR ++ ls.drop n), true, false), ())) ls.length (by simp [WV_len]) fun n hn k hk => ?_
    unfold Llines_Split_1
    simp only [decide_eq_true_eq, len' n hn, Int.toNat_natCast]
    by_cases e : n < ls.length
    · rw [if_pos (by omega), if_pos (by omega)]
      refine asW (by simp; omega) ?_
      rw [at' n e]
      refine kTrim _ (by have := q3 _ (List.getElem_mem e); omega) ?_
      rw [if_pos (by omega), if_pos trivial, if_pos e]
      have := hk e
      rw [step n e]
      have w2 : w64 ((n : Int) + 1) = ((n + 1 : Nat) : Int) := by rw [w64_in (by omega) (by omega)]; omega
      rw [w2]; exact this
    · have : n = ls.length := by omega
      subst this
      rw [if_neg (by omega)]
      simpa using h
  · have h0 : ls[ls.length - 1]'(by omega) = [] := by simpa using he
    have : ls.getLast? = some [] := by rw [hlast, h0]
    rw [if_pos this] at h
    rw [if_pos rfl, if_pos (by rw [WV_len]; omega), if_pos (by omega)]
    refine lp_at (fun n => (((), ls.length - 1, ((ls.length - 1 : Nat) : Int), (n : Int), ()), (WV ((ls.take n).map trimR ++ ls.drop n), true, false), ())) (ls.length - 1) (by simp) fun n hn k hk => ?_
    unfold Llines_Split_0
    simp only [decide_eq_true_eq, len' n (by omega), Int.toNat_natCast, Nat.zero_add]
    by_cases e : n < ls.length - 1
    · rw [if_pos (by omega), if_pos (by omega)]
      refine asW (by simp; omega) ?_
      rw [at' n (by omega)]
      refine kTrim _ (by have := q3 _ (List.getElem_mem (show n < ls.length by omega)); omega) ?_
      rw [if_pos (by omega), if_pos trivial, if_pos (by omega)]
      have := hk e
      rw [step n (by omega)]
      have w2 : w64 ((n : Int) + 1) = ((n + 1 : Nat) : Int) := by rw [w64_in (by omega) (by omega)]; omega
      simp only [lt]
      rw [w2]; exact this
    · have : n = ls.length - 1 := by omega
      subst this
      rw [if_neg (by omega), if_pos trivial, if_pos trivial, if_pos (Nat.ble_eq_true_of_le (by omega))]
      have e1 : List.take (ls.length - 1) (WV ((ls.take (ls.length - 1)).map trimR ++ ls.drop (ls.length - 1))) = WV (ls.dropLast.map trimR) := by
        rw [WV_app, List.take_left' (by simp [WV_len]), List.dropLast_eq_take]
      rw [e1]; exact h
end Go.Proofs.YtoiiblhbojhogaaGreatDoor
end
section
set_option linter.unusedVariables false
set_option linter.unusedSimpArgs false
namespace Go.Proofs.YtoiiblhbojhogaaGreatDoor
open Go Go.Proofs.YtoiiblhbojhogaaGreatDoor.Eng Go.Proofs.YtoiiblhbojhogaaGreatDoor.Pl
set_option linter.unusedVariables false
set_option linter.unusedSimpArgs false

theorem dl_of (l : List UInt8) (k : Nat) (hk : k ≤ l.length) (h1 : ∀ c ∈ l.take k, isDig c = true) (h2 : ∀ h : k < l.length, isDig l[k] = false) : dl l = k := by
  have := nl_of (fun c => !isDig c) l k hk (fun c hc => by simp [h1 c hc]) (fun h => by simp [h2 h])
  rw [← this]; unfold nl dl; simp
theorem sitoa (n : Int) (h0 : -9223372036854775808 ≤ n) (h1 : n ≤ 9223372036854775807) {K} (h : K (S (itoaK n))) : Xitoa n K :=
  ⟨⟨h0, h1⟩, by rw [← itoaK_eq n h0 h1]; exact h⟩

theorem more_bd (t : List UInt8) : 0 ≤ (moreL (sixtyL t)).1 ∧ (moreL (sixtyL t)).1 ≤ 59 := by
  unfold moreL; split
  · exact sixty_bd _
  · simp
end Go.Proofs.YtoiiblhbojhogaaGreatDoor
end
section
set_option linter.unusedVariables false
set_option linter.unusedSimpArgs false
namespace Go.Proofs.YtoiiblhbojhogaaGreatDoor
open Go Go.Proofs.YtoiiblhbojhogaaGreatDoor.Eng Go.Proofs.YtoiiblhbojhogaaGreatDoor.Pl
set_option linter.unusedVariables false
set_option linter.unusedSimpArgs false

theorem take_all (t : List UInt8) (k : Nat) : (t.drop k).take (t.length - k) = t.drop k := List.take_of_length_le (by simp)
theorem date_len (l : List UInt8) : (dateL l).2.2.2.2.1.length ≤ l.length := by
  obtain ⟨j, _, e, _⟩ := dateL_drop l
  rw [e, List.length_drop]; omega
theorem tdivN (v m : Nat) : Int.tdiv (v : Int) (m : Int) = ((v / m : Nat) : Int) := by rw [Int.tdiv_eq_ediv_of_nonneg (by omega)]; rfl
theorem tmodN (v m : Nat) : Int.tmod (v : Int) (m : Int) = ((v % m : Nat) : Int) := by rw [Int.tmod_eq_emod_of_nonneg (by omega)]; rfl
theorem itoaK_len' (n : Int) : (itoaK n).length ≤ 21 := itoaK_len n
theorem clockB_len (a : Nat) : (clockB a).length ≤ 102 := by
  have l1 := digsN_len 20 (a / 3600)
  have l2 := pairL_len (a / 60 % 60)
  have l3 := pairL_len (a % 60)
  unfold clockB
  rw [List.length_append]
  repeat' split
  all_goals first | omega | (simp only [List.length_append, List.length_nil]; omega)
end Go.Proofs.YtoiiblhbojhogaaGreatDoor
end
section
set_option linter.unusedVariables false
set_option linter.unusedSimpArgs false
namespace Go.Proofs.YtoiiblhbojhogaaGreatDoor
open Go Go.Proofs.YtoiiblhbojhogaaGreatDoor.Eng Go.Proofs.YtoiiblhbojhogaaGreatDoor.Pl
set_option linter.unusedVariables false
set_option linter.unusedSimpArgs false

theorem tmod_leap (y : Int) : (Int.tmod y 4 = 0 ↔ y % 4 = 0) ∧ (Int.tmod y 100 = 0 ↔ y % 100 = 0) ∧ (Int.tmod y 400 = 0 ↔ y % 400 = 0) := by
  refine ⟨?_, ?_, ?_⟩ <;> rw [← Int.dvd_iff_emod_eq_zero, Int.dvd_iff_tmod_eq_zero]
theorem sleap (y : Int) {K} (h : K (leapY y)) : Xday_Leap y K := by
  unfold Xday_Leap Yday_Leap
  obtain ⟨t1, t2, t3⟩ := tmod_leap y
  have fin : ∀ z : Bool, (z = true ↔ (y % 4 = 0 ∧ (y % 100 ≠ 0 ∨ y % 400 = 0))) → K z := fun z hz => cast (congrArg K (Bool.eq_iff_iff.2 ((leapY_iff y).trans hz.symm))) h
  simp only [beq_iff_eq, bne_iff_ne, ne_eq, t1, t2]
  refine ifC (fun h1 => ifC (fun h2 => fin _ ?_) fun h2 => fin _ ?_) fun h1 => fin _ ?_
  · simp; omega
  · rw [beq_iff_eq, t3]; omega
  · simp; omega
theorem slast (y m : Int) {K} (h : K (if 1 ≤ y ∧ y ≤ 9999 ∧ 1 ≤ m ∧ m ≤ 12 then dim y m else 0) (decide (1 ≤ y ∧ y ≤ 9999 ∧ 1 ≤ m ∧ m ≤ 12))) : Xday_Last y m K := by
  unfold Xday_Last Yday_Last
  simp only [decide_eq_true_eq, gt_iff_lt]
  by_cases e : 1 ≤ y ∧ y ≤ 9999 ∧ 1 ≤ m ∧ m ≤ 12
  · rw [if_pos e, decide_eq_true e] at h
    refine ifF (by omega) (ifF (by omega) (ifF (by omega) (ifF (by omega) ?_)))
    rw [w64_in (by omega) (by omega)]
    refine ifT (by omega) ?_
    rcases month_cases e.2.2.1 e.2.2.2 with rfl | rfl | rfl | rfl | rfl | rfl | rfl | rfl | rfl | rfl | rfl | rfl
    all_goals
      simp only [Int.sub_self, Int.reduceSub, Int.reduceToNat, Nat.reduceMul, List.getElem?_cons_zero, List.getElem?_cons_succ, Eng.asInt, if_true, beq_iff_eq, Int.toNat_zero, Nat.zero_mul, beq_self_eq_true, Int.reduceBEq, Bool.false_eq_true, if_false]
      first
      | exact h
      | (refine sleap _ ?_
         unfold dim at h
         rw [if_pos rfl] at h
         refine ifC (fun hl => ?_) fun hl => ?_
         · rw [if_pos hl] at h; exact h
         · rw [if_neg hl] at h; exact h)
  · rw [if_neg e, decide_eq_false e] at h
    exact ifC (fun _ => h) fun _ => ifC (fun _ => h) fun _ => ifC (fun _ => h) fun _ => ifT (by omega) h
theorem ediv_in (a b : Int) (h0 : -9223372036854775808 ≤ a) (h1 : a ≤ 9223372036854775807) (hb : 1 ≤ b) : -9223372036854775808 ≤ a / b ∧ a / b ≤ 9223372036854775807 := by
  constructor
  · have : a ≤ a / b ∨ 0 ≤ a / b := by
      by_cases hn : 0 ≤ a
      · exact .inr (Int.ediv_nonneg hn (by omega))
      · refine .inl (Int.le_ediv_of_mul_le (by omega) ?_)
        have : (b - 1) * a ≤ 0 := Int.mul_nonpos_of_nonneg_of_nonpos (by omega) (by omega)
        rw [Int.sub_mul, Int.mul_comm b a] at this
        omega
    omega
  · have := Int.ediv_le_self (a := a) b
    by_cases hn : 0 ≤ a
    · have := this hn; omega
    · have := Int.ediv_neg_of_neg_of_pos (by omega : a < 0) (by omega : 0 < b); omega
theorem sdiv (a b : Int) (h0 : -9223372036854775808 ≤ a) (h1 : a ≤ 9223372036854775807) (hb : 1 ≤ b) (hb' : b ≤ 9223372036854775807) {K} (h : K (a / b) (a % b) true) : Xnum_Div a b K := by
  unfold Xnum_Div Ynum_Div
  have hm := Int.emod_nonneg a (by omega : b ≠ 0)
  have hm2 := Int.emod_lt_of_pos a (by omega : 0 < b)
  obtain ⟨hq1, hq2⟩ := ediv_in a b h0 h1 hb
  simp only [decide_eq_true_eq, lt]
  refine ifF (by omega) (ifF (by omega) (ifF (by omega) ?_))
  by_cases hn : 0 ≤ a
  · rw [Int.tmod_eq_emod_of_nonneg hn, Int.tdiv_eq_ediv_of_nonneg hn]
    refine ifF (by omega) ?_
    rw [w64_in hq1 hq2]; exact h
  · by_cases hz : a % b = 0
    · have hd : b ∣ a := Int.dvd_of_emod_eq_zero hz
      have e1 : Int.tmod a b = 0 := Int.tmod_eq_zero_of_dvd hd
      have e2 : Int.tdiv a b = a / b := by
        obtain ⟨c, rfl⟩ := hd
        rw [Int.mul_tdiv_cancel_left _ (by omega), Int.mul_ediv_cancel_left _ (by omega)]
      rw [e1, e2]
      refine ifF (by omega) ?_
      rw [w64_in hq1 hq2, ← hz]; exact h
    · have e1 : Int.tmod a b = a % b - b := by
        rw [Int.tmod_eq_emod]
        have : ¬ (0 ≤ a ∨ b ∣ a) := by
          rintro (h | h)
          · exact hn h
          · exact hz (Int.emod_eq_zero_of_dvd h)
        rw [if_neg this]
        have : (b.natAbs : Int) = b := by omega
        omega
      have e2 : Int.tdiv a b = a / b + 1 := by
        have := Int.mul_tdiv_add_tmod a b
        rw [e1] at this
        have hdm := Int.mul_ediv_add_emod a b
        have h2 : b * (Int.tdiv a b) = b * (a / b + 1) := by rw [Int.mul_add]; omega
        exact Int.eq_of_mul_eq_mul_left (by omega) h2
      have hlt : a / b < 0 := Int.ediv_neg_of_neg_of_pos (by omega) (by omega)
      rw [e1, e2]
      refine ifT (by omega) ?_
      rw [w64_in (n := a / b + 1) (by omega) (by omega), w64_in (by omega) (by omega), w64_in (by omega) (by omega), show a / b + 1 - 1 = a / b by omega, show a % b - b + b = a % b by omega]
      exact h
theorem sdiv0 (a b : Int) (hb : b < 1) {K} (h : K 0 0 false) : Xnum_Div a b K := by
  unfold Xnum_Div Ynum_Div
  exact ifT (by simpa using hb) h
def okD (y m d : Int) : Prop := 1 ≤ y ∧ y ≤ 9999 ∧ 1 ≤ m ∧ m ≤ 12 ∧ 1 ≤ d ∧ d ≤ dim y m
instance (y m d : Int) : Decidable (okD y m d) := by unfold okD; infer_instance
theorem snum (y m d : Int) (hd0 : -9223372036854775808 ≤ d) (hd1 : d ≤ 9223372036854775807) {K} (h : K (if okD y m d then num y m d else 0) (decide (okD y m d))) : Xday_Number y m d K := by
  unfold Xday_Number Yday_Number
  refine slast _ _ ?_
  simp only [decide_eq_true_eq, gt_iff_lt, lt]
  by_cases e : 1 ≤ y ∧ y ≤ 9999 ∧ 1 ≤ m ∧ m ≤ 12
  · rw [decide_eq_true e, if_pos e]
    refine ifF (by simp) ?_
    by_cases e2 : 1 ≤ d ∧ d ≤ dim y m
    · have ok : okD y m d := ⟨e.1, e.2.1, e.2.2.1, e.2.2.2, e2.1, e2.2⟩
      rw [if_pos ok, decide_eq_true ok] at h
      refine ifF (by omega) (ifF (by omega) ?_)
      have hd := dim_bd y m
      rw [← numP_eq e.2.2.1 e.2.2.2] at h
      unfold numP sy sm at h
      refine ifC (fun hm => ?_) fun hm => ?_
      · rw [if_pos hm, if_pos hm] at h
        rw [w64_in (n := y - 1) (by omega) (by omega)]
        refine sdiv _ _ (by omega) (by omega) (by omega) (by omega) ?_
        have b1 : 0 ≤ (y - 1) % 400 ∧ (y - 1) % 400 ≤ 399 := by omega
        have b2 : 0 ≤ (y - 1) / 400 ∧ (y - 1) / 400 ≤ 25 := by omega
        generalize (y - 1) % 400 = r at *
        generalize (y - 1) / 400 = q at *
        simp (disch := omega) only [w64_in, Int.tdiv_eq_ediv_of_nonneg]
        refine cast (congrArg (fun z => K z true) ?_) h
        omega
      · rw [if_neg hm, if_neg hm] at h
        refine sdiv _ _ (by omega) (by omega) (by omega) (by omega) ?_
        have b1 : 0 ≤ y % 400 ∧ y % 400 ≤ 399 := by omega
        have b2 : 0 ≤ y / 400 ∧ y / 400 ≤ 25 := by omega
        generalize y % 400 = r at *
        generalize y / 400 = q at *
        simp (disch := omega) only [w64_in, Int.tdiv_eq_ediv_of_nonneg]
        refine cast (congrArg (fun z => K z true) ?_) h
        omega
    · have ok : ¬ okD y m d := fun h => e2 h.2.2.2.2
      rw [if_neg ok, decide_eq_false ok] at h
      exact ifC (fun _ => h) fun _ => ifT (by omega) h
  · have ok : ¬ okD y m d := fun h => e ⟨h.1, h.2.1, h.2.2.1, h.2.2.2.1⟩
    rw [if_neg ok, decide_eq_false ok] at h
    rw [decide_eq_false e]
    exact ifT rfl h
theorem sday (n : Int) {K} (h : if -719162 ≤ n ∧ n ≤ 2932896 then K (yearP n) (monP n) (dayP n) true else K 0 0 0 false) : Xday_Date n K := by
  unfold Xday_Date Yday_Date
  simp only [decide_eq_true_eq, gt_iff_lt, lt]
  by_cases e : -719162 ≤ n ∧ n ≤ 2932896
  · rw [if_pos e] at h
    refine ifF (by omega) (ifF (by omega) ?_)
    rw [w64_in (n := n + 719468) (by omega) (by omega)]
    refine sdiv _ _ (by omega) (by omega) (by omega) (by omega) ?_
    have b1 : 0 ≤ (n + 719468) / 146097 ∧ (n + 719468) / 146097 ≤ 25 := by omega
    have b2 : 0 ≤ (n + 719468) % 146097 ∧ (n + 719468) % 146097 ≤ 146096 := by omega
    have hv := doy_bd (by omega : -719162 ≤ n) (by omega)
    unfold yearP monP dayP mon doy yrs era ofE at *
    generalize (n + 719468) / 146097 = q at *
    generalize (n + 719468) % 146097 = o at *
    have hg : 0 ≤ gy o ∧ gy o ≤ 146096 ∧ gy o = o - o / 1460 + o / 36524 - o / 146096 := by unfold gy; omega
    simp (disch := omega) only [w64_in, Int.tdiv_eq_ediv_of_nonneg]
    rw [← hg.2.2]
    have hY : 0 ≤ gy o / 365 ∧ gy o / 365 ≤ 400 := by omega
    have hS : st (gy o / 365) = 365 * (gy o / 365) + gy o / 365 / 4 - gy o / 365 / 100 := rfl
    rw [hS] at hv h
    generalize o - (365 * (gy o / 365) + gy o / 365 / 4 - gy o / 365 / 100) = D at *
    simp (disch := omega) only [w64_in, Int.tdiv_eq_ediv_of_nonneg]
    refine ifC (fun hm => ?_) fun hm => ?_
    · rw [if_pos (by omega), if_pos (by omega)] at h; exact h
    · rw [if_neg (by omega), if_neg (by omega)] at h; exact h
  · rw [if_neg e] at h
    exact ifC (fun _ => h) fun _ => ifT (by omega) h
/-- A rule's second of a year, from the first of 1970 on. -/
def ruleAt (k a b c x y : Int) : Int := ruleDay k a b c y * 86400 + x
theorem sadd (a b : Int) (ha : -9223372036854775808 ≤ a ∧ a ≤ 9223372036854775807) (hb : -9223372036854775808 ≤ b ∧ b ≤ 9223372036854775807) {K}
    (h : if -9223372036854775808 ≤ a + b ∧ a + b ≤ 9223372036854775807 then K (a + b) true else K 0 false) : Xnum_Add a b K := by
  unfold Xnum_Add Ynum_Add
  simp only [lt, bne_iff_ne, ne_eq]
  by_cases e : -9223372036854775808 ≤ a + b ∧ a + b ≤ 9223372036854775807
  · rw [if_pos e] at h
    rw [w64_in e.1 e.2]
    exact ifC (fun h1 => ifC (fun h2 => absurd h1 (by simp; omega)) fun _ => h) fun _ => h
  · rw [if_neg e] at h
    have hw : w64 (a + b) = if a + b < 0 then a + b + 18446744073709551616 else a + b - 18446744073709551616 := by
      unfold w64 IntKind.wrap
      simp [IntKind.bits, IntKind.signed]
      split <;> omega
    rw [hw]
    refine ifT ?_ (ifT (by omega) h)
    split <;> simp <;> omega
end Go.Proofs.YtoiiblhbojhogaaGreatDoor
end
section
set_option linter.unusedVariables false
set_option linter.unusedSimpArgs false
namespace Go.Proofs.YtoiiblhbojhogaaGreatDoor
open Go Go.Proofs.YtoiiblhbojhogaaGreatDoor.Eng Go.Proofs.YtoiiblhbojhogaaGreatDoor.Pl
set_option linter.unusedVariables false
set_option linter.unusedSimpArgs false
set_option maxRecDepth 100000
set_option maxHeartbeats 2000000

theorem take_more (l : List UInt8) (a p w : Nat) (h : a ≤ p) : (l.drop a).take (p - a) ++ (l.drop p).take w = (l.drop a).take (p + w - a) := by
  have e : p + w - a = (p - a) + w := by omega
  rw [e, List.take_add, List.drop_drop]
  congr 2
  congr 1; omega
theorem kWords (l : List UInt8) (hl : l.length ≤ 1000000) {K} (h : K (WV (wordsL l)) true false) : Xlines_Words (S l) K := by
  unfold Xlines_Words Ylines_Words
  rw [if_neg (by rw [S_size]; omega), show S l ++ ByteArray.mk #[32] = S (l ++ [32]) from S_append l [32]]
  have hlen : (l ++ [32]).length = l.length + 1 := by simp
  refine lp_ind (fun x => l.length + 1 - x.2.1.2) (fun x => ∃ (pos : Nat) (f : Int) (cur : List UInt8) (done : List (List UInt8)), pos ≤ l.length + 1 ∧
    ((f = -1 ∧ cur = []) ∨ ∃ a : Nat, f = (a : Int) ∧ a < pos ∧ pos ≤ l.length ∧ cur = (l.drop a).take (pos - a)) ∧ done ++ wd cur ((l ++ [32]).drop pos) = wordsL l ∧
    x = ((S l, (), f, (), ()), (S (l ++ [32]), pos), WV done, ())) ?_ ⟨0, -1, [], [], by omega, .inl ⟨rfl, rfl⟩, by rw [List.drop_zero, List.nil_append, wd_blank]; rfl, rfl⟩
  rintro x ⟨pos, f, cur, done, hp, hf, hw, rfl⟩ k hk
  unfold Llines_Words_0
  simp only [S_size, hlen, decide_eq_true_eq]
  have hdl : done.length ≤ l.length + 1 := by
    have h1 := congrArg List.length hw
    have h2 := (wd_len l []).1
    unfold wordsL at h1
    simp at h1; omega
  by_cases e : pos < l.length + 1
  · rw [if_pos e]
    have hpos : pos < (l ++ [32]).length := by omega
    have hdrop : (l ++ [32]).drop pos = (l ++ [32])[pos] :: (l ++ [32]).drop (pos + 1) := List.drop_eq_getElem_cons hpos
    have key : (blankB (l ++ [32])[pos] = true ∧ Utf8.decode (S (l ++ [32])) pos = ((l ++ [32])[pos].toNat, 1)) ∨
        (∃ r w, Utf8.decode (S (l ++ [32])) pos = (r, w) ∧ r ≠ 32 ∧ r ≠ 9 ∧ 1 ≤ w ∧ pos + w ≤ l.length ∧ ∀ c ∈ (l.drop pos).take w, blankB c = false) := by
      have lastb : ∀ w, pos + w ≤ l.length + 1 → (∀ c ∈ ((l ++ [32]).drop pos).take w, blankB c = false) → 1 ≤ w → pos + w ≤ l.length ∧ ∀ c ∈ (l.drop pos).take w, blankB c = false := fun w hw1 hw2 hw3 => by
        have hle : pos + w ≤ l.length := by
          by_cases e2 : pos + w = l.length + 1
          · exfalso
            have : (32 : UInt8) ∈ ((l ++ [32]).drop pos).take w := by
              have hz : (((l ++ [32]).drop pos).take w)[w - 1]? = some 32 := by
                rw [List.getElem?_take, if_pos (by omega), List.getElem?_drop, List.getElem?_append_right (by omega)]
                have : pos + (w - 1) - l.length = 0 := by omega
                rw [this]; rfl
              exact List.mem_of_getElem? hz
            have := hw2 _ this
            simp [blankB] at this
          · omega
        refine ⟨hle, fun c hc => hw2 c ?_⟩
        rw [List.drop_append_of_le_length (by omega), List.take_append_of_le_length (by simp; omega)]
        exact hc
      by_cases hb : (l ++ [32])[pos].toNat < 128
      · have hd := decode_lo (l ++ [32]) pos hpos hb
        cases hbl : blankB (l ++ [32])[pos]
        · refine .inr ⟨_, 1, hd, fun h32 => ?_, fun h9 => ?_, Nat.le_refl _, lastb 1 (by omega) (fun c hc => ?_) (Nat.le_refl _)⟩
          · rw [show (l ++ [32])[pos] = 32 from u8_eq h32] at hbl; simp [blankB] at hbl
          · rw [show (l ++ [32])[pos] = 9 from u8_eq h9] at hbl; simp [blankB] at hbl
          · rw [hdrop, List.take_succ_cons, List.take_zero, List.mem_singleton] at hc
            rw [hc]; exact hbl
        · exact .inl ⟨rfl, hd⟩
      · obtain ⟨d1, d2, d3, d4⟩ := decode_cont (l ++ [32]) pos hpos (by omega)
        rw [hlen] at d3
        generalize Utf8.decode (S (l ++ [32])) pos = dc at *
        obtain ⟨r, w⟩ := dc
        dsimp only at d1 d2 d3 d4
        refine .inr ⟨r, w, rfl, by omega, by omega, d2, lastb _ (by omega) (fun c hc => ?_) d2⟩
        have := d4 c hc
        simp only [blankB, Bool.or_eq_false_iff, beq_eq_false_iff_ne]
        constructor <;> (intro hcc; subst hcc; revert this; decide)
    rcases key with ⟨hbl, hd⟩ | ⟨r, w, hd, n32, n9, w1, hpw, hnb⟩
    · rw [hd]
      dsimp only
      have hwd : wd cur ((l ++ [32]).drop pos) = if cur = [] then wd [] ((l ++ [32]).drop (pos + 1)) else cur :: wd [] ((l ++ [32]).drop (pos + 1)) := by
        rw [hdrop, wd, if_pos hbl]
      rw [hwd] at hw
      have val : (((l ++ [32])[pos].toNat : Int) = 32) ∨ (((l ++ [32])[pos].toNat : Int) = 9) := by
        simp only [blankB, Bool.or_eq_true, beq_iff_eq] at hbl
        rcases hbl with hbl | hbl <;> rw [hbl]
        · exact .inl rfl
        · exact .inr rfl
      have next : cur = [] → k ((S l, (), f, (), ()), (S (l ++ [32]), pos + 1), WV done, ()) := fun hc => by
        rw [if_pos hc] at hw
        refine hk _ ⟨pos + 1, f, [], done, by omega, .inl ⟨?_, rfl⟩, hw, rfl⟩ (by show l.length + 1 - (pos + 1) < l.length + 1 - pos; omega)
        rcases hf with hf | ⟨a, h1, h2, h3, h4⟩
        · exact hf.1
        · exfalso
          rw [hc] at h4
          have := congrArg List.length h4
          simp at this; omega
      have flush : (a : Nat) → f = (a : Int) → a < pos → pos ≤ l.length → cur = (l.drop a).take (pos - a) →
          (if 0 ≤ (pos : Int) ∧ (pos : Int) ≤ (l.length : Int) then
          (if 0 ≤ f ∧ f ≤ (pos : Int) then
          (if Eng.roomOk (List.length (WV done) + List.length [Eng.V.c (Value.string (ByteArray.extract (S l) (Int.toNat f) (Int.toNat (pos : Int))))]) (16 : Nat) = true then
          k ((S l, (), (-1), (), ()), (S (l ++ [32]), pos + 1), WV done ++ [Eng.V.c (Value.string (ByteArray.extract (S l) (Int.toNat f) (Int.toNat (pos : Int))))], ())
          else False) else False) else False) := fun a h1 h2 h3 h4 => by
        subst h1
        have hc : cur ≠ [] := fun hc => by
          rw [hc] at h4
          have := congrArg List.length h4
          simp at this; omega
        rw [if_neg hc] at hw
        rw [if_pos (by omega), if_pos (by omega), if_pos (by simp [roomOk, WV_len]; omega)]
        have e1 : WV done ++ [Eng.V.c (Value.string (ByteArray.extract (S l) (Int.toNat (a : Int)) (Int.toNat (pos : Int))))] = WV (done ++ [cur]) := by
          rw [WV_app, h4, S_extract]; rfl
        rw [e1]
        exact hk _ ⟨pos + 1, -1, [], done ++ [cur], by omega, .inl ⟨rfl, rfl⟩, by rw [List.append_assoc]; exact hw, rfl⟩ (by show l.length + 1 - (pos + 1) < l.length + 1 - pos; omega)
      rcases hf with ⟨hf, hc⟩ | ⟨a, h1, h2, h3, h4⟩
      · have nx := next hc
        subst hf
        rcases val with v | v <;> rw [v]
        · rw [if_pos (by simp), if_neg (by omega)]; exact nx
        · rw [if_neg (by simp), if_pos (by simp), if_neg (by omega), if_neg (by simp)]; exact nx
      · have fl := flush a h1 h2 h3 h4
        rcases val with v | v <;> rw [v]
        · rw [if_pos (by simp), if_pos (by omega)]; exact fl
        · rw [if_neg (by simp), if_pos (by simp), if_pos (by omega)]; exact fl
    · rw [hd]
      dsimp only
      rw [if_neg (by simp; omega), if_neg (by simp; omega), if_pos (by simp; omega)]
      have hsk : (l ++ [32]).drop pos = (l.drop pos).take w ++ (l ++ [32]).drop (pos + w) := by
        have : (l ++ [32]).drop pos = ((l ++ [32]).drop pos).take w ++ ((l ++ [32]).drop pos).drop w := (List.take_append_drop w _).symm
        rw [List.drop_drop] at this
        rw [this]
        congr 1
        rw [List.drop_append_of_le_length (by omega), List.take_append_of_le_length (by simp; omega)]
      rw [hsk, wd_skip _ _ _ hnb] at hw
      rcases hf with ⟨hf, hc⟩ | ⟨a, h1, h2, h3, h4⟩
      · subst hf; subst hc
        rw [if_pos (by omega)]
        exact hk _ ⟨pos + w, (pos : Int), (l.drop pos).take w, done, by omega, .inr ⟨pos, rfl, by omega, hpw, by congr 1; omega⟩, by rw [List.nil_append] at hw; exact hw, rfl⟩ (by show l.length + 1 - (pos + w) < l.length + 1 - pos; omega)
      · subst h1
        rw [if_neg (by omega)]
        refine hk _ ⟨pos + w, (a : Int), cur ++ (l.drop pos).take w, done, by omega, .inr ⟨a, rfl, by omega, hpw, ?_⟩, hw, rfl⟩ (by show l.length + 1 - (pos + w) < l.length + 1 - pos; omega)
        rw [h4, take_more l a pos w (by omega)]
  · rw [if_neg e]
    have hpe : pos = l.length + 1 := by omega
    rcases hf with ⟨hf, hc⟩ | ⟨a, h1, h2, h3, h4⟩
    · subst hc
      rw [hpe, List.drop_eq_nil_of_le (by omega), wd, if_pos rfl, List.append_nil] at hw
      rw [hw]; exact h
    · omega
theorem kFold (l : List UInt8) (hl : l.length ≤ 1000000) {K} (h : K (S (foldLw l))) : Xlines_Fold (S l) K := by
  unfold Xlines_Fold Ylines_Fold
  rw [bytesV_S, B8_len]
  have cons : ∀ n (hn : n < l.length), foldLw (l.take (n + 1)) ++ l.drop (n + 1) = foldLw (l.take n) ++ lowB l[n] :: l.drop (n + 1) := fun n hn => by
    unfold foldLw; rw [List.take_succ_eq_append_getElem hn, List.map_append, List.append_assoc]; rfl
  have cons0 : ∀ n (hn : n < l.length), foldLw (l.take n) ++ l.drop n = foldLw (l.take n) ++ l[n] :: l.drop (n + 1) := fun n hn => by
    rw [← List.drop_eq_getElem_cons hn]
  have len : ∀ n, n ≤ l.length → (foldLw (l.take n) ++ l.drop n).length = l.length := fun n hn => by simp [foldLw]; omega
  refine lp_at (fun n => ((ByteArray.mk #[], (), (), (l.length : Int), (n : Int), ()), B8 (foldLw (l.take n) ++ l.drop n), ())) l.length (by simp [foldLw]) fun n hn k hk => ?_
  unfold Llines_Fold_0
  simp only [decide_eq_true_eq, B8_len, len n hn, Int.toNat_natCast]
  by_cases e : n < l.length
  · have hat : (foldLw (l.take n) ++ l.drop n)[n]'(by rw [len n hn]; exact e) = l[n] := by
      rw [List.getElem_append_right (by simp [foldLw]; omega)]
      simp [foldLw, Nat.min_eq_left hn]
    have hk := hk e
    have w1 : w64 ((n : Int) + 1) = ((n + 1 : Nat) : Int) := by rw [w64_in (by omega) (by omega)]; omega
    rw [cons n e] at hk
    rw [if_pos (by omega), if_pos (by omega)]
    refine asB8 (by rw [len n hn]; exact e) ?_
    rw [hat]
    have same : ¬ (65 ≤ l[n].toNat ∧ l[n].toNat ≤ 90) → k ((ByteArray.mk #[], (), (), (l.length : Int), w64 ((n : Int) + 1), ()), B8 (foldLw (l.take n) ++ l.drop n), ()) := fun hno => by
      have : lowB l[n] = l[n] := by unfold lowB; rw [if_neg hno]
      rw [this, ← cons0 n e] at hk
      rw [w1]; exact hk
    by_cases h1 : (l[n].toNat : Int) ≥ 65
    · rw [if_pos h1]
      by_cases h2 : (l[n].toNat : Int) ≤ 90
      · rw [if_pos h2]
        rw [if_pos (by omega)]
        refine asB8 (by rw [len n hn]; exact e) ?_
        rw [hat, if_pos (by omega), if_pos e]
        simp only [lt]
        rw [w1]
        have hset : List.set (B8 (foldLw (l.take n) ++ l.drop n)) n (Eng.setE (List.getD (B8 (foldLw (l.take n) ++ l.drop n)) n Eng.V.bad) 0 [V.c (Value.int IntKind.u8 (wu8 ((l[n].toNat : Int) + 32)))]) = B8 (foldLw (l.take n) ++ lowB l[n] :: l.drop (n + 1)) := by
          rw [cons0 n e]
          have b1 : ∀ x : UInt8, B8 (foldLw (l.take n) ++ x :: l.drop (n + 1)) = B8 (foldLw (l.take n)) ++ V.c (.int .u8 (x.toNat : Int)) :: B8 (l.drop (n + 1)) := fun x => by simp [B8]
          have b2 : (B8 (foldLw (l.take n))).length = n := by simp [B8, foldLw]; omega
          rw [b1, b1]
          have g := getD_mid (B8 (foldLw (l.take n))) V.bad (V.c (.int .u8 (l[n].toNat : Int))) (B8 (l.drop (n + 1)))
          rw [b2] at g
          rw [g]
          show List.set _ n (V.c (.int .u8 (wu8 ((l[n].toNat : Int) + 32)))) = _
          have st := set_mid (B8 (foldLw (l.take n))) (V.c (.int .u8 (wu8 ((l[n].toNat : Int) + 32)))) (V.c (.int .u8 (l[n].toNat : Int))) (B8 (l.drop (n + 1)))
          rw [b2] at st
          rw [st]
          have : (lowB l[n]).toNat = l[n].toNat + 32 := by
            unfold lowB; rw [if_pos (by omega)]
            rw [UInt8.toNat_ofNat']
            omega
          rw [this, wu8_in (by omega) (by omega)]
          rfl
        rw [hset]; exact hk
      · rw [if_neg h2]; exact same (by omega)
    · rw [if_neg h1]; exact same (by omega)
  · have : n = l.length := by omega
    subst this
    rw [if_neg (by omega), if_pos (B8_all _), B8_pack]
    simpa using h
theorem and_lo (a : Int) (h0 : 0 ≤ a) (h1 : a ≤ 9223372036854775807) : ((BitVec.toNat (BitVec.ofInt 64 a &&& BitVec.ofInt 64 4294967295) : Nat) : Int) = a % 4294967296 := by
  obtain ⟨n, rfl⟩ : ∃ n : Nat, a = (n : Int) := ⟨a.toNat, by omega⟩
  rw [BitVec.toNat_and]
  have e1 : (BitVec.ofInt 64 (n : Int)).toNat = n := by
    rw [BitVec.toNat_ofInt]; omega
  have e2 : (BitVec.ofInt 64 4294967295).toNat = 2 ^ 32 - 1 := by decide
  rw [e1, e2, Nat.and_two_pow_sub_one_eq_mod]
  omega
theorem kMul (a : Int) (h0 : 0 ≤ a) (h1 : a ≤ 9223372036854775807) {K} (h : K (if a * 10 ≤ 9223372036854775807 then a * 10 else 0) (decide (a * 10 ≤ 9223372036854775807))) : Xnum_Mul a 10 K := by
  unfold Xnum_Mul Ynum_Mul Xnum_size Ynum_size Xmath_bits_Mul64 Ymath_bits_Mul64
  simp only [decide_eq_true_eq, lt]
  rw [if_neg (by omega), if_neg (by omega), wu64_in (n := a) h0 (by omega), wu64_in (n := 10) (by omega) (by omega)]
  have b0 : ((BitVec.toNat (BitVec.ofInt 64 10 &&& BitVec.ofInt 64 4294967295) : Nat) : Int) = 10 := by decide
  rw [and_lo a h0 h1, b0]
  have fd : ∀ x : Int, 0 ≤ x → Int.fdiv x 4294967296 = x / 4294967296 := fun x hx => Int.fdiv_eq_ediv_of_nonneg _ (by omega)
  have x0 : 0 ≤ a % 4294967296 ∧ a % 4294967296 < 4294967296 := by omega
  have x1 : 0 ≤ a / 4294967296 ∧ a / 4294967296 < 2147483648 := by omega
  rw [fd a h0, show Int.fdiv 10 4294967296 = 0 from by decide]
  generalize hA : a % 4294967296 = A at *
  generalize hB : a / 4294967296 = B at *
  have ha : a = B * 4294967296 + A := by omega
  rw [wu64_in (n := A) (by omega) (by omega), wu64_in (n := 10) (by omega) (by omega), wu64_in (n := A * 10) (by omega) (by omega), wu64_in (n := B * 10) (by omega) (by omega), Int.mul_zero, Int.mul_zero, wu64_in (n := 0) (by omega) (by omega)]
  rw [fd (A * 10) (by omega)]
  generalize hC : A * 10 / 4294967296 = C at *
  have hc : 0 ≤ C ∧ C ≤ 9 := by omega
  rw [wu64_in (n := B * 10 + C) (by omega) (by omega), and_lo (B * 10 + C) (by omega) (by omega), fd (B * 10 + C) (by omega)]
  generalize hD : (B * 10 + C) % 4294967296 = D at *
  generalize hE : (B * 10 + C) / 4294967296 = E at *
  have hd : 0 ≤ D ∧ D < 4294967296 := by omega
  have he : 0 ≤ E ∧ E ≤ 4 := by omega
  rw [wu64_in (n := D) (by omega) (by omega), Int.add_zero, wu64_in (n := D) (by omega) (by omega), fd D (by omega), Int.zero_add, wu64_in (n := E) (by omega) (by omega)]
  have hd0 : D / 4294967296 = 0 := by omega
  rw [hd0, Int.add_zero, wu64_in (n := E) (by omega) (by omega)]
  rw [if_neg (by simp; omega)]
  by_cases hE0 : E = 0
  · have hm : a * 10 ≤ 18446744073709551615 := by omega
    rw [if_neg (by simp [hE0]), wu64_in (n := a * 10) (by omega) hm]
    by_cases hx : a * 10 ≤ 9223372036854775807
    · rw [if_pos hx, decide_eq_true hx] at h
      rw [if_neg (by omega), w64_in (by omega) hx]; exact h
    · rw [if_neg hx, decide_eq_false hx] at h
      rw [if_pos (by omega)]; exact h
  · have hx : ¬ a * 10 ≤ 9223372036854775807 := by omega
    rw [if_neg hx, decide_eq_false hx] at h
    rw [if_pos (by simp [hE0])]; exact h
theorem foldl_ge : ∀ (b : List UInt8) (n : Nat), n ≤ b.foldl (fun n c => 10 * n + (c.toNat - 48)) n
  | [], n => Nat.le_refl _
  | c :: b, n => by
    rw [List.foldl_cons]
    have := foldl_ge b (10 * n + (c.toNat - 48))
    omega
theorem val_take (l : List UInt8) (n : Nat) (hn : n < l.length) : valL (l.take (n + 1)) = 10 * valL (l.take n) + (l[n].toNat - 48) := by
  unfold valL; rw [List.take_succ_eq_append_getElem hn, List.foldl_append]; rfl
theorem val_pre (l : List UInt8) (n : Nat) : valL (l.take n) ≤ valL l := by
  have : valL l = (l.drop n).foldl (fun n c => 10 * n + (c.toNat - 48)) (valL (l.take n)) := by
    unfold valL
    rw [← List.foldl_append, List.take_append_drop]
  rw [this]
  exact foldl_ge _ _
theorem kNumber (l : List UInt8) (hl : l.length ≤ 1000000) {K} (h : K (numL l).1 (numL l).2) : Xlines_Number (S l) K := by
  unfold Xlines_Number Ylines_Number
  rw [bytesV_S, B8_len]
  refine lp_ind (fun x => (l.length : Int).toNat - x.1.2.2.2.2.2.1.toNat) (fun x => ∃ n : Nat, n ≤ l.length ∧ (∀ c ∈ l.take n, isDig c = true) ∧ valL (l.take n) ≤ 9223372036854775807 ∧
    x = ((S l, (valL (l.take n) : Int), false, (), (l.length : Int), (n : Int), ()), B8 l, ())) ?_ ⟨0, by omega, by simp, by simp [valL], rfl⟩
  rintro x ⟨n, hn, hd, hv, rfl⟩ k hk
  unfold Llines_Number_0
  simp only [decide_eq_true_eq, B8_len, Int.toNat_natCast, S_size]
  by_cases e : n < l.length
  · have bad : numL l = (0, false) → K 0 false := fun hb => by rw [hb] at h; exact h
    rw [if_pos (by omega), if_pos (by omega)]
    refine asB8 e ?_
    have hc := u8_lt l[n]
    have w1 : w64 (w64 (l[n].toNat : Int) - 48) = (l[n].toNat : Int) - 48 := by rw [w64_in (n := (l[n].toNat : Int)) (by omega) (by omega), w64_in (by omega) (by omega)]
    rw [w1]
    have hdig : isDig l[n] = decide (48 ≤ l[n].toNat ∧ l[n].toNat ≤ 57) := by unfold isDig; simp
    have nod : isDig l[n] = false → numL l = (0, false) := fun hno => by
      unfold numL
      rw [if_neg]
      rintro ⟨_, h2, _⟩
      have := List.all_eq_true.1 h2 l[n] (List.getElem_mem e)
      rw [hno] at this; cases this
    refine kMul _ (by omega) (by omega) ?_
    by_cases hm : (valL (l.take n) : Int) * 10 ≤ 9223372036854775807
    · rw [if_pos hm, decide_eq_true hm]
      refine sadd _ _ (by omega) (by omega) ?_
      by_cases d1 : (l[n].toNat : Int) < 48
      · have g : isDig l[n] = false := by rw [hdig]; simp; omega
        have := bad (nod g)
        split <;> first | exact this | (rw [if_pos d1]; exact this)
      by_cases d2 : (l[n].toNat : Int) > 57
      · have g : isDig l[n] = false := by rw [hdig]; simp; omega
        have := bad (nod g)
        split <;> first | exact this | (rw [if_neg d1, if_pos d2]; exact this)
      have g : isDig l[n] = true := by rw [hdig]; simp; omega
      have hvt := val_take l n e
      split
      · rename_i hs
        rw [if_neg (by simp), if_neg (by simp)]
        refine hk _ ⟨n + 1, e, fun c hc => ?_, by omega, ?_⟩ ?_
        · rw [List.take_succ_eq_append_getElem e, List.mem_append, List.mem_singleton] at hc
          rcases hc with hc | rfl
          · exact hd c hc
          · exact g
        · have w2 : w64 ((n : Int) + 1) = ((n + 1 : Nat) : Int) := by rw [w64_in (by omega) (by omega)]; omega
          rw [w2]
          simp only [Prod.mk.injEq, true_and, and_true]
          omega
        · have w2 : w64 ((n : Int) + 1) = ((n + 1 : Nat) : Int) := by rw [w64_in (by omega) (by omega)]; omega
          simp only [w2]; omega
      · rename_i hs
        rw [if_neg (by simp), if_pos (by simp)]
        refine bad ?_
        unfold numL
        rw [if_neg]
        rintro ⟨_, _, h3⟩
        have := val_pre l (n + 1)
        omega
    · rw [if_neg hm, decide_eq_false hm]
      have big : numL l = (0, false) := by
        cases hdg : isDig l[n]
        · exact nod hdg
        · unfold numL
          rw [if_neg]
          rintro ⟨_, _, h3⟩
          have := val_pre l (n + 1)
          have := val_take l n e
          omega
      refine sadd _ _ (by omega) (by omega) ?_
      rw [if_pos (by omega)]
      repeat' split
      all_goals first | exact bad big | (exfalso; simp_all)
  · have : n = l.length := by omega
    subst this
    rw [if_neg (by omega)]
    rw [List.take_length] at *
    unfold numL at h
    by_cases hne : l = []
    · subst hne
      rw [if_neg (by simp)] at h
      simpa [valL] using h
    · have hl0 : 0 < l.length := List.length_pos_iff.2 hne
      rw [if_pos ⟨hne, List.all_eq_true.2 hd, hv⟩] at h
      have : decide ((l.length : Int) > 0) = true := by simp; omega
      rw [this]; exact h
end Go.Proofs.YtoiiblhbojhogaaGreatDoor
end
section
set_option linter.unusedVariables false
set_option linter.unusedSimpArgs false
namespace Go.Proofs.YtoiiblhbojhogaaGreatDoor
open Go Go.Proofs.YtoiiblhbojhogaaGreatDoor.Eng Go.Proofs.YtoiiblhbojhogaaGreatDoor.Pl
set_option linter.unusedVariables false
set_option linter.unusedSimpArgs false
set_option maxRecDepth 100000
set_option maxHeartbeats 2000000

def monT : ByteArray × ByteArray × ByteArray × ByteArray × ByteArray × ByteArray × ByteArray × ByteArray × ByteArray × ByteArray × ByteArray × ByteArray × Unit := (ByteArray.mk #[(106 : UInt8), (97 : UInt8), (110 : UInt8), (117 : UInt8), (97 : UInt8), (114 : UInt8), (121 : UInt8)], ByteArray.mk #[(102 : UInt8), (101 : UInt8), (98 : UInt8), (114 : UInt8), (117 : UInt8), (97 : UInt8), (114 : UInt8), (121 : UInt8)], ByteArray.mk #[(109 : UInt8), (97 : UInt8), (114 : UInt8), (99 : UInt8), (104 : UInt8)], ByteArray.mk #[(97 : UInt8), (112 : UInt8), (114 : UInt8), (105 : UInt8), (108 : UInt8)], ByteArray.mk #[(109 : UInt8), (97 : UInt8), (121 : UInt8)], ByteArray.mk #[(106 : UInt8), (117 : UInt8), (110 : UInt8), (101 : UInt8)], ByteArray.mk #[(106 : UInt8), (117 : UInt8), (108 : UInt8), (121 : UInt8)], ByteArray.mk #[(97 : UInt8), (117 : UInt8), (103 : UInt8), (117 : UInt8), (115 : UInt8), (116 : UInt8)], ByteArray.mk #[(115 : UInt8), (101 : UInt8), (112 : UInt8), (116 : UInt8), (101 : UInt8), (109 : UInt8), (98 : UInt8), (101 : UInt8), (114 : UInt8)], ByteArray.mk #[(111 : UInt8), (99 : UInt8), (116 : UInt8), (111 : UInt8), (98 : UInt8), (101 : UInt8), (114 : UInt8)], ByteArray.mk #[(110 : UInt8), (111 : UInt8), (118 : UInt8), (101 : UInt8), (109 : UInt8), (98 : UInt8), (101 : UInt8), (114 : UInt8)], ByteArray.mk #[(100 : UInt8), (101 : UInt8), (99 : UInt8), (101 : UInt8), (109 : UInt8), (98 : UInt8), (101 : UInt8), (114 : UInt8)], ())
theorem month_at (n : Nat) (h : n < 12) {F : Prop} {K : ByteArray → Prop} (hk : K (S (monNames.getD n []))) : Eng.asStr ([Eng.V.c (Value.string monT.1), Eng.V.c (Value.string monT.2.1), Eng.V.c (Value.string monT.2.2.1), Eng.V.c (Value.string monT.2.2.2.1), Eng.V.c (Value.string monT.2.2.2.2.1), Eng.V.c (Value.string monT.2.2.2.2.2.1), Eng.V.c (Value.string monT.2.2.2.2.2.2.1), Eng.V.c (Value.string monT.2.2.2.2.2.2.2.1), Eng.V.c (Value.string monT.2.2.2.2.2.2.2.2.1), Eng.V.c (Value.string monT.2.2.2.2.2.2.2.2.2.1), Eng.V.c (Value.string monT.2.2.2.2.2.2.2.2.2.2.1), Eng.V.c (Value.string monT.2.2.2.2.2.2.2.2.2.2.2.1)][n * (1 : Nat)]?) F K := by
  rcases (show n = 0 ∨ n = 1 ∨ n = 2 ∨ n = 3 ∨ n = 4 ∨ n = 5 ∨ n = 6 ∨ n = 7 ∨ n = 8 ∨ n = 9 ∨ n = 10 ∨ n = 11 by omega) with rfl | rfl | rfl | rfl | rfl | rfl | rfl | rfl | rfl | rfl | rfl | rfl <;> exact hk
theorem kNames {K} (h : K monT) : Xzic_names K := h
theorem kMonth (s : List UInt8) (hl : s.length ≤ 1000000) {K} (h : K (monthL s).1 (monthL s).2) : Xzic_Month (S s) K := by
  unfold Xzic_Month Yzic_Month
  refine kFold s hl (kNames ?_)
  refine lp_ind (fun x => 12 - x.1.2.2.2.2.1.toNat) (fun x => ∃ n : Nat, n ≤ 12 ∧ monG (foldLw s) n (monNames.drop n) = monthL s ∧ x = ((0, false, S (foldLw s), monT, (n : Int), ()), ())) ?_ ⟨0, by omega, rfl, rfl⟩
  rintro x ⟨n, hn, hm, rfl⟩ k hk
  unfold Lzic_Month_0
  dsimp only
  rw [Int.toNat_natCast]
  have len : monNames.length = 12 := rfl
  by_cases e : n < 12
  · rw [if_pos (by simp; omega), if_pos (by omega)]
    refine month_at n e ?_
    have hd : monNames.drop n = monNames.getD n [] :: monNames.drop (n + 1) := by
      rw [getD_in _ _ _ (by rw [len]; exact e)]; exact List.drop_eq_getElem_cons _
    rw [hd, monG] at hm
    have w1 : w64 ((n : Int) + 1) = ((n + 1 : Nat) : Int) := by rw [w64_in (by omega) (by omega)]; omega
    have w2 : w64 ((n : Int) + 1) = (n : Int) + 1 := by rw [w64_in (by omega) (by omega)]
    have go : monG (foldLw s) (n + 1) (monNames.drop (n + 1)) = monthL s → k ((0, false, S (foldLw s), monT, w64 ((n : Int) + 1), ()), ()) := fun hg => by
      rw [w1]
      exact hk _ ⟨n + 1, e, hg, rfl⟩ (by show 12 - Int.toNat ((n + 1 : Nat) : Int) < 12 - Int.toNat (n : Int); omega)
    rw [S_size]
    by_cases h2 : (foldLw s).length > 2
    · rw [if_pos (by simp; omega)]
      refine kPre _ _ ?_
      cases hp : preB (monNames.getD n []) (foldLw s)
      · rw [if_neg (by simp)]
        rw [if_neg (by rw [hp]; simp)] at hm
        exact go hm
      · rw [if_pos rfl]
        rw [if_pos (by rw [hp]; simp; omega)] at hm
        rw [← hm] at h
        rw [w2]; exact h
    · rw [if_neg (by simp; omega)]
      rw [if_neg (by simp; omega)] at hm
      exact go hm
  · rw [if_neg (by simp; omega)]
    have : n = 12 := by omega
    subst this
    rw [show monNames.drop 12 = [] from rfl, monG] at hm
    rw [← hm] at h; exact h
theorem kSecond (a b c : Int) (ha : 0 ≤ a ∧ a ≤ 99) (hb : 0 ≤ b ∧ b ≤ 99) (hc : 0 ≤ c ∧ c ≤ 99) {K} (h : K (secondL a b c).1 (secondL a b c).2) : Xstamp_Second a b c K := by
  unfold Xstamp_Second Ystamp_Second
  simp only [beq_iff_eq, decide_eq_true_eq, lt]
  have e1 : w64 (w64 (a * 60) + b) = a * 60 + b := by rw [w64_in (n := a * 60) (by omega) (by omega), w64_in (by omega) (by omega)]
  have e2 : w64 (w64 ((a * 60 + b) * 60) + c) = a * 3600 + b * 60 + c := by rw [w64_in (n := (a * 60 + b) * 60) (by omega) (by omega), w64_in (by omega) (by omega)]; omega
  rw [e1, e2]
  have rest : ¬ (a = 23 ∧ b = 59 ∧ c = 60) → (if (if c < if b < a then b else a then c else if b < a then b else a) < 0 then K 0 false else if a > 23 then K 0 false else if b > 59 then K 0 false else if c > 59 then K 0 false else K (a * 3600 + b * 60 + c) true) := fun hno => by
    unfold secondL at h
    rw [if_neg hno] at h
    rw [if_neg (by split <;> split at * <;> omega)]
    by_cases a1 : a > 23
    · rw [if_neg (by omega)] at h; rw [if_pos a1]; exact h
    rw [if_neg a1]
    by_cases b1 : b > 59
    · rw [if_neg (by omega)] at h; rw [if_pos b1]; exact h
    rw [if_neg b1]
    by_cases c1 : c > 59
    · rw [if_neg (by omega)] at h; rw [if_pos c1]; exact h
    rw [if_neg c1]
    rw [if_pos (by omega)] at h; exact h
  by_cases a1 : a = 23
  · rw [if_pos a1]
    by_cases b1 : b = 59
    · rw [if_pos b1]
      by_cases c1 : c = 60
      · unfold secondL at h
        rw [if_pos ⟨a1, b1, c1⟩] at h
        rw [if_pos c1]; exact h
      · rw [if_neg c1]; exact rest (by omega)
    · rw [if_neg b1]; exact rest (by omega)
  · rw [if_neg a1]; exact rest (by omega)
theorem kClock (s : List UInt8) (hl : s.length ≤ 1000000) {K} (h : K (zclockL s).1 (zclockL s).2) : Xzic_Clock (S s) K := by
  unfold Xzic_Clock Yzic_Clock
  refine kSplitN s 58 3 (by omega) (by omega) hl ?_
  obtain ⟨p1, p2, p3⟩ := splN_len 58 2 s
  unfold zclockL at h
  rw [show 3 - 1 = 2 from rfl]
  generalize splN 58 2 s = ws at *
  rw [WV_len]
  by_cases e : ws.length = 3
  · obtain ⟨a, b, c, rfl⟩ : ∃ a b c, ws = [a, b, c] := by
      match ws, e with
      | [a, b, c], _ => exact ⟨a, b, c, rfl⟩
    dsimp only at h
    rw [if_neg (by simp)]
    have bad : ∀ n, n < 3 → two ([a, b, c].getD n []) = false → K 0 false := fun n hn hb => by
      rw [if_neg] at h
      · exact h
      · intro hh
        simp only [Bool.and_eq_true] at hh
        rcases (show n = 0 ∨ n = 1 ∨ n = 2 by omega) with rfl | rfl | rfl
        · have := hh.1.1; rw [show [a, b, c].getD 0 [] = a from rfl] at hb; rw [hb] at this; cases this
        · have := hh.1.2; rw [show [a, b, c].getD 1 [] = b from rfl] at hb; rw [hb] at this; cases this
        · have := hh.2; rw [show [a, b, c].getD 2 [] = c from rfl] at hb; rw [hb] at this; cases this
    refine lp_ind (fun x => 3 - x.1.2.2.2.2.2.1.toNat) (fun x => ∃ n : Nat, n ≤ 3 ∧ (∀ i, i < n → two ([a, b, c].getD i []) = true) ∧
      x = ((0, false, (), (), (3 : Int), (n : Int), ()), agL .i64 3 (fun i => if i < n then (numL ([a, b, c].getD i [])).1 else 0), (WV [a, b, c], true, false), ())) ?_ ⟨0, by omega, by omega, by simp [agL, List.range, List.range.loop]⟩
    rintro x ⟨n, hn, ht, rfl⟩ k hk
    unfold Lzic_Clock_0
    dsimp only
    rw [Int.toNat_natCast, WV_len, agL_len]
    by_cases en : n < 3
    · rw [if_pos (by simp; omega), if_pos (by simp; omega)]
      refine asWd (by simpa using en) ?_
      have hlen : ([a, b, c].getD n []).length ≤ s.length := by
        rw [getD_in _ _ _ (by simpa using en)]; exact p3 _ (List.getElem_mem _)
      refine kNumber _ (by omega) ?_
      cases hnum : (numL ([a, b, c].getD n [])).2
      · rw [if_pos (by simp)]
        exact bad n en (by unfold two; rw [hnum]; rfl)
      rw [if_neg (by simp), S_size]
      by_cases h2 : ([a, b, c].getD n []).length ≤ 2
      · rw [if_neg (dneg (by omega)), if_pos (by omega), if_pos (by omega), if_pos (by rw [List.length_singleton]; omega)]
        simp only [lt]
        have w1 : w64 ((n : Int) + 1) = ((n + 1 : Nat) : Int) := by rw [w64_in (by omega) (by omega)]; omega
        rw [show 0 + n * 1 = n by omega, agL_set en, w1]
        refine hk _ ⟨n + 1, en, fun i hi => ?_, ?_⟩ (by show 3 - Int.toNat ((n + 1 : Nat) : Int) < 3 - Int.toNat (n : Int); omega)
        · by_cases ei : i = n
          · subst ei; unfold two; rw [hnum, decide_eq_true h2]; rfl
          · exact ht i (by omega)
        · rw [agL_congr (g := fun i => if i < n + 1 then (numL ([a, b, c].getD i [])).1 else 0)]
          intro i hi
          unfold updF
          dsimp only
          by_cases ei : i = n
          · subst ei; rw [if_pos rfl, if_pos (by omega)]
          · rw [if_neg ei]
            by_cases hin : i < n
            · rw [if_pos hin, if_pos (by omega)]
            · rw [if_neg hin, if_neg (by omega)]
      · rw [if_pos (decide_eq_true (by omega))]
        exact bad n en (by unfold two; rw [decide_eq_false h2, Bool.and_false])
    · have : n = 3 := by omega
      subst this
      rw [if_neg (by simp)]
      refine asI (by omega) (asI (by omega) (asI (by omega) ?_))
      have ta := ht 0 (by omega)
      have tb := ht 1 (by omega)
      have tc := ht 2 (by omega)
      rw [show [a, b, c].getD 0 [] = a from rfl] at ta
      rw [show [a, b, c].getD 1 [] = b from rfl] at tb
      rw [show [a, b, c].getD 2 [] = c from rfl] at tc
      rw [if_pos (by rw [ta, tb, tc]; rfl)] at h
      exact kSecond _ _ _ (two_bd ta) (two_bd tb) (two_bd tc) h
  · have : ∀ {α : Type} (x : α) (f : List UInt8 → List UInt8 → List UInt8 → α), (match ws with | [a, b, c] => f a b c | _ => x) = x := fun x f => by
      match ws, e with
      | [], _ => rfl
      | [_], _ => rfl
      | [_, _], _ => rfl
      | _ :: _ :: _ :: _ :: _, _ => rfl
    rw [if_pos (by simp; omega)]
    match ws, e with
    | [], _ => exact h
    | [_], _ => exact h
    | [_, _], _ => exact h
    | _ :: _ :: _ :: d :: r, _ => simp at p1
theorem kDate (kind : Int) (ws : List (List UInt8)) (h5 : 5 ≤ ws.length) (hl : ∀ w ∈ ws, w.length ≤ 1000000) {K}
    (h : K (tupRow (dateW kind (ws.getD 1 []) (ws.getD 2 []) (ws.getD 3 []) (ws.getD 4 [])).1) (dateW kind (ws.getD 1 []) (ws.getD 2 []) (ws.getD 3 []) (ws.getD 4 [])).2) : Xzic_date kind (WV ws) K := by
  unfold Xzic_date Yzic_date
  have hw : ∀ i, i < ws.length → (ws.getD i []).length ≤ 1000000 := fun i hi => by rw [getD_in _ _ _ hi]; exact hl _ (List.getElem_mem _)
  simp only [WV_len]
  rw [if_pos (by omega)]
  refine asWd (by omega) (kNumber _ (hw 1 (by omega)) ?_)
  rw [if_pos (by omega)]
  refine asWd (by omega) (kMonth _ (hw 2 (by omega)) ?_)
  rw [if_pos (by omega)]
  refine asWd (by omega) (kNumber _ (hw 3 (by omega)) ?_)
  rw [if_pos (by omega)]
  refine asWd (by omega) (kClock _ (hw 4 (by omega)) ?_)
  unfold dateW tupRow at h
  dsimp only at h
  cases h1 : (numL (ws.getD 1 [])).2 <;> cases h2 : (monthL (ws.getD 2 [])).2 <;> cases h3 : (numL (ws.getD 3 [])).2 <;> rw [h1, h2, h3] at h <;> simpa using h
theorem kRoll (s : List UInt8) (hl : s.length ≤ 1000000) {K} (h : K (rollL s).1 (rollL s).2) : Xzic_roll (S s) K := by
  unfold Xzic_roll Yzic_roll
  refine kFold s hl (kPre [114, 111, 108, 108, 105, 110, 103] _ ?_)
  unfold rollL at h
  cases hp : preB [114, 111, 108, 108, 105, 110, 103] (foldLw s)
  · rw [if_neg (by simp)]
    rw [if_neg (by rw [hp]; simp)] at h
    exact kPre [115, 116, 97, 116, 105, 111, 110, 97, 114, 121] _ h
  · rw [if_pos rfl]
    rw [if_pos hp] at h; exact h
theorem kRead (ws : List (List UInt8)) (h1 : 1 ≤ ws.length) (hl : ∀ w ∈ ws, w.length ≤ 1000000) {K} (h : K (tupRow (readW ws).1) (readW ws).2) : Xzic_read (WV ws) K := by
  unfold Xzic_read Yzic_read
  have hw : ∀ i, i < ws.length → (ws.getD i []).length ≤ 1000000 := fun i hi => by rw [getD_in _ _ _ hi]; exact hl _ (List.getElem_mem _)
  simp only [WV_len]
  rw [if_pos (by omega)]
  refine asWd (by omega) (kFold _ (hw 0 (by omega)) ?_)
  rw [kS_eq _ [108, 101, 97, 112]]
  simp only [lt, kS_eq _ [101, 120, 112, 105, 114, 101, 115], beq_iff_eq]
  unfold readW at h
  have no : ¬ (foldLw (ws.getD 0 []) = [108, 101, 97, 112] ∧ ws.length = 7) → (if foldLw (ws.getD 0 []) = [101, 120, 112, 105, 114, 101, 115] then
      (if (ws.length : Int) = 5 then Xzic_date 1 (WV ws) fun r10 r11 => K r10 r11 else K (0, 0, 0, 0, 0, ByteArray.mk #[], false, ()) false) else K (0, 0, 0, 0, 0, ByteArray.mk #[], false, ()) false) := fun hno => by
    rw [if_neg hno] at h
    by_cases e1 : foldLw (ws.getD 0 []) = [101, 120, 112, 105, 114, 101, 115]
    · rw [if_pos e1]
      by_cases e2 : ws.length = 5
      · rw [if_pos ⟨e1, e2⟩] at h
        rw [if_pos (by omega)]
        exact kDate 1 ws (by omega) hl h
      · rw [if_neg (fun hh => e2 hh.2)] at h
        rw [if_neg (by omega)]; exact h
    · rw [if_neg (fun hh => e1 hh.1)] at h
      rw [if_neg e1]; exact h
  by_cases e1 : foldLw (ws.getD 0 []) = [108, 101, 97, 112]
  · rw [if_pos e1]
    by_cases e2 : ws.length = 7
    · rw [if_pos ⟨e1, e2⟩] at h
      rw [if_pos (by omega)]
      refine kDate 0 ws (by omega) hl ?_
      rw [if_pos (by omega)]
      refine asWd (by omega) (kRoll _ (hw 6 (by omega)) ?_)
      rw [if_pos (by omega)]
      refine asWd (by omega) ?_
      simp only [S_toList]
      dsimp only at h
      unfold tupRow at h ⊢
      dsimp only at h ⊢
      generalize ws.getD 5 [] = w5 at h ⊢
      by_cases g1 : w5 = [43]
      · rw [if_pos (by simp [g1]), if_pos (by simp [g1])]
        cases hd : (dateW 0 (ws.getD 1 []) (ws.getD 2 []) (ws.getD 3 []) (ws.getD 4 [])).2
        · rw [if_neg (by simp)]
          rw [hd] at h; simpa [g1] using h
        · rw [if_pos rfl]
          rw [hd] at h; simpa [g1] using h
      · rw [if_neg (by simp [g1])]
        by_cases g2 : w5 = [45]
        · rw [if_pos (by simp [g2])]
          cases hd : (dateW 0 (ws.getD 1 []) (ws.getD 2 []) (ws.getD 3 []) (ws.getD 4 [])).2
          · rw [if_neg (by simp)]
            rw [hd] at h; simpa [g2] using h
          · rw [if_pos rfl]
            rw [hd] at h; simpa [g2] using h
        · rw [if_neg (by simp [g2])]
          rw [show (decide (w5 = [43] ∨ w5 = [45])) = false by simp [g1, g2]] at h
          simpa using h
    · rw [if_neg (by omega)]
      exact no (fun hh => e2 hh.2)
  · rw [if_neg e1]
    exact no (fun hh => e1 hh.1)
end Go.Proofs.YtoiiblhbojhogaaGreatDoor
end
section
set_option linter.unusedVariables false
set_option linter.unusedSimpArgs false
namespace Go.Proofs.YtoiiblhbojhogaaGreatDoor
open Go Go.Proofs.YtoiiblhbojhogaaGreatDoor.Eng Go.Proofs.YtoiiblhbojhogaaGreatDoor.Pl
set_option linter.unusedVariables false
set_option linter.unusedSimpArgs false
set_option maxRecDepth 100000
set_option maxHeartbeats 2000000

theorem kEnd (n : Int) {K} (h : K (endD n)) : Xday_End n K := by
  unfold Xday_End Yday_End
  refine sday n ?_
  unfold endD at h
  by_cases e : -719162 ≤ n ∧ n ≤ 2932896
  · rw [if_pos e]
    rw [decide_eq_true e, Bool.true_and] at h
    refine slast _ _ ?_
    obtain ⟨⟨v1, v2, v3, v4, _⟩, _⟩ := num_date e.1 e.2
    rw [if_pos rfl, if_pos ⟨v1, v2, v3, v4⟩]; exact h
  · rw [if_neg e]
    rw [decide_eq_false e, Bool.false_and] at h
    refine slast _ _ ?_
    rw [if_neg (by simp)]; exact h
theorem kWrong (k : Nat) (l : LR) (ahead : Int) {K} (h : K (wrongL k l ahead)) : Xleap_wrong (k : Int) (l.1, l.2.1, l.2.2, ()) ahead K := by
  unfold Xleap_wrong Yleap_wrong
  unfold wrongL at h
  dsimp only
  simp only [decide_eq_true_eq, bne_iff_ne, ne_eq]
  by_cases h1 : 200 ≤ k
  · rw [if_pos h1] at h; rw [if_pos (by omega)]; exact h
  rw [if_neg h1] at h; rw [if_neg (by omega)]
  have rest : ¬ (l.1 < 730 ∨ 2932896 ≤ l.1) → Xday_End l.1 (fun r => if (!r) = true then K 5 else if ¬ l.2.1 = 1 then (if ¬ l.2.1 = -1 then K 6 else if l.1 ≤ ahead then K 4 else K 0) else if l.1 ≤ ahead then K 4 else K 0) := fun h2 => by
    rw [if_neg h2] at h
    refine kEnd _ ?_
    cases he : endD l.1
    · rw [if_pos he] at h; exact h
    · rw [if_neg (by simp [he])] at h
      rw [if_neg (by simp)]
      by_cases s1 : l.2.1 = 1
      · rw [if_neg (by omega)] at h; rw [if_neg (by omega)]
        by_cases h4 : l.1 ≤ ahead
        · rw [if_pos h4] at h; rw [if_pos h4]; exact h
        · rw [if_neg h4] at h; rw [if_neg h4]; exact h
      · rw [if_pos s1]
        by_cases s2 : l.2.1 = -1
        · rw [if_neg (by omega)] at h; rw [if_neg (by omega)]
          by_cases h4 : l.1 ≤ ahead
          · rw [if_pos h4] at h; rw [if_pos h4]; exact h
          · rw [if_neg h4] at h; rw [if_neg h4]; exact h
        · rw [if_pos ⟨s1, s2⟩] at h; rw [if_pos s2]; exact h
  by_cases h2 : l.1 < 730
  · rw [if_pos (.inl h2)] at h
    rw [if_pos h2, if_pos h2]; exact h
  rw [if_neg h2]
  by_cases h3 : l.1 ≥ 2932896
  · rw [if_pos (.inr h3)] at h
    rw [if_pos h3]; exact h
  rw [if_neg h3]
  exact rest (by omega)
theorem kCheck (t : Tb) (hl : t.ls.length ≤ 1000000) {K} (h : K ((checkT t).1 : Int) (checkT t).2) : Xleap_Check (TLV t.ls, t.has, t.ex, ()) K := by
  unfold Xleap_Check Yleap_Check
  rw [TLV_len]
  unfold checkT at h
  refine lp_ind (fun x => t.ls.length - x.1.2.2.2.2.2.2.1.toNat) (fun x => ∃ (j : Nat) (a : Int), j ≤ t.ls.length ∧ 729 ≤ a ∧ a ≤ 2932896 ∧ checkG j a (t.ls.drop j) = checkG 0 729 t.ls ∧
    x = (((), 0, 0, a, TLV t.ls, (t.ls.length : Int), (j : Int), ()), (TLV t.ls, t.has, t.ex, ()), ())) ?_ ⟨0, 729, by omega, by omega, by omega, rfl, rfl⟩
  rintro x ⟨j, a, hj, ha, ha', hc, rfl⟩ k hk
  unfold Lleap_Check_0
  dsimp only
  rw [TLV_len, Int.toNat_natCast]
  by_cases e : j < t.ls.length
  · rw [if_pos (decide_eq_true (by omega)), if_pos (by omega)]
    refine asL1 e (asL2 e (asL3 e ?_))
    refine kWrong j (t.ls[j]) a ?_
    rw [List.drop_eq_getElem_cons e, checkG] at hc
    by_cases hw : wrongL j t.ls[j] a = 0
    · rw [if_neg (by simp [hw])]
      rw [if_neg (by simp [hw])] at hc
      obtain ⟨_, q1, q2, _⟩ := wrongL_0 hw
      have w1 : w64 ((j : Int) + 1) = ((j + 1 : Nat) : Int) := by rw [w64_in (by omega) (by omega)]; omega
      rw [w1]
      exact hk _ ⟨j + 1, _, e, by omega, by omega, hc, rfl⟩ (by show t.ls.length - Int.toNat ((j + 1 : Nat) : Int) < t.ls.length - Int.toNat (j : Int); omega)
    · rw [if_pos (by simpa using hw)]
      rw [if_pos hw] at hc
      rw [← hc, if_pos hw] at h
      exact h
  · rw [if_neg (dneg (by omega))]
    have : j = t.ls.length := by omega
    subst this
    rw [List.drop_length, checkG] at hc
    rw [← hc, if_neg (by simp)] at h
    unfold expB at h
    simp only [lt]
    have w1 : w64 (w64 (a + 1) * 86400) = (a + 1) * 86400 := by rw [w64_in (n := a + 1) (by omega) (by omega), w64_in (by omega) (by omega)]
    rw [w1]
    cases hh : t.has
    · rw [hh] at h
      rw [if_neg (by simp)]
      rw [if_neg (by simp)] at h
      by_cases h1 : t.ex < 0
      · rw [if_pos (decide_eq_true h1)]
        rw [if_pos (by omega)] at h; exact h
      rw [if_neg (dneg h1)]
      by_cases h2 : t.ex > 0
      · rw [if_pos (decide_eq_true h2)]
        rw [if_pos (by omega)] at h; exact h
      rw [if_neg (dneg h2)]
      rw [if_neg (by omega)] at h; exact h
    · rw [hh, if_pos rfl] at h
      rw [if_pos rfl]
      generalize (if 63072000 > (a + 1) * 86400 then 63072000 else (a + 1) * 86400) = M at *
      by_cases h1 : t.ex < M
      · rw [if_pos (decide_eq_true h1)]
        rw [if_pos (.inl h1)] at h; exact h
      rw [if_neg (dneg h1)]
      by_cases h2 : t.ex > 253402300799
      · rw [if_pos (decide_eq_true h2)]
        rw [if_pos (.inr h2)] at h; exact h
      rw [if_neg (dneg h2)]
      rw [if_neg (by omega)] at h; exact h
theorem kRightT (t : Tb) (hl : t.ls.length ≤ 1000000) {K} (h : K (rightT t)) : Xleap_Right (TLV t.ls, t.has, t.ex, ()) K := by
  unfold Xleap_Right Yleap_Right
  exact kCheck t hl h
theorem kClone (xs : List V) (hl : xs.length ≤ 1000000) {K} (h : ∀ f, K xs true f) : Xslices_Clone___api_Leap_api_Leap_ xs K := by
  unfold Xslices_Clone___api_Leap_api_Leap_ Yslices_Clone___api_Leap_api_Leap_
  have hr : Eng.roomOk (0 + xs.length) 24 = true := by unfold roomOk; rw [decide_eq_true_eq]; omega
  rw [if_pos hr, List.nil_append]
  by_cases e : xs.length = 0
  · rw [if_pos e]
    have : xs = [] := List.length_eq_zero_iff.1 e
    subst this
    exact ⟨h _, h _⟩
  · rw [if_neg e]; exact h _
theorem kAdd (t : Tb) (l : LR) (hl : t.ls.length ≤ 100000) {K} (h : ∀ o f, K ((), t.has, t.ex, ()) (addT t l).2 (TLV (addT t l).1.ls) o f) : Xleap_Add (TLV t.ls, t.has, t.ex, ()) (l.1, l.2.1, l.2.2, ()) K := by
  unfold Xleap_Add Yleap_Add
  refine dup_of ?_
  refine kClone _ (by rw [TLV_len]; omega) fun f => ?_
  dsimp only
  rw [if_pos rfl, if_pos (by unfold roomOk; rw [decide_eq_true_eq, TLV_len, List.length_singleton]; omega)]
  simp only [lt]
  have e1 : TLV t.ls ++ [Eng.V.agg [Eng.V.c (Value.int IntKind.i64 l.1), Eng.V.c (Value.int IntKind.i64 l.2.1), Eng.V.c (Value.bool l.2.2)]] = TLV (t.ls ++ [l]) := by simp [TLV, eLR]
  rw [e1]
  refine kCheck ⟨t.ls ++ [l], t.has, t.ex⟩ (by simp; omega) ?_
  unfold addT at h
  by_cases hc : (checkT ⟨t.ls ++ [l], t.has, t.ex⟩).2 = 0
  · rw [if_neg (by simp [hc])]
    simp only [hc] at h
    exact h _ _
  · rw [if_pos (by simpa using hc), if_pos ⟨by omega, trivial, by rw [TLV_len, TLV_len, List.length_append]; omega⟩]
    simp only [if_pos hc] at h
    have e2 : List.take (Int.toNat ((TLV t.ls).length : Int)) (TLV (t.ls ++ [l])) = TLV t.ls := by
      rw [← e1, Int.toNat_natCast]; simp
    rw [e2]; exact h _ _
end Go.Proofs.YtoiiblhbojhogaaGreatDoor
end
section
set_option linter.unusedVariables false
set_option linter.unusedSimpArgs false
namespace Go.Proofs.YtoiiblhbojhogaaGreatDoor
open Go Go.Proofs.YtoiiblhbojhogaaGreatDoor.Eng Go.Proofs.YtoiiblhbojhogaaGreatDoor.Pl
set_option linter.unusedVariables false
set_option linter.unusedSimpArgs false
set_option maxRecDepth 100000
set_option maxHeartbeats 2000000

theorem kSrcLeap (s : Src) (r : Row) (n : Int) (hl : s.ls.length ≤ 100000) {K} (h : ∀ o f, K (leapW s r n).2 false 0 s.at' s.til (TLV (leapW s r n).1.ls) o f) :
    Xzic_source_leap (tupRow r) n (TLV s.ls) false 0 s.at' s.til K := by
  unfold Xzic_source_leap Yzic_source_leap tupRow
  dsimp only
  rw [kS_eq _ [43], kS_eq _ [45]]
  unfold leapW at h
  have minus : ¬ (r.sign = [43] ∧ r.sec = 86400) → (if (r.sign == [45]) = true then
      (if (r.sec == 86399) = true then Xleap_Add (TLV s.ls, false, 0, ()) (n, (-1), r.roll, ()) (fun r7 r8 r9 r10 r11 => K r8 r7.2.1 r7.2.2.1 s.at' s.til r9 r10 r11) else K 6 false 0 s.at' s.til (TLV s.ls) false true)
      else K 6 false 0 s.at' s.til (TLV s.ls) false true) := fun hno => by
    simp only [if_neg hno] at h
    by_cases h1 : r.sign = [45]
    · rw [if_pos (by simp [h1])]
      by_cases h2 : r.sec = 86399
      · rw [if_pos (by simp [h2])]
        simp only [if_pos (show r.sign = [45] ∧ r.sec = 86399 from ⟨h1, h2⟩)] at h
        exact kAdd ⟨s.ls, false, 0⟩ (n, -1, r.roll) hl h
      · rw [if_neg (by simp [h2])]
        simp only [if_neg (show ¬ (r.sign = [45] ∧ r.sec = 86399) from fun hh => h2 hh.2)] at h
        exact h _ _
    · rw [if_neg (by simp [h1])]
      simp only [if_neg (show ¬ (r.sign = [45] ∧ r.sec = 86399) from fun hh => h1 hh.1)] at h
      exact h _ _
  by_cases h1 : r.sign = [43]
  · rw [if_pos (by simp [h1])]
    by_cases h2 : r.sec = 86400
    · rw [if_pos (by simp [h2])]
      simp only [if_pos (show r.sign = [43] ∧ r.sec = 86400 from ⟨h1, h2⟩)] at h
      exact kAdd ⟨s.ls, false, 0⟩ (n, 1, r.roll) hl h
    · rw [if_neg (by simp [h2])]
      exact minus (fun hh => h2 hh.2)
  · rw [if_neg (by simp [h1])]
    exact minus (fun hh => h1 hh.1)
theorem kSrcLine (s : Src) (no : Nat) (ws : List (List UInt8)) (h1 : 1 ≤ ws.length) (hw : ∀ w ∈ ws, w.length ≤ 1000000) (hl : s.ls.length ≤ 100000) {K}
    (h : ∀ o f, K (lineW s no ws).2 false 0 (lineW s no ws).1.at' (lineW s no ws).1.til (TLV (lineW s no ws).1.ls) o f) : Xzic_source_line (no : Int) (WV ws) (TLV s.ls) false 0 s.at' s.til K := by
  unfold Xzic_source_line Yzic_source_line
  refine kRead ws h1 hw ?_
  obtain ⟨b1, b2, b3, b4⟩ := readW_bd ws
  unfold lineW at h
  generalize readW ws = rr at *
  obtain ⟨r, ok⟩ := rr
  dsimp only at h b1 b2 b3 b4
  have e1 : (tupRow r).2.1 = r.y := rfl
  have e2 : (tupRow r).2.2.1 = r.m := rfl
  have e3 : (tupRow r).2.2.2.1 = r.d := rfl
  have e4 : (tupRow r).1 = r.kind := rfl
  have e5 : (tupRow r).2.2.2.2.1 = r.sec := rfl
  rw [e1, e2, e3, e4, e5]
  refine snum _ _ _ (by omega) b4 ?_
  have hd : dayN r.y r.m r.d = if okD r.y r.m r.d then some (num r.y r.m r.d) else none := rfl
  rw [hd] at h
  cases ok
  · rw [if_pos (show (!false) = true from rfl), if_pos (show (!false) = true from rfl)]
    simp only [true_or, if_true] at h
    exact h _ _
  rw [if_neg (by simp)]
  have rest : ¬ (r.kind = 1 ∧ s.at' > 0) → (if (!decide (okD r.y r.m r.d)) = true then K 9 false 0 s.at' s.til (TLV s.ls) false true else
      if (r.kind == 0) = true then Xzic_source_leap (tupRow r) (if okD r.y r.m r.d then num r.y r.m r.d else 0) (TLV s.ls) false 0 s.at' s.til (fun r20 r21 r22 r23 r24 r25 r26 r27 => K r20 r21 r22 r23 r24 r25 r26 r27)
      else if (r.sec == 86400) = true then K 9 false 0 s.at' s.til (TLV s.ls) false true
      else K 0 false 0 (no : Int) (w64 (w64 ((if okD r.y r.m r.d then num r.y r.m r.d else 0) * 86400) + r.sec)) (TLV s.ls) false true) := fun hno => by
    simp only [Bool.true_eq_false, false_or, if_neg hno] at h
    by_cases hk : okD r.y r.m r.d
    · simp only [if_pos hk] at h ⊢
      rw [if_neg (by simp [hk])]
      by_cases k0 : r.kind = 0
      · rw [if_pos (by simp [k0])]
        simp only [if_pos k0] at h
        refine kSrcLeap s r _ hl ?_
        have hat : (leapW s r (num r.y r.m r.d)).1.at' = s.at' ∧ (leapW s r (num r.y r.m r.d)).1.til = s.til := by
          unfold leapW; split
          · exact ⟨rfl, rfl⟩
          · split <;> exact ⟨rfl, rfl⟩
        rw [hat.1, hat.2] at h
        exact h
      · rw [if_neg (by simp [k0])]
        simp only [if_neg k0] at h
        by_cases s0 : r.sec = 86400
        · rw [if_pos (by simp [s0])]
          simp only [if_pos s0] at h
          exact h _ _
        · rw [if_neg (by simp [s0])]
          simp only [if_neg s0] at h
          have nr := num_range (show Vld r.y r.m r.d from hk)
          rw [w64_in (n := num r.y r.m r.d * 86400) (by omega) (by omega), w64_in (by omega) (by omega)]
          exact h _ _
    · simp only [if_neg hk] at h
      rw [if_pos (by simp [hk])]
      exact h _ _
  simp only [lt]
  by_cases k1 : r.kind = 1
  · rw [if_pos (by simp [k1])]
    by_cases a1 : s.at' > 0
    · rw [if_pos (decide_eq_true a1)]
      simp only [if_pos (show (true = false ∨ (r.kind = 1 ∧ s.at' > 0)) from .inr ⟨k1, a1⟩)] at h
      exact h _ _
    · rw [if_neg (dneg a1)]
      exact rest (fun hh => a1 hh.2)
  · rw [if_neg (by simp [k1])]
    exact rest (fun hh => k1 hh.1)
theorem bare_len (l : List UInt8) : (bareL l).length ≤ l.length := by unfold bareL; simp; omega
theorem lineW_at (s : Src) (no : Nat) (w : List (List UInt8)) (h : 0 ≤ s.at' ∧ s.at' ≤ no) : 0 ≤ (lineW s no w).1.at' ∧ (lineW s no w).1.at' ≤ no := by
  unfold lineW
  split
  · exact h
  · split
    · exact h
    · split
      · unfold leapW
        split
        · exact h
        · split <;> exact h
      · split
        · exact h
        · exact ⟨by simp, by simp⟩
theorem kParse (s : List UInt8) (hs : s.length ≤ 90000) {K} (h : ∀ o f, K ((), (zparseL s).1.has, (zparseL s).1.ex, ()) ((zparseL s).2.1, (zparseL s).2.2, ()) (TLV (zparseL s).1.ls) o f) : Xzic_Parse (S s) K := by
  unfold Xzic_Parse Yzic_Parse
  refine kLines s (by omega) ?_
  obtain ⟨q1, q2⟩ := linesL_len s
  unfold zparseL at h
  generalize linesL s = L at *
  rw [WV_len]
  refine lp_ind (fun x => L.length - x.1.2.2.2.2.2.1.toNat) (fun x => ∃ (j : Nat) (c : Src), j ≤ L.length ∧ c.ls.length ≤ j ∧ (0 ≤ c.at' ∧ c.at' ≤ j) ∧ parseG j c (L.drop j) = parseG 0 src0 L ∧
    x = (((), (), (), (), (L.length : Int), (j : Int), ()), ([], false, 0, ()), (0, 0, ()), (TLV c.ls, false, 0, c.at', c.til, ()), (WV L, true, false), ())) ?_ ⟨0, src0, by omega, by simp [src0], by simp [src0], rfl, rfl⟩
  rintro x ⟨j, c, hj, hc, ha, hp, rfl⟩ k hk
  unfold Lzic_Parse_0
  dsimp only
  rw [WV_len, Int.toNat_natCast]
  by_cases e : j < L.length
  · rw [if_pos (decide_eq_true (by omega)), if_pos (by omega)]
    refine asW e ?_
    have hL := q2 _ (List.getElem_mem e)
    have w1 : w64 ((j : Int) + 1) = ((j + 1 : Nat) : Int) := by rw [w64_in (by omega) (by omega)]; omega
    refine kCut _ (by omega) fun b o => ?_
    have hb := bare_len L[j]
    refine kWords _ (by omega) ?_
    rw [List.drop_eq_getElem_cons e, parseG] at hp
    have hwl := wd_len (bareL L[j]) []
    rw [WV_len, w1]
    by_cases hw : wordsL (bareL L[j]) = []
    · rw [if_pos hw] at hp
      rw [if_pos (by simp [hw])]
      exact hk _ ⟨j + 1, c, e, by omega, by omega, hp, rfl⟩ (by show L.length - Int.toNat ((j + 1 : Nat) : Int) < L.length - Int.toNat (j : Int); omega)
    · rw [if_neg hw] at hp
      have h1 : 1 ≤ (wordsL (bareL L[j])).length := List.length_pos_iff.2 hw
      rw [if_neg (by simp; omega)]
      refine kSrcLine c (j + 1) _ h1 (fun w hww => by have := (hwl.2 w hww).1; simp at this; omega) (by omega) fun o f => ?_
      have hlen := lineW_len c (j + 1) (wordsL (bareL L[j]))
      have hat := lineW_at c (j + 1) (wordsL (bareL L[j])) (by omega)
      generalize lineW c (j + 1) (wordsL (bareL L[j])) = r at *
      by_cases he : r.2 = 0
      · rw [if_neg (by simp [he])]
        rw [if_neg (by simp [he])] at hp
        exact hk _ ⟨j + 1, r.1, e, by omega, hat, hp, rfl⟩ (by show L.length - Int.toNat ((j + 1 : Nat) : Int) < L.length - Int.toNat (j : Int); omega)
      · rw [if_pos (by simpa using he)]
        rw [if_pos he] at hp
        rw [← hp] at h
        have := h true true
        simpa [tb0, TLV] using this
  · rw [if_neg (dneg (by omega))]
    have : j = L.length := by omega
    subst this
    rw [List.drop_length, parseG] at hp
    rw [← hp] at h
    unfold parseE at h
    by_cases a1 : c.at' > 0
    · simp only [if_pos a1] at h
      rw [if_pos (decide_eq_true a1)]
      refine kRightT ⟨c.ls, true, c.til⟩ (by show c.ls.length ≤ 1000000; omega) ?_
      cases hr : rightT ⟨c.ls, true, c.til⟩
      · simp only [hr, Bool.false_eq_true, if_false] at h
        rw [if_pos (by rfl)]
        have := h true true
        exact ⟨dup_of (by simpa [tb0, TLV] using this), by simpa [tb0, TLV] using this⟩
      · simp only [hr, if_true] at h
        rw [if_neg (by simp)]
        exact h _ _
    · simp only [if_neg a1] at h
      rw [if_neg (dneg a1)]
      exact h _ _
theorem kSame (a b : Tb) (hl : a.ls.length ≤ 1000000) {K} (h : K (decide (a = b))) : Xepactref09_Same (TLV a.ls, a.has, a.ex, ()) (TLV b.ls, b.has, b.ex, ()) K := by
  unfold Xepactref09_Same Yepactref09_Same
  dsimp only
  rw [TLV_len, TLV_len]
  have ne : a ≠ b → K false := fun hn => by rw [decide_eq_false hn] at h; exact h
  by_cases e1 : a.ls.length = b.ls.length
  · rw [if_neg (by simp [e1])]
    by_cases e2 : a.has = b.has
    · rw [if_neg (by simp [e2])]
      by_cases e3 : a.ex = b.ex
      · rw [if_neg (by simp [e3])]
        refine lp_ind (fun x => a.ls.length - x.1.2.2.2.1.toNat) (fun x => ∃ j : Nat, j ≤ a.ls.length ∧ a.ls.take j = b.ls.take j ∧ x = (((), (), false, (j : Int), ()), (TLV a.ls, a.has, a.ex, ()), (TLV b.ls, b.has, b.ex, ()), ())) ?_ ⟨0, by omega, rfl, rfl⟩
        rintro x ⟨j, hj, ht, rfl⟩ k hk
        unfold Lepactref09_Same_0
        dsimp only
        rw [TLV_len, TLV_len, Int.toNat_natCast]
        by_cases e : j < a.ls.length
        · rw [if_pos (decide_eq_true (by omega)), if_pos (by omega)]
          refine asL1 e (asL2 e (asL3 e ?_))
          rw [if_pos (by omega)]
          have e' : j < b.ls.length := by omega
          refine asL1 e' (asL2 e' (asL3 e' ?_))
          simp only [lt]
          by_cases q : a.ls[j] = b.ls[j]
          · rw [if_neg (by simp [q])]
            have w1 : w64 ((j : Int) + 1) = ((j + 1 : Nat) : Int) := by rw [w64_in (by omega) (by omega)]; omega
            rw [w1]
            refine hk _ ⟨j + 1, e, ?_, rfl⟩ (by show a.ls.length - Int.toNat ((j + 1 : Nat) : Int) < a.ls.length - Int.toNat (j : Int); omega)
            rw [List.take_succ_eq_append_getElem e, List.take_succ_eq_append_getElem e', ht, q]
          · have : (!((a.ls[j]).1 == (b.ls[j]).1 && ((a.ls[j]).2.1 == (b.ls[j]).2.1 && ((a.ls[j]).2.2 == (b.ls[j]).2.2 && true)))) = true := by
              rw [Bool.not_eq_true']
              cases hh : ((a.ls[j]).1 == (b.ls[j]).1 && ((a.ls[j]).2.1 == (b.ls[j]).2.1 && ((a.ls[j]).2.2 == (b.ls[j]).2.2 && true)))
              · rfl
              · exfalso
                simp only [Bool.and_eq_true, beq_iff_eq, and_true] at hh
                exact q (Prod.ext hh.1 (Prod.ext hh.2.1 hh.2.2))
            rw [if_pos this]
            refine ne fun hab => q ?_
            subst hab; rfl
        · rw [if_neg (dneg (by omega))]
          have hj' : j = a.ls.length := by omega
          rw [hj', List.take_length, e1, List.take_length] at ht
          have : a = b := by
            cases a; cases b; simp_all
          rw [decide_eq_true this] at h; exact h
      · rw [if_pos (by simpa using e3)]
        exact ne fun hab => e3 (by rw [hab])
    · rw [if_pos (by simpa using e2)]
      exact ne fun hab => e2 (by rw [hab])
  · rw [if_pos (by simp; omega)]
    exact ne fun hab => e1 (by rw [hab])
end Go.Proofs.YtoiiblhbojhogaaGreatDoor
end
