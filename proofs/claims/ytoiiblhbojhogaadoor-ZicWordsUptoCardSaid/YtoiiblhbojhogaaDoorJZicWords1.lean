/- What the functions come to in plain data, with proofs, and what that answers. -/
import Derived.Test.YtoiiblhbojhogaaDoorJZicWords0
import Derived.Lib.Join
section
set_option linter.unusedVariables false
set_option linter.unusedSimpArgs false
namespace Go.Proofs.YtoiiblhbojhogaaDoor.Pl
open Go Go.Proofs.YtoiiblhbojhogaaDoor.Eng
set_option linter.unusedVariables false
set_option linter.unusedSimpArgs false

/-- Cut at a byte, so often. -/
def splN (c : UInt8) : Nat → List UInt8 → List (List UInt8)
  | 0, l => [l]
  | k + 1, l => if nl (· == c) l < l.length then l.take (nl (· == c) l) :: splN c k (l.drop (nl (· == c) l + 1)) else [l]
/-- Cut at each such byte. -/
def spl (c : UInt8) : List UInt8 → List (List UInt8)
  | [] => [[]]
  | b :: r => if b == c then [] :: spl c r else match spl c r with
    | [] => [[b]]
    | h :: t => (b :: h) :: t
theorem spl_ne (c : UInt8) (l : List UInt8) : spl c l ≠ [] := by
  cases l with
  | nil => simp [spl]
  | cons b r =>
    rw [spl]; split
    · simp
    · split <;> simp
theorem spl_eq (c : UInt8) : ∀ l, spl c l = if nl (· == c) l < l.length then l.take (nl (· == c) l) :: spl c (l.drop (nl (· == c) l + 1)) else [l]
  | [] => rfl
  | b :: r => by
    rw [spl, nl_cons]
    cases hb : b == c
    · simp only [Bool.false_eq_true, if_false, List.length_cons]
      rw [spl_eq c r]
      by_cases h : nl (· == c) r < r.length
      · simp only [if_pos h]; rw [if_pos (by omega)]; simp
      · simp only [if_neg h]; rw [if_neg (by omega)]
    · simp
theorem count_nl (c : UInt8) (l : List UInt8) (h : nl (· == c) l < l.length) : l.count c = (l.drop (nl (· == c) l + 1)).count c + 1 := by
  induction l with
  | nil => simp at h
  | cons b r ih =>
    rw [nl_cons] at h ⊢
    cases hb : b == c
    · rw [hb] at h
      simp only [Bool.false_eq_true, if_false, List.length_cons] at h ⊢
      rw [List.count_cons, hb, ih (by omega)]; simp
    · rw [List.count_cons, hb]; simp
theorem splN_spl (c : UInt8) : ∀ (k : Nat) (l : List UInt8), l.count c ≤ k → splN c k l = spl c l
  | 0, l, h => by
    rw [splN, spl_eq, if_neg]
    intro hh
    have := count_nl c l hh
    omega
  | k + 1, l, h => by
    rw [splN, spl_eq]
    split
    · rename_i hh
      have := count_nl c l hh
      rw [splN_spl c k _ (by omega)]
    · rfl
theorem spl_app (c : UInt8) : ∀ (a r : List UInt8), c ∉ a → spl c (a ++ c :: r) = a :: spl c r
  | [], r, _ => by rw [List.nil_append, spl]; simp
  | b :: a, r, h => by
    have hb : (b == c) = false := by
      simp only [beq_eq_false_iff_ne]; exact fun e => h (e ▸ .head _)
    rw [List.cons_append, spl, hb, spl_app c a r (fun hh => h (.tail _ hh))]; simp
theorem splN_len (c : UInt8) : ∀ (k : Nat) (l : List UInt8), (splN c k l).length ≤ k + 1 ∧ 1 ≤ (splN c k l).length ∧ ∀ w ∈ splN c k l, w.length ≤ l.length
  | 0, l => by simp [splN]
  | k + 1, l => by
    rw [splN]
    split
    · obtain ⟨h1, h2, h3⟩ := splN_len c k (l.drop (nl (· == c) l + 1))
      refine ⟨by simp; omega, by simp, fun w hw => ?_⟩
      cases hw with
      | head => simp; omega
      | tail _ hw => have := h3 w hw; simp at this; omega
    · refine ⟨by simp, by simp, fun w hw => ?_⟩
      simp at hw; rw [hw]; exact Nat.le_refl _
theorem spl_len (c : UInt8) (l : List UInt8) : (spl c l).length ≤ l.length + 1 ∧ 1 ≤ (spl c l).length ∧ ∀ w ∈ spl c l, w.length ≤ l.length := by
  rw [← splN_spl c l.length l List.count_le_length]
  exact splN_len c _ l
/-- Without a 13 at the end. -/
def trimR (l : List UInt8) : List UInt8 := if l.getLast? = some 13 then l.dropLast else l
/-- Lines. -/
def linesL (l : List UInt8) : List (List UInt8) := (if (spl 10 l).getLast? = some [] then (spl 10 l).dropLast else spl 10 l).map trimR
theorem trimR_len (l : List UInt8) : (trimR l).length ≤ l.length := by unfold trimR; split <;> simp
theorem linesL_len (l : List UInt8) : (linesL l).length ≤ l.length + 1 ∧ ∀ w ∈ linesL l, w.length ≤ l.length := by
  obtain ⟨h1, h2, h3⟩ := spl_len 10 l
  unfold linesL
  constructor
  · split <;> simp <;> omega
  · intro w hw
    obtain ⟨v, hv, rfl⟩ := List.mem_map.1 hw
    have hv' : v ∈ spl 10 l := by
      split at hv
      · exact (List.dropLast_sublist _).subset hv
      · exact hv
    have := trimR_len v
    have := h3 v hv'
    omega
def blankB (c : UInt8) : Bool := c == 32 || c == 9
/-- Words. -/
def wd : List UInt8 → List UInt8 → List (List UInt8)
  | cur, [] => if cur = [] then [] else [cur]
  | cur, c :: r => if blankB c = true then (if cur = [] then wd [] r else cur :: wd [] r) else wd (cur ++ [c]) r
def wordsL (l : List UInt8) : List (List UInt8) := wd [] l
theorem wd_blank (l : List UInt8) : ∀ cur, wd cur (l ++ [32]) = wd cur l := by
  induction l with
  | nil => intro cur; simp [wd, blankB]
  | cons c r ih =>
    intro cur
    rw [List.cons_append, wd, wd]
    simp only [ih]
theorem wd_skip : ∀ (a cur r : List UInt8), (∀ c ∈ a, blankB c = false) → wd cur (a ++ r) = wd (cur ++ a) r
  | [], cur, r, _ => by simp
  | c :: a, cur, r, h => by
    rw [List.cons_append, wd, if_neg (by rw [h c (.head _)]; simp), wd_skip a _ r (fun d hd => h d (.tail _ hd))]; simp
theorem wd_len : ∀ (l cur : List UInt8), (wd cur l).length ≤ l.length + 1 ∧ ∀ w ∈ wd cur l, w.length ≤ cur.length + l.length ∧ w ≠ []
  | [], cur => by
    rw [wd]; split
    · simp
    · rename_i h; simp [h]
  | c :: r, cur => by
    rw [wd]
    split
    · split
      · obtain ⟨h1, h2⟩ := wd_len r []
        refine ⟨by simp; omega, fun w hw => ⟨by have := (h2 w hw).1; simp at this ⊢; omega, (h2 w hw).2⟩⟩
      · rename_i hc
        obtain ⟨h1, h2⟩ := wd_len r []
        refine ⟨by simp; omega, fun w hw => ?_⟩
        cases hw with
        | head => exact ⟨by simp, hc⟩
        | tail _ hw => exact ⟨by have := (h2 w hw).1; simp at this ⊢; omega, (h2 w hw).2⟩
    · obtain ⟨h1, h2⟩ := wd_len r (cur ++ [c])
      exact ⟨by simp; omega, fun w hw => ⟨by have := (h2 w hw).1; simp at this ⊢; omega, (h2 w hw).2⟩⟩
/-- A number of a text. -/
def numL (l : List UInt8) : Int × Bool := if l ≠ [] ∧ l.all isDig = true ∧ valL l ≤ 9223372036854775807 then ((valL l : Int), true) else (0, false)
def lowB (c : UInt8) : UInt8 := if 65 ≤ c.toNat ∧ c.toNat ≤ 90 then UInt8.ofNat (c.toNat + 32) else c
def foldLw (l : List UInt8) : List UInt8 := l.map lowB
def preB (n f : List UInt8) : Bool := n.take f.length == f
def monNames : List (List UInt8) := [[106, 97, 110, 117, 97, 114, 121], [102, 101, 98, 114, 117, 97, 114, 121], [109, 97, 114, 99, 104], [97, 112, 114, 105, 108], [109, 97, 121], [106, 117, 110, 101], [106, 117, 108, 121], [97, 117, 103, 117, 115, 116], [115, 101, 112, 116, 101, 109, 98, 101, 114], [111, 99, 116, 111, 98, 101, 114], [110, 111, 118, 101, 109, 98, 101, 114], [100, 101, 99, 101, 109, 98, 101, 114]]
def monG (f : List UInt8) : Nat → List (List UInt8) → Int × Bool
  | _, [] => (0, false)
  | k, n :: r => if (decide (f.length > 2) && preB n f) = true then ((k : Int) + 1, true) else monG f (k + 1) r
def monthL (s : List UInt8) : Int × Bool := monG (foldLw s) 0 monNames
def secondL (h m s : Int) : Int × Bool := if h = 23 ∧ m = 59 ∧ s = 60 then (86400, true) else if 0 ≤ h ∧ h ≤ 23 ∧ 0 ≤ m ∧ m ≤ 59 ∧ 0 ≤ s ∧ s ≤ 59 then (h * 3600 + m * 60 + s, true) else (0, false)
def two (l : List UInt8) : Bool := (numL l).2 && decide (l.length ≤ 2)
def zclockL (s : List UInt8) : Int × Bool := match splN 58 2 s with
  | [a, b, c] => if (two a && two b && two c) = true then secondL (numL a).1 (numL b).1 (numL c).1 else (0, false)
  | _ => (0, false)
/-- Leaps: the day, the step, whether of local time; and tables. -/
abbrev LR := Int × Int × Bool
structure Tb where
  ls : List LR
  has : Bool
  ex : Int
deriving DecidableEq
def eLR (l : LR) : V := .agg [.c (.int .i64 l.1), .c (.int .i64 l.2.1), .c (.bool l.2.2)]
def endD (n : Int) : Bool := decide (-719162 ≤ n ∧ n ≤ 2932896) && (dayP n == dim (yearP n) (monP n))
def wrongL (k : Nat) (l : LR) (ahead : Int) : Int :=
  if 200 ≤ k then 8 else if l.1 < 730 ∨ 2932896 ≤ l.1 then 9 else if endD l.1 = false then 5 else if l.2.1 ≠ 1 ∧ l.2.1 ≠ -1 then 6 else if l.1 ≤ ahead then 4 else 0
/-- The first wrong leap, what is wrong of it, the last day ahead. -/
def checkG : Nat → Int → List LR → Nat × Int × Int
  | k, ahead, [] => (k, 0, ahead)
  | k, ahead, l :: r => if wrongL k l ahead ≠ 0 then (k, wrongL k l ahead, ahead) else checkG (k + 1) l.1 r
def expB (has : Bool) (ex ahead : Int) : Int :=
  if has = true then (if ex < (if 63072000 > (ahead + 1) * 86400 then 63072000 else (ahead + 1) * 86400) ∨ 253402300799 < ex then 9 else 0) else if ex ≠ 0 then 9 else 0
def checkT (t : Tb) : Nat × Int := if (checkG 0 729 t.ls).2.1 ≠ 0 then ((checkG 0 729 t.ls).1, (checkG 0 729 t.ls).2.1) else (t.ls.length, expB t.has t.ex (checkG 0 729 t.ls).2.2)
def rightT (t : Tb) : Bool := (checkT t).2 == 0
/-- A leap laid behind all others, or what is wrong. -/
def addT (t : Tb) (l : LR) : Tb × Int := if (checkT ⟨t.ls ++ [l], t.has, t.ex⟩).2 ≠ 0 then (t, (checkT ⟨t.ls ++ [l], t.has, t.ex⟩).2) else (⟨t.ls ++ [l], t.has, t.ex⟩, 0)
/-- A line: its kind, its date, its second, and what a leap has beside. -/
structure Row where
  kind : Int
  y : Int
  m : Int
  d : Int
  sec : Int
  sign : List UInt8
  roll : Bool
def rollL (s : List UInt8) : Bool × Bool := if preB [114, 111, 108, 108, 105, 110, 103] (foldLw s) = true then (true, true) else (false, preB [115, 116, 97, 116, 105, 111, 110, 97, 114, 121] (foldLw s))
def dateW (kind : Int) (w1 w2 w3 w4 : List UInt8) : Row × Bool := (⟨kind, (numL w1).1, (monthL w2).1, (numL w3).1, (zclockL w4).1, [], false⟩, (numL w1).2 && (monthL w2).2 && (numL w3).2 && (zclockL w4).2)
def row0 : Row := ⟨0, 0, 0, 0, 0, [], false⟩
def readW (w : List (List UInt8)) : Row × Bool :=
  if foldLw (w.getD 0 []) = [108, 101, 97, 112] ∧ w.length = 7 then
    let r := dateW 0 (w.getD 1 []) (w.getD 2 []) (w.getD 3 []) (w.getD 4 [])
    (⟨r.1.kind, r.1.y, r.1.m, r.1.d, r.1.sec, w.getD 5 [], (rollL (w.getD 6 [])).1⟩, (decide (w.getD 5 [] = [43] ∨ w.getD 5 [] = [45])) && r.2 && (rollL (w.getD 6 [])).2)
  else if foldLw (w.getD 0 []) = [101, 120, 112, 105, 114, 101, 115] ∧ w.length = 5 then dateW 1 (w.getD 1 []) (w.getD 2 []) (w.getD 3 []) (w.getD 4 [])
  else (row0, false)
/-- What is read so far: the table (without an expiry), the line of the expiry, and what it says. -/
structure Src where
  ls : List LR
  at' : Int
  til : Int
def dayN (y m d : Int) : Option Int := if 1 ≤ y ∧ y ≤ 9999 ∧ 1 ≤ m ∧ m ≤ 12 ∧ 1 ≤ d ∧ d ≤ dim y m then some (num y m d) else none
def leapW (s : Src) (r : Row) (n : Int) : Src × Int :=
  if r.sign = [43] ∧ r.sec = 86400 then (⟨(addT ⟨s.ls, false, 0⟩ (n, 1, r.roll)).1.ls, s.at', s.til⟩, (addT ⟨s.ls, false, 0⟩ (n, 1, r.roll)).2)
  else if r.sign = [45] ∧ r.sec = 86399 then (⟨(addT ⟨s.ls, false, 0⟩ (n, -1, r.roll)).1.ls, s.at', s.til⟩, (addT ⟨s.ls, false, 0⟩ (n, -1, r.roll)).2)
  else (s, 6)
def lineW (s : Src) (no : Nat) (w : List (List UInt8)) : Src × Int :=
  if (readW w).2 = false ∨ ((readW w).1.kind = 1 ∧ s.at' > 0) then (s, 2)
  else match dayN (readW w).1.y (readW w).1.m (readW w).1.d with
    | none => (s, 9)
    | some n => if (readW w).1.kind = 0 then leapW s (readW w).1 n else if (readW w).1.sec = 86400 then (s, 9) else (⟨s.ls, no, n * 86400 + (readW w).1.sec⟩, 0)
/-- The part of a line ahead of a remark. -/
def bareL (l : List UInt8) : List UInt8 := l.take (nl (· == 35) l)
def tb0 : Tb := ⟨[], false, 0⟩
def parseE (s : Src) : Tb × Int × Int := if s.at' > 0 then (if rightT ⟨s.ls, true, s.til⟩ = true then (⟨s.ls, true, s.til⟩, 0, 0) else (tb0, s.at', 9)) else (⟨s.ls, false, 0⟩, 0, 0)
def parseG : Nat → Src → List (List UInt8) → Tb × Int × Int
  | k, s, [] => parseE s
  | k, s, x :: r => if wordsL (bareL x) = [] then parseG (k + 1) s r else
      if (lineW s (k + 1) (wordsL (bareL x))).2 ≠ 0 then (tb0, (k : Int) + 1, (lineW s (k + 1) (wordsL (bareL x))).2) else parseG (k + 1) (lineW s (k + 1) (wordsL (bareL x))).1 r
def src0 : Src := ⟨[], 0, 0⟩
def zparseL (s : List UInt8) : Tb × Int × Int := parseG 0 src0 (linesL s)
theorem decode_cont (l : List UInt8) (pos : Nat) (h : pos < l.length) (ha : 128 ≤ l[pos].toNat) :
    128 ≤ (Utf8.decode (S l) pos).1 ∧ 1 ≤ (Utf8.decode (S l) pos).2 ∧ pos + (Utf8.decode (S l) pos).2 ≤ l.length ∧ ∀ c ∈ (l.drop pos).take (Utf8.decode (S l) pos).2, 128 ≤ c.toNat := by
  obtain ⟨h1, h2⟩ := decode_hi l pos h ha
  refine ⟨h1, h2, ?_⟩
  have g : ∀ k (hk : pos + k < l.length), ((S l).get! (pos + k)).toNat = l[pos + k].toNat := fun k hk => by
    simp [S, ByteArray.get!, hk]
  have one : pos + 1 ≤ l.length ∧ ∀ c ∈ (l.drop pos).take 1, 128 ≤ c.toNat := by
    refine ⟨h, fun c hc => ?_⟩
    rw [List.drop_eq_getElem_cons h, List.take_succ_cons, List.take_zero, List.mem_singleton] at hc
    rw [hc]; exact ha
  have more : ∀ w, 1 ≤ w → (∀ k, 1 ≤ k → k < w → pos + k < l.length ∧ ((S l).get! (pos + k)).toNat / 64 = 2) → pos + w ≤ l.length ∧ ∀ c ∈ (l.drop pos).take w, 128 ≤ c.toNat := fun w hw hk => by
    have hl : pos + w ≤ l.length := by
      by_cases e : w = 1
      · omega
      · have := (hk (w - 1) (by omega) (by omega)).1; omega
    refine ⟨hl, fun c hc => ?_⟩
    obtain ⟨i, hi⟩ := List.getElem?_of_mem hc
    rw [List.getElem?_take] at hi
    split at hi
    · rename_i hiw
      rw [List.getElem?_drop, List.getElem?_eq_getElem (by omega)] at hi
      cases hi
      by_cases e : i = 0
      · subst e; exact ha
      · obtain ⟨q1, q2⟩ := hk i (by omega) hiw
        rw [g i q1] at q2
        omega
    · cases hi
  unfold Utf8.decode
  simp only [S_size]
  have c1 : ∀ k, (decide (pos + k < l.length) && ((S l).get! (pos + k)).toNat / 64 == 2) = true → pos + k < l.length ∧ ((S l).get! (pos + k)).toNat / 64 = 2 := fun k hk => by
    simpa using hk
  split
  · exact one
  · split
    · rename_i hc
      simp only [Bool.and_eq_true] at hc
      split
      · exact more 2 (by omega) fun k k1 k2 => by
          have : k = 1 := by omega
          subst this; exact c1 1 (by simp only [Bool.and_eq_true]; exact hc.2)
      · exact one
    · split
      · rename_i hc
        simp only [Bool.and_eq_true] at hc
        split
        · exact more 3 (by omega) fun k k1 k2 => by
            rcases (show k = 1 ∨ k = 2 by omega) with rfl | rfl
            · exact c1 1 (by simp only [Bool.and_eq_true]; exact hc.1.2)
            · exact c1 2 (by simp only [Bool.and_eq_true]; exact hc.2)
        · exact one
      · split
        · rename_i hc
          simp only [Bool.and_eq_true] at hc
          split
          · exact more 4 (by omega) fun k k1 k2 => by
              rcases (show k = 1 ∨ k = 2 ∨ k = 3 by omega) with rfl | rfl | rfl
              · exact c1 1 (by simp only [Bool.and_eq_true]; exact hc.1.1.2)
              · exact c1 2 (by simp only [Bool.and_eq_true]; exact hc.1.2)
              · exact c1 3 (by simp only [Bool.and_eq_true]; exact hc.2)
          · exact one
        · exact one
/-- Rows of texts. -/
def WV (ws : List (List UInt8)) : List V := ws.map fun w => .c (.string (S w))
theorem WV_len (ws : List (List UInt8)) : (WV ws).length = ws.length := by simp [WV]
theorem WV_app (a b : List (List UInt8)) : WV (a ++ b) = WV a ++ WV b := by simp [WV]
theorem asW {ws : List (List UInt8)} {i : Nat} (h : i < ws.length) {F : Prop} {K : ByteArray → Prop} (hk : K (S ws[i])) : Eng.asStr (getC (WV ws) i 0) F K := by
  have : getC (WV ws) i 0 = some (.c (.string (S ws[i]))) := by simp [getC, WV, V.cells, h]
  rw [this]; simpa [Eng.asStr] using hk
theorem kS_nil (l : List UInt8) : (ByteArray.toList (S l) == ByteArray.toList (ByteArray.mk #[])) = l.isEmpty := by
  rw [S_toList, show ByteArray.toList (ByteArray.mk #[]) = [] from S_toList []]
  cases l <;> rfl
theorem set_mid {α : Type} (a : List α) (x y : α) (b : List α) : (a ++ y :: b).set a.length x = a ++ x :: b := by
  induction a with
  | nil => rfl
  | cons h t ih => simp
theorem getD_mid {α : Type} (a : List α) (d y : α) (b : List α) : (a ++ y :: b).getD a.length d = y := by simp
/-- Bytes, one by one. -/
def B8 (l : List UInt8) : List V := l.map fun b => .c (.int .u8 b.toNat)
theorem B8_len (l : List UInt8) : (B8 l).length = l.length := by simp [B8]
theorem bytesV_S (l : List UInt8) : Eng.bytesV (S l) = B8 l := by simp [Eng.bytesV, B8]
theorem asB8 {l : List UInt8} {i : Nat} (h : i < l.length) {F : Prop} {K : Int → Prop} (hk : K (l[i].toNat : Int)) : Eng.asInt .u8 (getC (B8 l) i 0) F K := by
  have : getC (B8 l) i 0 = some (.c (.int .u8 (l[i].toNat : Int))) := by simp [getC, B8, V.cells, h]
  rw [this]; simpa [Eng.asInt] using hk
theorem B8_all (l : List UInt8) : Eng.allU8 (B8 l) = true := by
  simp [Eng.allU8, B8, Eng.isU8]
theorem B8_pack (l : List UInt8) : Eng.packB (B8 l) = S l := by
  have : (l.map fun b => V.c (.int .u8 (b.toNat : Int))).map Eng.byteOf = l := by
    rw [List.map_map]
    conv => rhs; rw [← List.map_id l]
    refine List.map_congr_left fun b _ => ?_
    simp [Eng.byteOf]
  unfold Eng.packB B8
  rw [this]
theorem kS_eq (l m : List UInt8) : (ByteArray.toList (S l) == ByteArray.toList (S m)) = (l == m) := by rw [S_toList, S_toList]
theorem getD_in {α : Type} (l : List α) (i : Nat) (d : α) (h : i < l.length) : l.getD i d = l[i] := by simp [List.getD, h]
theorem asWd {ws : List (List UInt8)} {i : Nat} (h : i < ws.length) {F : Prop} {K : ByteArray → Prop} (hk : K (S (ws.getD i []))) : Eng.asStr (getC (WV ws) i 0) F K := by
  rw [getD_in _ _ _ h] at hk; exact asW h hk
def tupRow (r : Row) : Int × Int × Int × Int × Int × ByteArray × Bool × Unit := (r.kind, r.y, r.m, r.d, r.sec, S r.sign, r.roll, ())
theorem two_bd {l : List UInt8} (h : two l = true) : 0 ≤ (numL l).1 ∧ (numL l).1 ≤ 99 := by
  unfold two numL at h
  unfold numL
  split at h
  · rename_i hc
    rw [if_pos hc]
    simp only [Bool.true_and, decide_eq_true_eq] at h
    have := valL_lt l (List.all_eq_true.1 hc.2.1)
    have : 10 ^ l.length ≤ 10 ^ 2 := Nat.pow_le_pow_right (by omega) h
    omega
  · simp at h
theorem dneg {p : Prop} [Decidable p] (h : ¬ p) : ¬ (decide p = true) := by simpa using h
def TLV (l : List LR) : List V := l.map eLR
theorem TLV_len (l : List LR) : (TLV l).length = l.length := by simp [TLV]
theorem asL1 {l : List LR} {i : Nat} (h : i < l.length) {F : Prop} {K : Int → Prop} (hk : K (l[i]).1) : Eng.asInt .i64 (getC (TLV l) i 0) F K := by
  have : getC (TLV l) i 0 = some (.c (.int .i64 (l[i]).1)) := by simp [getC, TLV, eLR, V.cells, h]
  rw [this]; simpa [Eng.asInt] using hk
theorem asL2 {l : List LR} {i : Nat} (h : i < l.length) {F : Prop} {K : Int → Prop} (hk : K (l[i]).2.1) : Eng.asInt .i64 (getC (TLV l) i 1) F K := by
  have : getC (TLV l) i 1 = some (.c (.int .i64 (l[i]).2.1)) := by simp [getC, TLV, eLR, V.cells, h]
  rw [this]; simpa [Eng.asInt] using hk
theorem asL3 {l : List LR} {i : Nat} (h : i < l.length) {F : Prop} {K : Bool → Prop} (hk : K (l[i]).2.2) : Eng.asBool (getC (TLV l) i 2) F K := by
  have : getC (TLV l) i 2 = some (.c (.bool (l[i]).2.2)) := by simp [getC, TLV, eLR, V.cells, h]
  rw [this]; simpa [Eng.asBool] using hk
theorem numL_bd (l : List UInt8) : 0 ≤ (numL l).1 ∧ (numL l).1 ≤ 9223372036854775807 := by
  unfold numL; split
  · rename_i h; simp only; omega
  · simp
theorem second_bd (a b c : Int) : 0 ≤ (secondL a b c).1 ∧ (secondL a b c).1 ≤ 86400 := by
  unfold secondL; split
  · simp
  · split
    · simp only; omega
    · simp
theorem zclock_bd (l : List UInt8) : 0 ≤ (zclockL l).1 ∧ (zclockL l).1 ≤ 86400 := by
  unfold zclockL
  split
  · split
    · exact second_bd _ _ _
    · simp
  · simp
/-- A table's leaps as they come, and what holds of those that are right. -/
theorem wrongL_0 {k : Nat} {l : LR} {a : Int} (h : wrongL k l a = 0) : k < 200 ∧ 730 ≤ l.1 ∧ l.1 < 2932896 ∧ endD l.1 = true ∧ (l.2.1 = 1 ∨ l.2.1 = -1) ∧ a < l.1 := by
  unfold wrongL at h
  split at h; · omega
  split at h; · omega
  split at h; · omega
  split at h; · omega
  split at h; · omega
  rename_i h1 h2 h3 h4 h5
  refine ⟨by omega, by omega, by omega, by simpa using h3, by omega, by omega⟩
theorem readW_bd (w : List (List UInt8)) : (0 ≤ (readW w).1.sec ∧ (readW w).1.sec ≤ 86400) ∧ ((readW w).2 = true → (readW w).1.kind = 0 ∨ (readW w).1.kind = 1) ∧ 0 ≤ (readW w).1.d ∧ (readW w).1.d ≤ 9223372036854775807 := by
  unfold readW
  split
  · exact ⟨zclock_bd _, fun _ => .inl rfl, numL_bd _⟩
  · split
    · exact ⟨zclock_bd _, fun _ => .inr rfl, numL_bd _⟩
    · refine ⟨?_, fun h => ?_, ?_⟩
      · simp [row0]
      · simp at h
      · simp [row0]
theorem add_len (t : Tb) (l : LR) : (addT t l).1.ls.length ≤ t.ls.length + 1 := by
  unfold addT; split <;> simp
theorem leapW_len (s : Src) (r : Row) (n : Int) : (leapW s r n).1.ls.length ≤ s.ls.length + 1 := by
  unfold leapW
  split
  · exact add_len _ _
  · split
    · exact add_len _ _
    · simp
theorem lineW_len (s : Src) (no : Nat) (w : List (List UInt8)) : (lineW s no w).1.ls.length ≤ s.ls.length + 1 := by
  unfold lineW
  split
  · simp
  · split
    · simp
    · split
      · exact leapW_len _ _ _
      · split <;> simp
end Go.Proofs.YtoiiblhbojhogaaDoor.Pl
end
section
set_option linter.unusedVariables false
set_option linter.unusedSimpArgs false
namespace Go.Proofs.YtoiiblhbojhogaaDoor.Pl
open Go Go.Proofs.YtoiiblhbojhogaaDoor.Eng
set_option linter.unusedVariables false
set_option linter.unusedSimpArgs false

/-- A month's name: three letters, the first one great. -/
def monCap (m : Int) : List UInt8 := match (monNames.getD (m - 1).toNat []).take 3 with
  | c :: r => UInt8.ofNat (c.toNat - 32) :: r
  | [] => []
def dateWords (kind : List UInt8) (n : Int) (rest : List (List UInt8)) : List (List UInt8) := [kind, itoaK (yearP n), monCap (monP n), itoaK (dayP n)] ++ rest
def joinT (ws : List (List UInt8)) : List UInt8 := Lib.join ws [9]
def leapWords (l : LR) : List (List UInt8) := dateWords [76, 101, 97, 112] l.1 [if l.2.1 < 0 then [50, 51, 58, 53, 57, 58, 53, 57] else [50, 51, 58, 53, 57, 58, 54, 48], if l.2.1 < 0 then [45] else [43], if l.2.2 = true then [82] else [83]]
def dd (n : Int) : List UInt8 := [UInt8.ofNat (48 + (n / 10 % 10).toNat), UInt8.ofNat (48 + (n % 10).toNat)]
def hms (x : Int) : List UInt8 := dd (x / 3600) ++ 58 :: (dd (x / 60 % 60) ++ 58 :: dd (x % 60))
def expWords (ex : Int) : List (List UInt8) := dateWords [69, 120, 112, 105, 114, 101, 115] (ex / 86400) [hms (ex % 86400)]
def zlines (t : Tb) : List (List (List UInt8)) := t.ls.map leapWords ++ (if t.has = true then [expWords t.ex] else [])
def ztextB (t : Tb) : List UInt8 := ((zlines t).map fun ws => joinT ws ++ [10]).flatten
def ztextL (t : Tb) : List UInt8 × Bool := if rightT t = true then (ztextB t, true) else ([], false)

/- Numbers. -/
theorem digsN_val : ∀ (k u : Nat), u < 10 ^ (k + 1) → (digsN (k + 1) u).all isDig = true ∧ valL (digsN (k + 1) u) = u ∧ digsN (k + 1) u ≠ []
  | k, u, h => by
    rw [digsN]
    by_cases e : u < 10
    · rw [if_pos e]
      have : (UInt8.ofNat (48 + u)).toNat = 48 + u := by simp; omega
      refine ⟨?_, ?_, by simp⟩
      · simp [isDig, this]; omega
      · unfold valL; rw [List.foldl_cons, List.foldl_nil, this]; omega
    · rw [if_neg e]
      cases k with
      | zero => omega
      | succ k =>
        obtain ⟨h1, h2, h3⟩ := digsN_val k (u / 10) (by rw [Nat.pow_succ] at h; omega)
        have : (UInt8.ofNat (48 + u % 10)).toNat = 48 + u % 10 := by simp; omega
        refine ⟨?_, ?_, by simp⟩
        · rw [List.all_append, h1]; simp [isDig, this]; omega
        · rw [valL_snoc, h2, this]; omega
theorem itoa_num (n : Int) (h0 : 0 ≤ n) (h1 : n ≤ 9223372036854775807) : (itoaK n).all isDig = true ∧ valL (itoaK n) = n.toNat ∧ itoaK n ≠ [] := by
  unfold itoaK
  rw [if_neg (by omega)]
  exact digsN_val 19 n.toNat (by omega)
theorem numL_itoa (n : Int) (h0 : 0 ≤ n) (h1 : n ≤ 9223372036854775807) : numL (itoaK n) = (n, true) := by
  obtain ⟨q1, q2, q3⟩ := itoa_num n h0 h1
  unfold numL
  rw [if_pos ⟨q3, q1, by omega⟩, q2, show ((n.toNat : Nat) : Int) = n by omega]
/-- A word that may stand in a line. -/
def gw (w : List UInt8) : Prop := w ≠ [] ∧ ∀ c ∈ w, blankB c = false ∧ c ≠ 10 ∧ c ≠ 35 ∧ c ≠ 13
theorem gw_digs {w : List UInt8} (h : w.all isDig = true) (hn : w ≠ []) : gw w := by
  refine ⟨hn, fun c hc => ?_⟩
  have := List.all_eq_true.1 h c hc
  simp only [isDig, Bool.and_eq_true, decide_eq_true_eq] at this
  refine ⟨?_, ?_, ?_, ?_⟩
  · unfold blankB
    rw [Bool.or_eq_false_iff]
    constructor <;> (rw [beq_eq_false_iff_ne]; intro e; subst e; revert this; decide)
  all_goals (intro e; subst e; revert this; decide)
theorem gw_itoa (n : Int) (h0 : 0 ≤ n) (h1 : n ≤ 9223372036854775807) : gw (itoaK n) := by
  obtain ⟨q1, q2, q3⟩ := itoa_num n h0 h1
  exact gw_digs q1 q3
def gwB (w : List UInt8) : Bool := !w.isEmpty && w.all fun c => !blankB c && c != 10 && c != 35 && c != 13
theorem gw_of {w : List UInt8} (h : gwB w = true) : gw w := by
  unfold gwB at h
  rw [Bool.and_eq_true] at h
  refine ⟨by intro e; rw [e] at h; simp at h, fun c hc => ?_⟩
  have := List.all_eq_true.1 h.2 c hc
  simpa [and_assoc] using this
theorem join_cons (w v : List UInt8) (r : List (List UInt8)) : joinT (w :: v :: r) = w ++ 9 :: joinT (v :: r) := by
  simp [joinT, Lib.join, List.intercalate, List.intersperse]
theorem join_one (w : List UInt8) : joinT [w] = w := by simp [joinT, Lib.join, List.intercalate, List.intersperse]
theorem words_join : ∀ (ws : List (List UInt8)), ws ≠ [] → (∀ w ∈ ws, gw w) → wordsL (joinT ws) = ws
  | [], h, _ => absurd rfl h
  | [w], _, h => by
    obtain ⟨h1, h2⟩ := h w (.head _)
    rw [join_one]
    have := wd_skip w [] [] (fun c hc => (h2 c hc).1)
    rw [List.append_nil, List.nil_append] at this
    unfold wordsL
    rw [this, wd, if_neg h1]
  | w :: v :: r, _, h => by
    obtain ⟨h1, h2⟩ := h w (.head _)
    have ih := words_join (v :: r) (by simp) (fun x hx => h x (.tail _ hx))
    unfold wordsL at ih ⊢
    rw [join_cons, wd_skip w [] _ (fun c hc => (h2 c hc).1), List.nil_append, wd, if_pos (by rfl), if_neg h1, ih]
theorem join_mem : ∀ (ws : List (List UInt8)) (c : UInt8), c ∈ joinT ws → c = 9 ∨ ∃ w ∈ ws, c ∈ w
  | [], c, h => by simp [joinT, Lib.join, List.intercalate, List.intersperse] at h
  | [w], c, h => by rw [join_one] at h; exact .inr ⟨w, .head _, h⟩
  | w :: v :: r, c, h => by
    rw [join_cons, List.mem_append, List.mem_cons] at h
    rcases h with h | h | h
    · exact .inr ⟨w, .head _, h⟩
    · exact .inl h
    · rcases join_mem (v :: r) c h with h | ⟨x, hx, hc⟩
      · exact .inl h
      · exact .inr ⟨x, .tail _ hx, hc⟩
theorem join_not {ws : List (List UInt8)} (h : ∀ w ∈ ws, gw w) : (10 : UInt8) ∉ joinT ws ∧ (13 : UInt8) ∉ joinT ws ∧ (35 : UInt8) ∉ joinT ws := by
  have key : ∀ c : UInt8, c = 10 ∨ c = 13 ∨ c = 35 → c ∉ joinT ws := fun c hc hm => by
    rcases join_mem ws c hm with h9 | ⟨w, hw, hcw⟩
    · subst h9; revert hc; decide
    · obtain ⟨_, q2, q3, q4⟩ := (h w hw).2 c hcw
      rcases hc with rfl | rfl | rfl
      · exact q2 rfl
      · exact q4 rfl
      · exact q3 rfl
  exact ⟨key 10 (.inl rfl), key 13 (.inr (.inl rfl)), key 35 (.inr (.inr rfl))⟩
theorem spl_flat : ∀ (xs : List (List UInt8)), (∀ x ∈ xs, (10 : UInt8) ∉ x) → spl 10 (xs.map (· ++ [10])).flatten = xs ++ [[]]
  | [], _ => rfl
  | x :: r, h => by
    rw [List.map_cons, List.flatten_cons, List.append_assoc, List.singleton_append, spl_app 10 x _ (h x (.head _)), spl_flat r (fun y hy => h y (.tail _ hy))]; rfl
theorem trimR_id {l : List UInt8} (h : (13 : UInt8) ∉ l) : trimR l = l := by
  unfold trimR
  rw [if_neg]
  intro hh
  exact h (List.mem_of_getLast? hh)
theorem lines_flat (xs : List (List UInt8)) (h : ∀ x ∈ xs, (10 : UInt8) ∉ x) : linesL (xs.map (· ++ [10])).flatten = xs.map trimR := by
  unfold linesL
  rw [spl_flat xs h]
  simp
theorem map_id_of {α : Type} {f : α → α} : ∀ (l : List α), (∀ x ∈ l, f x = x) → l.map f = l
  | [], _ => rfl
  | x :: r, h => by rw [List.map_cons, h x (.head _), map_id_of r fun y hy => h y (.tail _ hy)]
theorem bare_id {l : List UInt8} (h : (35 : UInt8) ∉ l) : bareL l = l := by
  unfold bareL
  have : nl (· == (35 : UInt8)) l = l.length := nl_of _ l l.length (Nat.le_refl _) (fun c hc => by
    rw [List.take_length] at hc
    simp only [beq_eq_false_iff_ne]; intro e; subst e; exact h hc) (fun hh => absurd hh (Nat.lt_irrefl _))
  rw [this, List.take_length]
/- Months and clocks. -/
theorem mon_cap {m : Int} (h1 : 1 ≤ m) (h2 : m ≤ 12) : monthL (monCap m) = (m, true) ∧ gw (monCap m) := by
  have key : ∀ k : Nat, k < 12 → monthL (monCap ((k : Int) + 1)) = ((k : Int) + 1, true) ∧ gwB (monCap ((k : Int) + 1)) = true := by decide +kernel
  have := key (m - 1).toNat (by omega)
  rw [show (((m - 1).toNat : Nat) : Int) + 1 = m by omega] at this
  exact ⟨this.1, gw_of this.2⟩
theorem dd_ok {n : Int} (h0 : 0 ≤ n) (h1 : n ≤ 99) : two (dd n) = true ∧ (numL (dd n)).1 = n ∧ (58 : UInt8) ∉ dd n ∧ gw (dd n) := by
  have key : ∀ k : Nat, k < 100 → (two (dd (k : Int)) = true ∧ (numL (dd (k : Int))).1 = (k : Int) ∧ (dd (k : Int)).contains 58 = false) ∧ gwB (dd (k : Int)) = true := by decide +kernel
  have := key n.toNat (by omega)
  rw [show ((n.toNat : Nat) : Int) = n by omega] at this
  exact ⟨this.1.1, this.1.2.1, by simpa using this.1.2.2, gw_of this.2⟩
theorem splN_app (c : UInt8) (k : Nat) : ∀ (a r : List UInt8), c ∉ a → splN c (k + 1) (a ++ c :: r) = a :: splN c k r := fun a r h => by
  have hn : nl (· == c) (a ++ c :: r) = a.length := nl_of _ _ a.length (by simp) (fun x hx => by
    rw [List.take_left] at hx
    simp only [beq_eq_false_iff_ne]; intro e; subst e; exact h hx) (fun hh => by simp)
  rw [splN, hn, if_pos (by simp)]
  simp
theorem splN_no (c : UInt8) (k : Nat) (a : List UInt8) (h : c ∉ a) : splN c k a = [a] := by
  have hn : nl (· == c) a = a.length := nl_of _ _ a.length (Nat.le_refl _) (fun x hx => by
    rw [List.take_length] at hx
    simp only [beq_eq_false_iff_ne]; intro e; subst e; exact h hx) (fun hh => absurd hh (Nat.lt_irrefl _))
  cases k with
  | zero => rfl
  | succ k => rw [splN, hn, if_neg (Nat.lt_irrefl _)]
theorem clock_hms {x : Int} (h0 : 0 ≤ x) (h1 : x < 86400) : zclockL (hms x) = (x, true) ∧ gw (hms x) := by
  obtain ⟨a1, a2, a3, a4⟩ := dd_ok (n := x / 3600) (by omega) (by omega)
  obtain ⟨b1, b2, b3, b4⟩ := dd_ok (n := x / 60 % 60) (by omega) (by omega)
  obtain ⟨c1, c2, c3, c4⟩ := dd_ok (n := x % 60) (by omega) (by omega)
  constructor
  · unfold zclockL hms
    rw [splN_app 58 1 _ _ a3, splN_app 58 0 _ _ b3, splN]
    dsimp only
    rw [if_pos (by rw [a1, b1, c1]; rfl), a2, b2, c2]
    unfold secondL
    rw [if_neg (by omega), if_pos (by omega)]
    rw [show x / 3600 * 3600 + x / 60 % 60 * 60 + x % 60 = x by omega]
  · refine ⟨by simp [hms, dd], fun c hc => ?_⟩
    have g58 : blankB 58 = false ∧ (58 : UInt8) ≠ 10 ∧ (58 : UInt8) ≠ 35 ∧ (58 : UInt8) ≠ 13 := by decide
    unfold hms at hc
    simp only [List.mem_append, List.mem_cons] at hc
    rcases hc with hc | rfl | hc | rfl | hc
    · exact a4.2 c hc
    · exact g58
    · exact b4.2 c hc
    · exact g58
    · exact c4.2 c hc
theorem date_good {kind : List UInt8} {n : Int} {rest : List (List UInt8)} (hn : -719162 ≤ n ∧ n ≤ 2932896) (hk : gw kind) (hr : ∀ w ∈ rest, gw w) : ∀ w ∈ dateWords kind n rest, gw w := by
  obtain ⟨⟨v1, v2, v3, v4, v5, v6⟩, _⟩ := num_date hn.1 hn.2
  have := dim_bd (yearP n) (monP n)
  intro w hw
  unfold dateWords at hw
  simp only [List.cons_append, List.nil_append, List.mem_cons] at hw
  rcases hw with rfl | rfl | rfl | rfl | hw
  · exact hk
  · exact gw_itoa _ (by omega) (by omega)
  · exact (mon_cap v3 v4).2
  · exact gw_itoa _ (by omega) (by omega)
  · exact hr w hw
theorem date_read {k : Int} {n : Int} (hn : -719162 ≤ n ∧ n ≤ 2932896) (c : List UInt8) : dateW k (itoaK (yearP n)) (monCap (monP n)) (itoaK (dayP n)) c = (⟨k, yearP n, monP n, dayP n, (zclockL c).1, [], false⟩, (zclockL c).2) := by
  obtain ⟨⟨v1, v2, v3, v4, v5, v6⟩, _⟩ := num_date hn.1 hn.2
  have := dim_bd (yearP n) (monP n)
  unfold dateW
  rw [numL_itoa _ (by omega) (by omega), numL_itoa _ (by omega) (by omega), (mon_cap v3 v4).1]
  simp
theorem dayN_of {n : Int} (hn : -719162 ≤ n ∧ n ≤ 2932896) : dayN (yearP n) (monP n) (dayP n) = some n := by
  obtain ⟨v, e⟩ := num_date hn.1 hn.2
  unfold dayN
  have v' : 1 ≤ yearP n ∧ yearP n ≤ 9999 ∧ 1 ≤ monP n ∧ monP n ≤ 12 ∧ 1 ≤ dayP n ∧ dayP n ≤ dim (yearP n) (monP n) := v
  rw [if_pos v', e]
theorem leap_good {l : LR} (hn : -719162 ≤ l.1 ∧ l.1 ≤ 2932896) : ∀ w ∈ leapWords l, gw w := by
  refine date_good hn (gw_of rfl) fun w hw => ?_
  simp only [List.mem_cons, List.not_mem_nil, or_false] at hw
  rcases hw with rfl | rfl | rfl <;> split <;> exact gw_of rfl
theorem exp_good {ex : Int} (h0 : 0 ≤ ex) (h1 : ex ≤ 253402300799) : ∀ w ∈ expWords ex, gw w := by
  refine date_good (by omega) (gw_of rfl) fun w hw => ?_
  simp only [List.mem_cons, List.not_mem_nil, or_false] at hw
  subst hw
  exact (clock_hms (by omega) (by omega)).2
theorem lineW_leap (s : Src) (no : Nat) {l : LR} (hn : -719162 ≤ l.1 ∧ l.1 ≤ 2932896) (hs : l.2.1 = 1 ∨ l.2.1 = -1) :
    lineW s no (leapWords l) = (⟨(addT ⟨s.ls, false, 0⟩ l).1.ls, s.at', s.til⟩, (addT ⟨s.ls, false, 0⟩ l).2) := by
  have c6 : zclockL [50, 51, 58, 53, 57, 58, 54, 48] = (86400, true) := by decide +kernel
  have c5 : zclockL [50, 51, 58, 53, 57, 58, 53, 57] = (86399, true) := by decide +kernel
  have hroll : ∀ b : Bool, rollL (if b = true then [82] else [83]) = (b, true) := by decide +kernel
  obtain ⟨n, st, ro⟩ := l
  have hr : readW (leapWords (n, st, ro)) = (⟨0, yearP n, monP n, dayP n, if st < 0 then 86399 else 86400, if st < 0 then [45] else [43], ro⟩, true) := by
    unfold readW
    rw [if_pos ⟨by rfl, rfl⟩]
    have e1 : (leapWords (n, st, ro)).getD 1 [] = itoaK (yearP n) := rfl
    have e2 : (leapWords (n, st, ro)).getD 2 [] = monCap (monP n) := rfl
    have e3 : (leapWords (n, st, ro)).getD 3 [] = itoaK (dayP n) := rfl
    have e4 : (leapWords (n, st, ro)).getD 4 [] = if st < 0 then [50, 51, 58, 53, 57, 58, 53, 57] else [50, 51, 58, 53, 57, 58, 54, 48] := rfl
    have e5 : (leapWords (n, st, ro)).getD 5 [] = if st < 0 then [45] else [43] := rfl
    have e6 : (leapWords (n, st, ro)).getD 6 [] = if ro = true then [82] else [83] := rfl
    rw [e1, e2, e3, e4, e5, e6, date_read hn, hroll]
    rcases hs with hs | hs <;> (have hs : st = _ := hs; subst hs; simp [c5, c6])
  unfold lineW
  rw [hr, if_neg (by simp)]
  dsimp only
  rw [dayN_of hn]
  dsimp only
  rw [if_pos rfl]
  unfold leapW
  rcases hs with hs | hs <;> (have hs : st = _ := hs; subst hs; simp)
theorem lineW_exp (s : Src) (no : Nat) {ex : Int} (h0 : 0 ≤ ex) (h1 : ex ≤ 253402300799) (ha : ¬ s.at' > 0) : lineW s no (expWords ex) = (⟨s.ls, no, ex⟩, 0) := by
  have hn : -719162 ≤ ex / 86400 ∧ ex / 86400 ≤ 2932896 := by omega
  have hr : readW (expWords ex) = (⟨1, yearP (ex / 86400), monP (ex / 86400), dayP (ex / 86400), ex % 86400, [], false⟩, true) := by
    unfold readW
    rw [if_neg (fun hh => absurd (show 5 = 7 from hh.2) (by decide)), if_pos ⟨by rfl, rfl⟩]
    have e1 : (expWords ex).getD 1 [] = itoaK (yearP (ex / 86400)) := rfl
    have e2 : (expWords ex).getD 2 [] = monCap (monP (ex / 86400)) := rfl
    have e3 : (expWords ex).getD 3 [] = itoaK (dayP (ex / 86400)) := rfl
    have e4 : (expWords ex).getD 4 [] = hms (ex % 86400) := rfl
    rw [e1, e2, e3, e4, date_read hn, (clock_hms (by omega) (by omega)).1]
  unfold lineW
  rw [hr, if_neg (by simp; omega)]
  dsimp only
  rw [dayN_of hn]
  dsimp only
  rw [if_neg (by omega), if_neg (by omega), show ex / 86400 * 86400 + ex % 86400 = ex by omega]
/- Tables. -/
theorem checkG_app : ∀ (p q : List LR) (k : Nat) (a : Int), (checkG k a (p ++ q)).2.1 = 0 → (checkG k a p).2.1 = 0
  | [], q, k, a, h => rfl
  | l :: p, q, k, a, h => by
    rw [List.cons_append, checkG] at h
    rw [checkG]
    split at h
    · rename_i hw; exact absurd h hw
    · rename_i hw; rw [if_neg hw]; exact checkG_app p q _ _ h
theorem checkG_all : ∀ (p : List LR) (k : Nat) (a : Int), (checkG k a p).2.1 = 0 → ∀ l ∈ p, 730 ≤ l.1 ∧ l.1 < 2932896 ∧ (l.2.1 = 1 ∨ l.2.1 = -1)
  | [], k, a, h, l, hl => by cases hl
  | x :: p, k, a, h, l, hl => by
    rw [checkG] at h
    split at h
    · rename_i hw; exact absurd h hw
    · rename_i hw
      have hw : wrongL k x a = 0 := by omega
      obtain ⟨_, q1, q2, _, q3, _⟩ := wrongL_0 hw
      cases hl with
      | head => exact ⟨q1, q2, q3⟩
      | tail _ hl => exact checkG_all p _ _ h l hl
theorem checkG_last : ∀ (p : List LR) (k : Nat) (a : Int), 729 ≤ a → a ≤ 2932896 → 729 ≤ (checkG k a p).2.2 ∧ (checkG k a p).2.2 ≤ 2932896
  | [], k, a, h, h' => ⟨h, h'⟩
  | x :: p, k, a, h, h' => by
    rw [checkG]
    split
    · exact ⟨h, h'⟩
    · rename_i hw
      have hw : wrongL k x a = 0 := by omega
      obtain ⟨_, q1, q2, _⟩ := wrongL_0 hw
      exact checkG_last p _ _ (by omega) (by omega)
theorem right_0 {t : Tb} (h : rightT t = true) : (checkG 0 729 t.ls).2.1 = 0 ∧ expB t.has t.ex (checkG 0 729 t.ls).2.2 = 0 := by
  unfold rightT checkT at h
  rw [beq_iff_eq] at h
  split at h
  · rename_i hw; exact absurd h hw
  · rename_i hw; exact ⟨by omega, h⟩
theorem right_of {t : Tb} (h1 : (checkG 0 729 t.ls).2.1 = 0) (h2 : expB t.has t.ex (checkG 0 729 t.ls).2.2 = 0) : rightT t = true := by
  unfold rightT checkT
  rw [if_neg (by omega), h2]; rfl
theorem expB_no (a : Int) : expB false 0 a = 0 := rfl
theorem right_ex {t : Tb} (h : rightT t = true) : (t.has = false → t.ex = 0) ∧ (t.has = true → 63072000 ≤ t.ex ∧ t.ex ≤ 253402300799) := by
  obtain ⟨h1, h2⟩ := right_0 h
  unfold expB at h2
  constructor
  · intro hh
    rw [hh, if_neg (by simp)] at h2
    split at h2 <;> omega
  · intro hh
    rw [hh, if_pos rfl] at h2
    split at h2
    · omega
    · split at h2 <;> omega
theorem addT_ok {ls : List LR} {l : LR} (h : (checkG 0 729 (ls ++ [l])).2.1 = 0) : addT ⟨ls, false, 0⟩ l = (⟨ls ++ [l], false, 0⟩, 0) := by
  have : (checkT ⟨ls ++ [l], false, 0⟩).2 = 0 := by
    unfold checkT
    rw [if_neg (fun hn => hn h)]
    exact expB_no (checkG 0 729 (ls ++ [l])).2.2
  unfold addT
  rw [if_neg (fun hn => hn this)]
theorem addT_good {ls : List LR} {l : LR} (h : (checkG 0 729 ls).2.1 = 0) : (checkG 0 729 (addT ⟨ls, false, 0⟩ l).1.ls).2.1 = 0 := by
  unfold addT
  split
  · exact h
  · rename_i hc
    unfold checkT at hc
    split at hc
    · rename_i hw; exact absurd hw (by omega)
    · rename_i hw; dsimp only at hw ⊢; omega
/- What was written is read as it was. -/
theorem parseG_step (k : Nat) (s : Src) (ws : List (List UInt8)) (rest : List (List UInt8)) (h1 : ws ≠ []) (h2 : ∀ w ∈ ws, gw w) : parseG k s (joinT ws :: rest) =
    if (lineW s (k + 1) ws).2 ≠ 0 then (tb0, (k : Int) + 1, (lineW s (k + 1) ws).2) else parseG (k + 1) (lineW s (k + 1) ws).1 rest := by
  rw [parseG, bare_id (join_not h2).2.2, words_join ws h1 h2, if_neg h1]
theorem parse_leaps : ∀ (q p : List LR) (k : Nat) (a t : Int) (rest : List (List UInt8)), (checkG 0 729 (p ++ q)).2.1 = 0 →
    parseG k ⟨p, a, t⟩ ((q.map leapWords).map joinT ++ rest) = parseG (k + q.length) ⟨p ++ q, a, t⟩ rest
  | [], p, k, a, t, rest, h => by simp
  | l :: q, p, k, a, t, rest, h => by
    obtain ⟨q1, q2, q3⟩ := checkG_all _ _ _ h l (by simp)
    have h' : (checkG 0 729 (p ++ [l])).2.1 = 0 := checkG_app (p ++ [l]) q _ _ (by simpa using h)
    have hn : -719162 ≤ l.1 ∧ l.1 ≤ 2932896 := by omega
    rw [List.map_cons, List.map_cons, List.cons_append, parseG_step _ _ _ _ (by simp [leapWords, dateWords]) (leap_good hn), lineW_leap _ _ hn q3]
    dsimp only
    rw [addT_ok h', if_neg (by simp)]
    dsimp only
    rw [parse_leaps q (p ++ [l]) _ _ _ _ (by simpa using h)]
    simp [Nat.add_assoc, Nat.add_comm 1]
theorem lines_text {t : Tb} (h : rightT t = true) : linesL (ztextB t) = (zlines t).map joinT := by
  obtain ⟨h1, h2⟩ := right_0 h
  have good : ∀ ws ∈ zlines t, ∀ w ∈ ws, gw w := fun ws hws => by
    unfold zlines at hws
    rw [List.mem_append] at hws
    rcases hws with hws | hws
    · obtain ⟨l, hl, rfl⟩ := List.mem_map.1 hws
      obtain ⟨q1, q2, q3⟩ := checkG_all _ _ _ h1 l hl
      exact leap_good (by omega)
    · split at hws
      · rename_i hh
        obtain ⟨x1, x2⟩ := (right_ex h).2 hh
        simp only [List.mem_singleton] at hws
        subst hws
        exact exp_good (by omega) (by omega)
      · cases hws
  unfold ztextB
  have e : ((zlines t).map fun ws => joinT ws ++ [10]) = ((zlines t).map joinT).map (· ++ [10]) := by rw [List.map_map]; rfl
  rw [e, lines_flat _ (fun x hx => by
    obtain ⟨ws, hws, rfl⟩ := List.mem_map.1 hx
    exact (join_not (good ws hws)).1)]
  exact map_id_of _ fun x hx => by
    obtain ⟨ws, hws, rfl⟩ := List.mem_map.1 hx
    exact trimR_id (join_not (good ws hws)).2.1
theorem zparse_text {t : Tb} (h : rightT t = true) : zparseL (ztextB t) = (t, 0, 0) := by
  obtain ⟨h1, h2⟩ := right_0 h
  obtain ⟨x1, x2⟩ := right_ex h
  unfold zparseL
  rw [lines_text h]
  unfold zlines
  rw [List.map_append, src0, parse_leaps t.ls [] 0 0 0 _ (by simpa using h1), List.nil_append]
  obtain ⟨ls, has, ex⟩ := t
  dsimp only at *
  cases has
  · rw [x1 rfl, if_neg (by simp), List.map_nil, parseG]
    rfl
  · obtain ⟨y1, y2⟩ := x2 rfl
    rw [if_pos rfl, List.map_cons, List.map_nil, parseG_step _ _ _ _ (by simp [expWords, dateWords]) (exp_good (by omega) (by omega)), lineW_exp _ _ (by omega) (by omega) (by simp), if_neg (by simp), parseG]
    unfold parseE
    dsimp only
    rw [if_pos (by omega), if_pos h]
/- A table that is read is right, or there is a fault. -/
theorem leapW_good {s : Src} {r : Row} {n : Int} (h : (checkG 0 729 s.ls).2.1 = 0) : (checkG 0 729 (leapW s r n).1.ls).2.1 = 0 := by
  unfold leapW
  split
  · exact addT_good h
  · split
    · exact addT_good h
    · exact h
theorem lineW_good {s : Src} {no : Nat} {w : List (List UInt8)} (h : (checkG 0 729 s.ls).2.1 = 0) : (checkG 0 729 (lineW s no w).1.ls).2.1 = 0 := by
  unfold lineW
  split
  · exact h
  · split
    · exact h
    · split
      · exact leapW_good h
      · split
        · exact h
        · exact h
theorem lineW_at (s : Src) (no : Nat) (w : List (List UInt8)) (h : 0 ≤ s.at' ∧ s.at' ≤ no) : 0 ≤ (lineW s no w).1.at' ∧ (lineW s no w).1.at' ≤ no := by
  unfold lineW
  split
  · exact h
  · split
    · exact h
    · split
      · unfold leapW
        split
        · exact h
        · split <;> exact h
      · split
        · exact h
        · exact ⟨by simp, by simp⟩
theorem parseE_good {s : Src} {k : Nat} (h : (checkG 0 729 s.ls).2.1 = 0) (ha : 0 ≤ s.at' ∧ s.at' ≤ k) :
    ((parseE s).2.2 = 0 ∧ (parseE s).2.1 = 0 ∧ rightT (parseE s).1 = true) ∨ ((parseE s).2.2 ≠ 0 ∧ (parseE s).1 = tb0 ∧ 1 ≤ (parseE s).2.1 ∧ (parseE s).2.1 ≤ k) := by
  unfold parseE
  split
  · split
    · rename_i hr; exact .inl ⟨rfl, rfl, hr⟩
    · exact .inr ⟨by simp, rfl, by dsimp only; omega, ha.2⟩
  · exact .inl ⟨rfl, rfl, right_of h (expB_no _)⟩
theorem parseG_good : ∀ (L : List (List UInt8)) (k : Nat) (s : Src), (checkG 0 729 s.ls).2.1 = 0 → (0 ≤ s.at' ∧ s.at' ≤ k) →
    ((parseG k s L).2.2 = 0 ∧ (parseG k s L).2.1 = 0 ∧ rightT (parseG k s L).1 = true) ∨ ((parseG k s L).2.2 ≠ 0 ∧ (parseG k s L).1 = tb0 ∧ 1 ≤ (parseG k s L).2.1 ∧ (parseG k s L).2.1 ≤ ((k + L.length : Nat) : Int))
  | [], k, s, h, ha => parseE_good h ha
  | x :: r, k, s, h, ha => by
    rw [parseG]
    have e : k + (x :: r).length = k + 1 + r.length := by simp; omega
    split
    · rw [e]; exact parseG_good r (k + 1) s h ⟨ha.1, by omega⟩
    · split
      · rename_i he
        exact .inr ⟨he, rfl, by dsimp only; omega, by dsimp only; rw [e]; omega⟩
      · rw [e]; exact parseG_good r (k + 1) _ (lineW_good h) (lineW_at _ _ _ ⟨ha.1, by omega⟩)
theorem zparse_good (s : List UInt8) : ((zparseL s).2.2 = 0 ∧ (zparseL s).2.1 = 0 ∧ rightT (zparseL s).1 = true) ∨
    ((zparseL s).2.2 ≠ 0 ∧ (zparseL s).1 = tb0 ∧ 1 ≤ (zparseL s).2.1 ∧ (zparseL s).2.1 ≤ ((linesL s).length : Int)) := by
  have := parseG_good (linesL s) 0 src0 rfl (by simp [src0])
  rw [Nat.zero_add] at this
  exact this
end Go.Proofs.YtoiiblhbojhogaaDoor.Pl
end
section
set_option linter.unusedVariables false
set_option linter.unusedSimpArgs false
namespace Go.Proofs.YtoiiblhbojhogaaDoor.Pl
open Go Go.Proofs.YtoiiblhbojhogaaDoor.Eng
set_option linter.unusedVariables false
set_option linter.unusedSimpArgs false

theorem low_all : ∀ n : Nat, n < 256 → lowB (lowB (UInt8.ofNat n)) = lowB (UInt8.ofNat n) ∧ isDig (lowB (UInt8.ofNat n)) = isDig (UInt8.ofNat n) ∧ (isDig (UInt8.ofNat n) = true → lowB (UInt8.ofNat n) = UInt8.ofNat n) ∧
    (lowB (UInt8.ofNat n) == 58) = (UInt8.ofNat n == 58) ∧ (lowB (UInt8.ofNat n) == 43) = (UInt8.ofNat n == 43) ∧ (lowB (UInt8.ofNat n) == 45) = (UInt8.ofNat n == 45) ∧
    (lowB (UInt8.ofNat n) == 35) = (UInt8.ofNat n == 35) ∧ (lowB (UInt8.ofNat n) == 13) = (UInt8.ofNat n == 13) ∧ (lowB (UInt8.ofNat n) == 10) = (UInt8.ofNat n == 10) ∧ blankB (lowB (UInt8.ofNat n)) = blankB (UInt8.ofNat n) := by decide +kernel
theorem low_one (c : UInt8) : lowB (lowB c) = lowB c ∧ isDig (lowB c) = isDig c ∧ (isDig c = true → lowB c = c) ∧
    (lowB c == 58) = (c == 58) ∧ (lowB c == 43) = (c == 43) ∧ (lowB c == 45) = (c == 45) ∧ (lowB c == 35) = (c == 35) ∧ (lowB c == 13) = (c == 13) ∧ (lowB c == 10) = (c == 10) ∧ blankB (lowB c) = blankB c := by
  have := low_all c.toNat c.toNat_lt
  rwa [UInt8.ofNat_toNat] at this
theorem fold_fold (l : List UInt8) : foldLw (foldLw l) = foldLw l := by
  unfold foldLw; rw [List.map_map]; exact List.map_congr_left fun c _ => (low_one c).1
theorem fold_len (l : List UInt8) : (foldLw l).length = l.length := by simp [foldLw]
theorem fold_dig (l : List UInt8) : (foldLw l).all isDig = l.all isDig := by
  unfold foldLw; rw [List.all_map]; congr 1; funext c; exact (low_one c).2.1
theorem fold_digs {l : List UInt8} (h : l.all isDig = true) : foldLw l = l := map_id_of l fun c hc => (low_one c).2.2.1 (List.all_eq_true.1 h c hc)
theorem num_fold (l : List UInt8) : numL (foldLw l) = numL l := by
  by_cases h : l.all isDig = true
  · rw [fold_digs h]
  · unfold numL
    rw [if_neg (fun hh => h (by rw [← fold_dig]; exact hh.2.1)), if_neg (fun hh => h hh.2.1)]
theorem two_fold (l : List UInt8) : two (foldLw l) = two l := by unfold two; rw [num_fold, fold_len]
theorem nl_map (q : UInt8 → Bool) (f : UInt8 → UInt8) (l : List UInt8) (h : ∀ c, q (f c) = q c) : nl q (l.map f) = nl q l := by
  induction l with
  | nil => rfl
  | cons c l ih => rw [List.map_cons, nl_cons, nl_cons, h, ih]
theorem splN_fold : ∀ (k : Nat) (l : List UInt8), splN 58 k (foldLw l) = (splN 58 k l).map foldLw
  | 0, l => rfl
  | k + 1, l => by
    have hn : nl (· == (58 : UInt8)) (foldLw l) = nl (· == (58 : UInt8)) l := nl_map _ _ l fun c => (low_one c).2.2.2.1
    rw [splN, splN, hn, fold_len]
    split
    · rw [List.map_cons, ← splN_fold k]
      simp [foldLw, List.map_take, List.map_drop]
    · rfl
theorem clock_fold (l : List UInt8) : zclockL (foldLw l) = zclockL l := by
  unfold zclockL
  rw [splN_fold]
  match splN 58 2 l with
  | [] => rfl
  | [_] => rfl
  | [_, _] => rfl
  | [a, b, c] => simp only [List.map_cons, List.map_nil, two_fold, num_fold]
  | _ :: _ :: _ :: _ :: _ => rfl
theorem month_fold (l : List UInt8) : monthL (foldLw l) = monthL l := by unfold monthL; rw [fold_fold]
theorem roll_fold (l : List UInt8) : rollL (foldLw l) = rollL l := by unfold rollL; rw [fold_fold]
theorem one_fold (l : List UInt8) (x : UInt8) (hx : ∀ c, (lowB c == x) = (c == x)) : foldLw l = [x] ↔ l = [x] := by
  have hx' : ∀ c, lowB c = x ↔ c = x := fun c => by
    have := hx c
    constructor
    · intro h; rw [← beq_iff_eq, ← this, h]; simp
    · intro h; rw [← beq_iff_eq, this, h]; simp
  match l with
  | [] => simp [foldLw]
  | [c] => simp [foldLw, hx']
  | _ :: _ :: _ => simp [foldLw]
theorem getD_fold (w : List (List UInt8)) (i : Nat) : (w.map foldLw).getD i [] = foldLw (w.getD i []) := by
  simp only [List.getD, List.getElem?_map]
  cases w[i]? <;> rfl
theorem dateW_fold (k : Int) (a b c d : List UInt8) : dateW k (foldLw a) (foldLw b) (foldLw c) (foldLw d) = dateW k a b c d := by
  unfold dateW; rw [num_fold, month_fold, num_fold, clock_fold]
theorem read_fold (w : List (List UInt8)) : (readW (w.map foldLw)).2 = (readW w).2 ∧ ((readW w).2 = true → readW (w.map foldLw) = readW w) := by
  unfold readW
  simp only [getD_fold, fold_fold, dateW_fold, roll_fold, List.length_map, one_fold _ 43 (fun c => (low_one c).2.2.2.2.1), one_fold _ 45 (fun c => (low_one c).2.2.2.2.2.1)]
  split
  · refine ⟨rfl, fun h => ?_⟩
    simp only [Bool.and_eq_true, decide_eq_true_eq] at h
    rcases h.1.1 with h5 | h5 <;> rw [h5] <;> rfl
  · split
    · exact ⟨rfl, fun _ => rfl⟩
    · exact ⟨rfl, fun _ => rfl⟩
theorem lineW_fold (s : Src) (no : Nat) (w : List (List UInt8)) : lineW s no (w.map foldLw) = lineW s no w := by
  obtain ⟨h1, h2⟩ := read_fold w
  cases h : (readW w).2
  · unfold lineW
    rw [h1, h, if_pos (.inl rfl), if_pos (.inl rfl)]
  · unfold lineW
    rw [h2 h]
/- The line in other words. -/
def otherL (x : List UInt8) : List UInt8 := ((wordsL x).map fun w => [9, 32] ++ foldLw w).flatten
theorem wd_parts : ∀ (l cur : List UInt8), (∀ c ∈ cur, c ∈ cur ++ l) ∧ ∀ w ∈ wd cur l, ∀ c ∈ w, c ∈ cur ++ l
  | [], cur => by
    rw [wd]; split
    · simp
    · simp
  | a :: r, cur => by
    refine ⟨fun c hc => by simp [hc], ?_⟩
    rw [wd]
    split
    · split
      · rename_i hc; subst hc
        intro w hw c hcw
        have := (wd_parts r []).2 w hw c hcw
        simp at this ⊢; exact .inr this
      · intro w hw c hcw
        cases hw with
        | head => simp [hcw]
        | tail _ hw =>
          have := (wd_parts r []).2 w hw c hcw
          simp at this ⊢; exact .inr (.inr this)
    · intro w hw c hcw
      have := (wd_parts r (cur ++ [a])).2 w hw c hcw
      simp at this ⊢; exact this
theorem words_sub (l : List UInt8) {w : List UInt8} (hw : w ∈ wordsL l) {c : UInt8} (hc : c ∈ w) : c ∈ l := by
  have := (wd_parts l []).2 w hw c hc
  simpa using this
theorem wd_good : ∀ (l cur : List UInt8), (∀ c ∈ cur, blankB c = false) → ∀ w ∈ wd cur l, w ≠ [] ∧ ∀ c ∈ w, blankB c = false
  | [], cur, h => by
    rw [wd]; split
    · simp
    · rename_i hc
      intro w hw
      simp only [List.mem_singleton] at hw
      subst hw; exact ⟨hc, h⟩
  | a :: r, cur, h => by
    rw [wd]
    split
    · split
      · exact wd_good r [] (by simp)
      · rename_i hc
        intro w hw
        cases hw with
        | head => exact ⟨hc, h⟩
        | tail _ hw => exact wd_good r [] (by simp) w hw
    · rename_i hb
      exact wd_good r (cur ++ [a]) (fun c hc => by
        rw [List.mem_append, List.mem_singleton] at hc
        rcases hc with hc | rfl
        · exact h c hc
        · simpa using hb)
theorem words_good (l : List UInt8) : ∀ w ∈ wordsL l, w ≠ [] ∧ ∀ c ∈ w, blankB c = false := wd_good l [] (by simp)
theorem words_flat : ∀ (ws : List (List UInt8)), (∀ w ∈ ws, w ≠ [] ∧ ∀ c ∈ w, blankB c = false) → ∀ (cur : List UInt8), (∀ c ∈ cur, blankB c = false) → wd cur (ws.map fun w => [9, 32] ++ w).flatten = (if cur = [] then [] else [cur]) ++ ws
  | [], _, cur, _ => by simp [wd]
  | w :: r, h, cur, hc => by
    obtain ⟨h1, h2⟩ := h w (.head _)
    have ih := words_flat r (fun x hx => h x (.tail _ hx)) w h2
    rw [if_neg h1] at ih
    have e : wd [] (w ++ (r.map fun w => [9, 32] ++ w).flatten) = w :: r := by rw [wd_skip w [] _ h2, List.nil_append, ih]; rfl
    have e9 : blankB 9 = true := rfl
    have e32 : blankB 32 = true := rfl
    rw [List.map_cons, List.flatten_cons, List.append_assoc, List.cons_append, List.cons_append, List.nil_append, wd, if_pos e9, wd, if_pos e32, if_pos rfl, e]
    split <;> simp
theorem other_words (x : List UInt8) : wordsL (otherL x) = (wordsL x).map foldLw := by
  have := words_flat ((wordsL x).map foldLw) (fun w hw => by
    obtain ⟨v, hv, rfl⟩ := List.mem_map.1 hw
    obtain ⟨h1, h2⟩ := words_good x v hv
    refine ⟨fun e => h1 (List.length_eq_zero_iff.1 (by rw [← fold_len, e]; rfl)), fun c hc => ?_⟩
    obtain ⟨d, hd, rfl⟩ := List.mem_map.1 hc
    rw [(low_one d).2.2.2.2.2.2.2.2.2]; exact h2 d hd) [] (by simp)
  rw [List.map_map] at this
  unfold wordsL at *
  unfold otherL
  rw [if_pos rfl, List.nil_append] at this
  exact this
theorem other_not {x : List UInt8} {c : UInt8} (hc : c = 10 ∨ c = 13 ∨ c = 35) (h : c ∉ x) : c ∉ otherL x := by
  intro hm
  unfold otherL at hm
  rw [List.mem_flatten] at hm
  obtain ⟨y, hy, hcy⟩ := hm
  obtain ⟨w, hw, rfl⟩ := List.mem_map.1 hy
  simp only [List.cons_append, List.nil_append, List.mem_cons] at hcy
  rcases hcy with rfl | rfl | hcy
  · revert hc; decide
  · revert hc; decide
  · obtain ⟨d, hd, e⟩ := List.mem_map.1 hcy
    obtain ⟨_, _, _, _, _, _, l35, l13, l10, _⟩ := low_one d
    have : d = c := by
      rcases hc with rfl | rfl | rfl
      · rw [e] at l10; simpa using l10.symm
      · rw [e] at l13; simpa using l13.symm
      · rw [e] at l35; simpa using l35.symm
    subst this
    exact h (words_sub x hw hd)
theorem wd_sum : ∀ (l cur : List UInt8), ((wd cur l).map fun w => w.length + 2).sum ≤ 3 * l.length + (if cur = [] then 0 else cur.length + 2)
  | [], cur => by rw [wd]; split <;> simp
  | a :: r, cur => by
    rw [wd]
    have h1 := wd_sum r []
    have h2 := wd_sum r (cur ++ [a])
    rw [if_pos rfl] at h1
    rw [if_neg (by simp)] at h2
    simp only [List.length_append, List.length_singleton] at h2
    simp only [List.length_cons]
    split
    · split
      · omega
      · rw [List.map_cons, List.sum_cons]; omega
    · split
      · rename_i hc; subst hc; simp at h2 ⊢; omega
      · omega
theorem other_len (x : List UInt8) : (otherL x).length ≤ 3 * x.length := by
  have := wd_sum x []
  rw [if_pos rfl] at this
  unfold otherL
  rw [List.length_flatten, List.map_map]
  have e : (List.map (List.length ∘ fun w => [9, 32] ++ foldLw w) (wordsL x)) = (wordsL x).map fun w => w.length + 2 := List.map_congr_left fun w _ => by simp [fold_len]
  rw [e]; exact this
theorem spl_sum (c : UInt8) : ∀ l : List UInt8, ((spl c l).map List.length).sum + (spl c l).length = l.length + 1
  | [] => rfl
  | b :: r => by
    have ih := spl_sum c r
    rw [spl]
    split
    · simp; omega
    · have := spl_ne c r
      match hs : spl c r with
      | [] => exact absurd hs this
      | h :: t => rw [hs] at ih; simp at ih ⊢; omega
/- The whole. -/
def shf (k : Nat) (x : Int) : Int := if x > (k : Int) then x + 1 else x
def otherLines (rem : List UInt8) (k : Nat) (L : List (List UInt8)) : List (List UInt8) := (L.take k).map otherL ++ (32 :: 35 :: rem) :: (L.drop k).map otherL
theorem lineW_sh (s : Src) (k no : Nat) (hk : k < no) (w : List (List UInt8)) : lineW ⟨s.ls, shf k s.at', s.til⟩ (no + 1) w = (⟨(lineW s no w).1.ls, shf k (lineW s no w).1.at', (lineW s no w).1.til⟩, (lineW s no w).2) := by
  have hpos : shf k s.at' > 0 ↔ s.at' > 0 := by unfold shf; split <;> omega
  unfold lineW
  simp only [hpos]
  split
  · rfl
  · split
    · rfl
    · split
      · unfold leapW
        split
        · rfl
        · split <;> rfl
      · split
        · rfl
        · have : shf k (no : Int) = ((no + 1 : Nat) : Int) := by unfold shf; rw [if_pos (by omega)]; omega
          simp only [this]
theorem parseE_sh (s : Src) (k : Nat) (h0 : 0 ≤ s.at') : parseE ⟨s.ls, shf k s.at', s.til⟩ = ((parseE s).1, shf k (parseE s).2.1, (parseE s).2.2) := by
  have hpos : shf k s.at' > 0 ↔ s.at' > 0 := by unfold shf; split <;> omega
  have h00 : shf k 0 = 0 := by unfold shf; rw [if_neg (by omega)]
  unfold parseE
  simp only [hpos]
  split
  · split
    · simp only [h00]
    · rfl
  · simp only [h00]
theorem parse_behind : ∀ (L : List (List UInt8)) (j k : Nat) (s : Src), k ≤ j → (0 ≤ s.at' ∧ s.at' ≤ j) → (∀ x ∈ L, (35 : UInt8) ∉ x) →
    parseG (j + 1) ⟨s.ls, shf k s.at', s.til⟩ (L.map otherL) = ((parseG j s L).1, shf k (parseG j s L).2.1, (parseG j s L).2.2)
  | [], j, k, s, hj, ha, hL => parseE_sh s k ha.1
  | x :: r, j, k, s, hj, ha, hL => by
    have hx := hL x (.head _)
    have hr : ∀ y ∈ r, (35 : UInt8) ∉ y := fun y hy => hL y (.tail _ hy)
    rw [List.map_cons, parseG, parseG, bare_id (other_not (.inr (.inr rfl)) hx), bare_id hx, other_words, lineW_fold, lineW_sh s k (j + 1) (by omega)]
    have hm : (wordsL x).map foldLw = [] ↔ wordsL x = [] := by simp
    simp only [hm]
    split
    · exact parse_behind r (j + 1) k s (by omega) ⟨ha.1, by omega⟩ hr
    · split
      · have : shf k ((j : Int) + 1) = ((j + 1 : Nat) : Int) + 1 := by unfold shf; rw [if_pos (by omega)]; omega
        simp only [this]
      · exact parse_behind r (j + 1) k _ (by omega) (lineW_at _ _ _ ⟨ha.1, by omega⟩) hr
theorem parse_ahead (rem : List UInt8) : ∀ (A B : List (List UInt8)) (j k : Nat) (s : Src), j + A.length = k → (0 ≤ s.at' ∧ s.at' ≤ j) → (∀ x ∈ A ++ B, (35 : UInt8) ∉ x) →
    parseG j s (A.map otherL ++ (32 :: 35 :: rem) :: B.map otherL) = ((parseG j s (A ++ B)).1, shf k (parseG j s (A ++ B)).2.1, (parseG j s (A ++ B)).2.2)
  | [], B, j, k, s, hj, ha, hL => by
    have hj : j = k := by simpa using hj
    subst hj
    have hb : bareL (32 :: 35 :: rem) = [32] := rfl
    rw [List.map_nil, List.nil_append, List.nil_append, parseG, hb, if_pos (by rfl)]
    have : s = ⟨s.ls, shf j s.at', s.til⟩ := by
      have : shf j s.at' = s.at' := by unfold shf; rw [if_neg (by omega)]
      rw [this]
    rw [this]
    have := parse_behind B j j s (Nat.le_refl _) ha hL
    rw [this]
    have e : shf j (shf j s.at') = shf j s.at' := by unfold shf; rw [if_neg (by omega), if_neg (by omega)]
    have e' : shf j s.at' = s.at' := by unfold shf; rw [if_neg (by omega)]
    simp only [e']
  | x :: A, B, j, k, s, hj, ha, hL => by
    have hx := hL x (.head _)
    have hr : ∀ y ∈ A ++ B, (35 : UInt8) ∉ y := fun y hy => hL y (.tail _ hy)
    have hj' : j + 1 + A.length = k := by simp at hj; omega
    rw [List.map_cons, List.cons_append, List.cons_append, parseG, parseG, bare_id (other_not (.inr (.inr rfl)) hx), bare_id hx, other_words, lineW_fold]
    have hm : (wordsL x).map foldLw = [] ↔ wordsL x = [] := by simp
    simp only [hm]
    split
    · exact parse_ahead rem A B (j + 1) k s hj' ⟨ha.1, by omega⟩ hr
    · split
      · have : shf k ((j : Int) + 1) = (j : Int) + 1 := by unfold shf; rw [if_neg (by omega)]
        simp only [this]
      · exact parse_ahead rem A B (j + 1) k _ hj' (lineW_at _ _ _ ⟨ha.1, by omega⟩) hr
theorem rem_trim (rem : List UInt8) : ∃ rem', trimR (32 :: 35 :: rem) = 32 :: 35 :: rem' := by
  unfold trimR
  split
  · cases rem with
    | nil => rename_i h; simp at h
    | cons c r => exact ⟨(c :: r).dropLast, by simp [List.dropLast]⟩
  · exact ⟨rem, rfl⟩
theorem lines_parts {s : List UInt8} {c : UInt8} (h : c ∉ s) : ∀ x ∈ linesL s, c ∉ x := by
  have key : ∀ (l : List UInt8), c ∉ l → ∀ x ∈ spl 10 l, c ∉ x := by
    intro l
    induction l with
    | nil => intro _ x hx; simp [spl] at hx; subst hx; simp
    | cons b r ih =>
      intro hl x hx
      have hb : c ≠ b := fun e => hl (by rw [e]; exact .head _)
      have hr : c ∉ r := fun e => hl (.tail _ e)
      rw [spl] at hx
      split at hx
      · cases hx with
        | head => simp
        | tail _ hx => exact ih hr x hx
      · have := spl_ne 10 r
        match hs : spl 10 r with
        | [] => exact absurd hs this
        | h :: t =>
          rw [hs] at hx
          dsimp only at hx
          cases hx with
          | head =>
            have := ih hr h (by rw [hs]; exact .head _)
            simp only [List.mem_cons, not_or]; exact ⟨hb, this⟩
          | tail _ hx => exact ih hr x (by rw [hs]; exact .tail _ hx)
  intro x hx
  unfold linesL at hx
  obtain ⟨y, hy, rfl⟩ := List.mem_map.1 hx
  have hy' : y ∈ spl 10 s := by
    split at hy
    · exact (List.dropLast_sublist _).subset hy
    · exact hy
  have := key s h y hy'
  unfold trimR
  split
  · exact fun hc => this ((List.dropLast_sublist _).subset hc)
  · exact this
theorem lines_no10 (s : List UInt8) : ∀ x ∈ linesL s, (10 : UInt8) ∉ x := by
  have key : ∀ (l : List UInt8), ∀ x ∈ spl 10 l, (10 : UInt8) ∉ x := by
    intro l
    induction l with
    | nil => intro x hx; simp [spl] at hx; subst hx; simp
    | cons b r ih =>
      intro x hx
      rw [spl] at hx
      split at hx
      · cases hx with
        | head => simp
        | tail _ hx => exact ih x hx
      · rename_i hb
        have hb : (10 : UInt8) ≠ b := fun e => hb (by rw [← e]; rfl)
        have := spl_ne 10 r
        match hs : spl 10 r with
        | [] => exact absurd hs this
        | h :: t =>
          rw [hs] at hx
          dsimp only at hx
          cases hx with
          | head =>
            have := ih h (by rw [hs]; exact .head _)
            simp only [List.mem_cons, not_or]; exact ⟨hb, this⟩
          | tail _ hx => exact ih x (by rw [hs]; exact .tail _ hx)
  intro x hx
  unfold linesL at hx
  obtain ⟨y, hy, rfl⟩ := List.mem_map.1 hx
  have hy' : y ∈ spl 10 s := by
    split at hy
    · exact (List.dropLast_sublist _).subset hy
    · exact hy
  have := key s y hy'
  unfold trimR
  split
  · exact fun hc => this ((List.dropLast_sublist _).subset hc)
  · exact this
def otherText (rem : List UInt8) (k : Nat) (s : List UInt8) : List UInt8 := ((otherLines rem k (linesL s)).map (· ++ [10])).flatten
theorem other_all (rem : List UInt8) (k : Nat) (s : List UInt8) (hk : k ≤ (linesL s).length) (hr : (10 : UInt8) ∉ rem) (h13 : (13 : UInt8) ∉ s) (h35 : (35 : UInt8) ∉ s) :
    zparseL (otherText rem k s) = ((zparseL s).1, shf k (zparseL s).2.1, (zparseL s).2.2) := by
  have l35 := lines_parts h35
  have l13 := lines_parts h13
  have l10 := lines_no10 s
  have lines : linesL (otherText rem k s) = (otherLines rem k (linesL s)).map trimR := lines_flat _ fun x hx => by
    unfold otherLines at hx
    simp only [List.mem_append, List.mem_cons, List.mem_map] at hx
    rcases hx with ⟨y, hy, rfl⟩ | rfl | ⟨y, hy, rfl⟩
    · exact other_not (.inl rfl) (l10 y (List.mem_of_mem_take hy))
    · simp only [List.mem_cons, not_or]; exact ⟨by decide, by decide, hr⟩
    · exact other_not (.inl rfl) (l10 y (List.mem_of_mem_drop hy))
  unfold zparseL
  rw [lines]
  unfold otherLines
  obtain ⟨rem', hrem⟩ := rem_trim rem
  have m1 : (((linesL s).take k).map otherL).map trimR = ((linesL s).take k).map otherL := map_id_of _ fun x hx => by
    obtain ⟨y, hy, rfl⟩ := List.mem_map.1 hx
    exact trimR_id (other_not (.inr (.inl rfl)) (l13 y (List.mem_of_mem_take hy)))
  have m2 : (((linesL s).drop k).map otherL).map trimR = ((linesL s).drop k).map otherL := map_id_of _ fun x hx => by
    obtain ⟨y, hy, rfl⟩ := List.mem_map.1 hx
    exact trimR_id (other_not (.inr (.inl rfl)) (l13 y (List.mem_of_mem_drop hy)))
  rw [List.map_append, List.map_cons, m1, m2, hrem]
  have := parse_ahead rem' ((linesL s).take k) ((linesL s).drop k) 0 k src0 (by simp; omega) (by simp [src0]) (by rw [List.take_append_drop]; exact l35)
  rw [List.take_append_drop] at this
  exact this
theorem lines_sum (s : List UInt8) : ((linesL s).map List.length).sum + (linesL s).length ≤ s.length + 1 := by
  have h := spl_sum 10 s
  have tr : ∀ L : List (List UInt8), ((L.map trimR).map List.length).sum ≤ (L.map List.length).sum := fun L => by
    induction L with
    | nil => simp
    | cons x r ih => have := trimR_len x; simp at ih ⊢; omega
  have dl : ∀ L : List (List UInt8), (L.dropLast.map List.length).sum ≤ (L.map List.length).sum := fun L => by
    induction L with
    | nil => simp
    | cons x r ih =>
      cases r with
      | nil => simp
      | cons y r => simp at ih ⊢; omega
  unfold linesL
  split
  · have h1 := tr (spl 10 s).dropLast
    have h2 := dl (spl 10 s)
    rw [List.length_map, List.length_dropLast]; omega
  · have h1 := tr (spl 10 s)
    rw [List.length_map]; omega
theorem other_sum : ∀ L : List (List UInt8), ((L.map otherL).map List.length).sum ≤ 3 * (L.map List.length).sum
  | [] => by simp
  | x :: r => by have := other_sum r; have := other_len x; simp at *; omega
end Go.Proofs.YtoiiblhbojhogaaDoor.Pl
end
section
set_option linter.unusedVariables false
set_option linter.unusedSimpArgs false
namespace Go.Proofs.YtoiiblhbojhogaaDoor.Pl
open Go
set_option linter.unusedVariables false
set_option linter.unusedSimpArgs false

/-- A text, cut at a sign. -/
def splitL (c : UInt8) (l : List UInt8) : List UInt8 × List UInt8 × Bool := if nl (· == c) l < l.length then (l.take (nl (· == c) l), l.drop (nl (· == c) l + 1), true) else (l, [], false)
/-- A sign that may not be in a name; one that is a letter; names of local times. -/
def badC (c : UInt8) : Bool := !((97 ≤ c.toNat && c.toNat ≤ 122) || (65 ≤ c.toNat && c.toNat ≤ 90) || (48 ≤ c.toNat && c.toNat ≤ 57) || c.toNat == 43 || c.toNat == 45)
def letC (c : UInt8) : Bool := (97 ≤ c.toNat && c.toNat ≤ 122) || (65 ≤ c.toNat && c.toNat ≤ 90)
def abbrL (l : List UInt8) : Bool := decide (3 ≤ l.length ∧ l.length ≤ 16) && !l.any badC

theorem sixty_bad (l : List UInt8) (h : (sixtyL l).2.2 = false) : (sixtyL l).1 = 0 ∧ (sixtyL l).2.1 = l := by
  match l, h with
  | [], _ => exact ⟨rfl, rfl⟩
  | [_], _ => exact ⟨rfl, rfl⟩
  | [_, _], _ => exact ⟨rfl, rfl⟩
  | c :: a :: b :: r, h =>
    by_cases hh : c = 58 ∧ isDig a = true ∧ isDig b = true ∧ a.toNat ≤ 53
    · rw [sixty_yes hh] at h; cases h
    · rw [sixty_no hh]; exact ⟨rfl, rfl⟩
structure Ru where
  k : Int
  a : Int
  b : Int
  c : Int
  x : Int
def Ru.z : Ru := ⟨0, 0, 0, 0, 0⟩
def Ru.ok (r : Ru) : Bool := rightR r.k r.a r.b r.c r.x
def Ru.txt (r : Ru) : List UInt8 := (textL r.k r.a r.b r.c r.x).1
def Ru.at (r : Ru) (y : Int) : Int := ruleDay r.k r.a r.b r.c y * 86400 + r.x
structure Ft where
  so : Int
  sd : Bool
  sa : List UInt8
  wo : Int
  wd : Bool
  wa : List UInt8
  has : Bool
  fr : Ru
  to : Ru
def Ft.z : Ft := ⟨0, false, [], 0, false, [], false, .z, .z⟩
def kindR (o : Int) (d : Bool) (l : List UInt8) (w : Bool) : Bool := abbrL l && (d == w) && decide (-89999 ≤ o ∧ o ≤ 89999)
def Ft.bare (f : Ft) : Prop := f.wo = 0 ∧ f.wd = false ∧ f.wa = [] ∧ (f.fr.k = 0 ∧ f.fr.a = 0 ∧ f.fr.b = 0 ∧ f.fr.c = 0 ∧ f.fr.x = 0) ∧ (f.to.k = 0 ∧ f.to.a = 0 ∧ f.to.b = 0 ∧ f.to.c = 0 ∧ f.to.x = 0)
instance (f : Ft) : Decidable f.bare := inferInstanceAs (Decidable (_ ∧ _))
def Ft.ok (f : Ft) : Bool := kindR f.so f.sd f.sa false && (if f.has = true then kindR f.wo f.wd f.wa true && f.fr.ok && f.to.ok else decide f.bare)
def nameT (l : List UInt8) : List UInt8 := if l.any (fun c => !letC c) = true then 60 :: (l ++ [62]) else l
def Ft.txt (f : Ft) : List UInt8 := nameT f.sa ++ ((clockL (-f.so)).1 ++ (if f.has = true then nameT f.wa ++ ((if f.wo - f.so ≠ 3600 then (clockL (-f.wo)).1 else []) ++ 44 :: (f.fr.txt ++ 44 :: f.to.txt)) else []))
def Ft.text (f : Ft) : List UInt8 × Bool := if f.ok = true then (f.txt, true) else ([], false)

/-- A name that is read: it, whether it may be, what is behind it. -/
def nameP (l : List UInt8) : List UInt8 × Bool × List UInt8 :=
  if l.head? = some 60 then ((splitL 62 l.tail).1, (splitL 62 l.tail).2.2 && abbrL (splitL 62 l.tail).1, (splitL 62 l.tail).2.1)
  else (l.take (nl (fun c => !letC c) l), abbrL (l.take (nl (fun c => !letC c) l)), l.drop (nl (fun c => !letC c) l))
structure Us where
  ok : Bool
  rest : List UInt8
  o : Int
  a : List UInt8
def usualP (l : List UInt8) : Us := ⟨(nameP l).2.1 && (timeL (nameP l).2.2).2.2, (timeL (nameP l).2.2).2.1, -(timeL (nameP l).2.2).1, (nameP l).1⟩
def summerP (so : Int) (l : List UInt8) : Us :=
  if (timeL (nameP l).2.2).2.2 = true then ⟨(nameP l).2.1, (timeL (nameP l).2.2).2.1, -(timeL (nameP l).2.2).1, (nameP l).1⟩ else ⟨(nameP l).2.1, (nameP l).2.2, so + 3600, (nameP l).1⟩
structure Rp where
  ok : Bool
  rest : List UInt8
  r : Ru
def ruleP (l : List UInt8) : Rp := ⟨(parseL (cutP 44 l).1).2.2.2.2.2.2 && (cutP 44 l).2, (parseL (cutP 44 l).1).2.2.2.2.2.1, ⟨(parseL (cutP 44 l).1).1, (parseL (cutP 44 l).1).2.1, (parseL (cutP 44 l).1).2.2.1, (parseL (cutP 44 l).1).2.2.2.1, (parseL (cutP 44 l).1).2.2.2.2.1⟩⟩
def Ft.chk (f : Ft) : Ft × Bool := if f.ok = true then (f, true) else (.z, false)
def Ft.parse (l : List UInt8) : Ft × Bool :=
  if (usualP l).ok = true then
    (if (usualP l).rest = [] then Ft.chk ⟨(usualP l).o, false, (usualP l).a, 0, false, [], false, .z, .z⟩
    else if (summerP (usualP l).o (usualP l).rest).ok = true then
      (if (ruleP (summerP (usualP l).o (usualP l).rest).rest).ok = true then
        (if (ruleP (ruleP (summerP (usualP l).o (usualP l).rest).rest).rest).ok = true then
          (if (ruleP (ruleP (summerP (usualP l).o (usualP l).rest).rest).rest).rest = [] then
            Ft.chk ⟨(usualP l).o, false, (usualP l).a, (summerP (usualP l).o (usualP l).rest).o, true, (summerP (usualP l).o (usualP l).rest).a, true, (ruleP (summerP (usualP l).o (usualP l).rest).rest).r, (ruleP (ruleP (summerP (usualP l).o (usualP l).rest).rest).rest).r⟩
          else (.z, false)) else (.z, false)) else (.z, false)) else (.z, false))
  else (.z, false)
/-- When the summer's time holds in a year. -/
def Ft.spans (f : Ft) (y : Int) : Prop := f.has = true ∧ f.ok = true ∧ 1 ≤ y ∧ y ≤ 9999
instance (f : Ft) (y : Int) : Decidable (f.spans y) := inferInstanceAs (Decidable (_ ∧ _))
def Ft.from' (f : Ft) (y : Int) : Int := f.fr.at y - f.so
def Ft.to' (f : Ft) (y : Int) : Int := f.to.at y - f.wo
/-- Whether a second's year is known; whether the summer's time holds. -/
def inDays (n : Int) : Prop := -719162 ≤ n / 86400 ∧ n / 86400 ≤ 2932896
instance (n : Int) : Decidable (inDays n) := inferInstanceAs (Decidable (_ ∧ _))
def Ft.sum (f : Ft) (p : Int) : Prop := inDays (p + f.so) ∧ f.spans (yearP ((p + f.so) / 86400)) ∧
  ((f.from' (yearP ((p + f.so) / 86400)) ≤ p ∧ p < f.to' (yearP ((p + f.so) / 86400))) ∨ (f.to' (yearP ((p + f.so) / 86400)) ≤ f.from' (yearP ((p + f.so) / 86400)) ∧ (f.from' (yearP ((p + f.so) / 86400)) ≤ p ∨ p < f.to' (yearP ((p + f.so) / 86400)))))
instance (f : Ft) (p : Int) : Decidable (f.sum p) := inferInstanceAs (Decidable (_ ∧ _))
end Go.Proofs.YtoiiblhbojhogaaDoor.Pl
end
section
set_option linter.unusedVariables false
set_option linter.unusedSimpArgs false
namespace Go.Proofs.YtoiiblhbojhogaaDoor
open Go Go.Proofs.YtoiiblhbojhogaaDoor.Eng Go.Proofs.YtoiiblhbojhogaaDoor.Pl
set_option linter.unusedVariables false
set_option linter.unusedSimpArgs false

theorem sHasPrefix (l : List UInt8) (c : UInt8) {K} (h : K (l.head? == some c)) : Xinternal_stringslite_HasPrefix (S l) (S [c]) K := by
  unfold Xinternal_stringslite_HasPrefix Yinternal_stringslite_HasPrefix
  simp only [S_size, S_extract, S_toList, decide_eq_true_eq, ge_iff_le, List.length_singleton]
  cases l with
  | nil => exact ifF (by simp) h
  | cons a l =>
    refine ifT (by simp; omega) (ifT (by simp; omega) ?_)
    have e : ((List.take (Int.toNat (((1 : Nat) : Int)) - 0) (List.drop 0 (a :: l)) == [c]) : Bool) = ((a :: l).head? == some c) := by
      simp
    rw [e]; exact h
theorem sIndex (l : List UInt8) (c : UInt8) {K} (h : K (if nl (· == c) l < l.length then (nl (· == c) l : Int) else -1)) : Xinternal_stringslite_Index (S l) (S [c]) K := by
  unfold Xinternal_stringslite_Index Yinternal_stringslite_Index
  simp only [S_size, S_toList, beq_iff_eq, List.length_singleton]
  refine ifF (by decide) (ifC (fun e => ?_) fun _ => ifT rfl (ifT (by decide) ?_))
  · subst e
    have : nl (· == c) [c] = 0 := by rw [nl_cons]; simp
    rw [this] at h; exact h
  · unfold XindexByte
    rw [indexByte_nl, S_data]
    have : (Eng.bAt (S [c]) 0).toNat.toUInt8 = c := by rw [bAt0]; simp
    rw [this]; exact h
theorem sCut (l : List UInt8) (c : UInt8) (hl : l.length ≤ 140737488351232) {K} (h : K (S (splitL c l).1) (S (splitL c l).2.1) (splitL c l).2.2) : Xstrings_Cut (S l) (S [c]) K := by
  unfold Xstrings_Cut Ystrings_Cut Xinternal_stringslite_Cut Yinternal_stringslite_Cut
  refine sIndex l c ?_
  unfold splitL at h
  simp only [S_size, S_extract, List.length_singleton, decide_eq_true_eq, ge_iff_le]
  by_cases e : nl (· == c) l < l.length
  · rw [if_pos e] at h
    simp only [if_pos e]
    rw [w64_in (by omega) (by omega)]
    refine ifT (by omega) (ifT (by omega) (ifT (by omega) (ifT (by omega) (ifT (by omega) ?_))))
    have e1 : Int.toNat ((nl (· == c) l : Int) + ((1 : Nat) : Int)) = nl (· == c) l + 1 := by omega
    have e2 : Int.toNat ((nl (· == c) l : Int)) = nl (· == c) l := by omega
    rw [e1, e2]
    rw [show (l.drop (nl (· == c) l + 1)).take (Int.toNat (l.length : Int) - (nl (· == c) l + 1)) = l.drop (nl (· == c) l + 1) from List.take_of_length_le (by simp)]
    exact h
  · rw [if_neg e] at h
    simp only [if_neg e]
    exact ifF (by omega) h
end Go.Proofs.YtoiiblhbojhogaaDoor
end
section
set_option linter.unusedVariables false
set_option linter.unusedSimpArgs false
namespace Go.Proofs.YtoiiblhbojhogaaDoor
open Go Go.Proofs.YtoiiblhbojhogaaDoor.Eng Go.Proofs.YtoiiblhbojhogaaDoor.Pl
set_option linter.unusedVariables false
set_option linter.unusedSimpArgs false
set_option maxRecDepth 100000
set_option maxHeartbeats 2000000

theorem kPre (n f : List UInt8) {K} (h : K (preB n f)) : Xstrings_HasPrefix (S n) (S f) K := by
  unfold Xstrings_HasPrefix Ystrings_HasPrefix Xinternal_stringslite_HasPrefix Yinternal_stringslite_HasPrefix
  simp only [S_size, S_extract, S_toList, decide_eq_true_eq, ge_iff_le, Int.toNat_natCast, List.drop_zero, Nat.sub_zero]
  unfold preB at h
  by_cases e : f.length ≤ n.length
  · rw [if_pos (by omega), if_pos (by omega)]; exact h
  · rw [if_neg (by omega)]
    have : (n.take f.length == f) = false := by
      simp only [beq_eq_false_iff_ne]
      intro hh
      have := congrArg List.length hh
      simp at this; omega
    rw [this] at h; exact h
theorem kIndex (l : List UInt8) (c : UInt8) {K} (h : K (if nl (· == c) l < l.length then (nl (· == c) l : Int) else -1)) : Xstrings_Index (S l) (S [c]) K := by
  unfold Xstrings_Index Ystrings_Index
  exact sIndex l c h
theorem kCut (l : List UInt8) (hl : l.length ≤ 140737488351232) {K} (h : ∀ b o, K (S (bareL l)) b o) : Xstrings_Cut (S l) (S [35]) K := by
  refine sCut l 35 hl ?_
  have : (splitL 35 l).1 = bareL l := by
    unfold splitL bareL
    split
    · rfl
    · rename_i hh
      have := nl_le (· == (35 : UInt8)) l
      rw [List.take_of_length_le (by omega)]
  rw [this]; exact h _ _
theorem kTrim (l : List UInt8) (hl : l.length ≤ 140737488351232) {K} (h : K (S (trimR l))) : Xstrings_TrimSuffix (S l) (S [13]) K := by
  unfold Xstrings_TrimSuffix Ystrings_TrimSuffix Xinternal_stringslite_TrimSuffix Yinternal_stringslite_TrimSuffix Xinternal_stringslite_HasSuffix Yinternal_stringslite_HasSuffix
  simp only [S_size, S_extract, S_toList, decide_eq_true_eq, ge_iff_le, List.length_singleton, lt]
  unfold trimR at h
  by_cases e : 1 ≤ l.length
  · have e1 : w64 ((l.length : Int) - ((1 : Nat) : Int)) = (l.length : Int) - 1 := w64_in (by omega) (by omega)
    rw [if_pos (by omega), if_pos (by omega), e1, if_pos (by omega)]
    have e2 : Int.toNat ((l.length : Int) - 1) = l.length - 1 := by omega
    have e3 : (List.take (Int.toNat (l.length : Int) - (l.length - 1)) (List.drop (l.length - 1) l) == [13]) = (l.getLast? == some 13) := by
      have : Int.toNat (l.length : Int) - (l.length - 1) = 1 := by omega
      rw [this, List.drop_eq_getElem_cons (show l.length - 1 < l.length by omega), List.take_succ_cons, List.take_zero, List.getLast?_eq_getElem?, List.getElem?_eq_getElem (show l.length - 1 < l.length by omega)]
      simp
    rw [e2, e3]
    cases hh : (l.getLast? == some 13)
    · rw [if_neg (by simp)]
      rw [if_neg (by simpa using hh)] at h; exact h
    · rw [if_pos rfl, if_pos (by omega), if_pos (by omega)]
      rw [if_pos (by simpa using hh)] at h
      rw [List.dropLast_eq_take] at h
      simpa using h
  · have : l = [] := by cases l <;> simp at e ⊢
    subst this
    rw [if_neg (by simp), if_neg (by simp)]
    simpa using h
def e0 : V := .c (.string (S []))
theorem WV_set (done : List (List UInt8)) (k : Nat) (r : List UInt8) :
    List.set (WV done ++ List.replicate (k + 1) e0) done.length (Eng.setE (List.getD (WV done ++ List.replicate (k + 1) e0) done.length Eng.V.bad) 0 [.c (.string (S r))]) = WV (done ++ [r]) ++ List.replicate k e0 := by
  rw [List.replicate_succ]
  have := WV_len done
  rw [← this, getD_mid, set_mid, WV_app]
  simp [WV, Eng.setE, e0]
theorem kGenLoop (c : UInt8) {K : List V → Bool → Bool → Prop} (k : Nat) (rest : List UInt8) (done : List (List UInt8)) (hb : rest.length + k + done.length ≤ 1000000000) (hk : K (WV (done ++ splN c k rest)) true false) :
    Eng.lp (Lstrings_genSplit_0 Xstrings_Index K) ((S rest, S [c], (0 : Int), ((done.length + k : Nat) : Int), (), (), (done.length : Int), ()), WV done ++ List.replicate (k + 1) e0, ()) := by
  refine lp_ind (fun x => (x.1.2.2.2.1 - x.1.2.2.2.2.2.2.1).toNat) (fun x => ∃ (k : Nat) (rest : List UInt8) (done : List (List UInt8)), rest.length + k + done.length ≤ 1000000000 ∧ K (WV (done ++ splN c k rest)) true false ∧
    x = ((S rest, S [c], (0 : Int), ((done.length + k : Nat) : Int), (), (), (done.length : Int), ()), WV done ++ List.replicate (k + 1) e0, ())) ?_ ⟨k, rest, done, hb, hk, rfl⟩
  rintro x ⟨k, rest, done, hb, hk, rfl⟩ kk hkk
  unfold Lstrings_genSplit_0
  simp only [decide_eq_true_eq, lt, Int.toNat_natCast]
  have l1 : (WV done ++ List.replicate (k + 1) e0).length = done.length + (k + 1) := by simp [WV_len]
  have l2 : ∀ r, (WV (done ++ [r]) ++ List.replicate k e0).length = done.length + (k + 1) := fun r => by simp [WV_len]; omega
  have w1 : w64 ((done.length : Int) + 1) = (done.length : Int) + 1 := w64_in (by omega) (by omega)
  have t1 : ∀ r, List.take (done.length + 1) (WV (done ++ [r]) ++ List.replicate k e0) = WV (done ++ [r]) := fun r => List.take_left' (by simp [WV_len])
  have n1 : Int.toNat ((done.length : Int) + 1) = done.length + 1 := by omega
  simp only [WV_set, l1, l2, w1, n1, Nat.sub_zero, t1]
  by_cases e : k = 0
  · subst e
    rw [if_neg (by omega), if_pos (by omega), if_pos (by omega), if_pos (by omega), if_pos (by omega), if_pos (Nat.ble_eq_true_of_le (by omega))]
    exact hk
  · obtain ⟨k, rfl⟩ : ∃ j, k = j + 1 := ⟨k - 1, by omega⟩
    rw [if_pos (by omega)]
    refine kIndex rest c ?_
    rw [splN] at hk
    by_cases hn : nl (· == c) rest < rest.length
    · rw [if_pos hn] at hk ⊢
      have w2 : w64 ((nl (· == c) rest : Int) + 0) = (nl (· == c) rest : Int) := by rw [Int.add_zero]; exact w64_in (by omega) (by omega)
      have w3 : w64 ((nl (· == c) rest : Int) + (([c] : List UInt8).length : Int)) = (nl (· == c) rest : Int) + 1 := by exact w64_in (by simp; omega) (by simp; omega)
      have n2 : Int.toNat ((nl (· == c) rest : Int) + 1) = nl (· == c) rest + 1 := by omega
      simp only [w2, w3, S_size, Int.toNat_natCast, n2, S_extract, WV_set, List.drop_zero, Nat.sub_zero]
      rw [if_neg (by omega), if_pos (by omega), if_pos (by omega), if_pos (by omega), if_pos (by omega), if_pos (by omega), if_pos (by omega)]
      refine hkk _ ⟨k, rest.drop (nl (· == c) rest + 1), done ++ [rest.take (nl (· == c) rest)], ?_, ?_, ?_⟩ ?_
      · simp; omega
      · rw [List.append_assoc]; exact hk
      · have : (rest.drop (nl (· == c) rest + 1)).take (rest.length - (nl (· == c) rest + 1)) = rest.drop (nl (· == c) rest + 1) := List.take_of_length_le (by simp)
        rw [this]
        simp only [List.length_append, List.length_singleton, Prod.mk.injEq, true_and, and_true]
        omega
      · simp; omega
    · rw [if_neg hn] at hk ⊢
      rw [if_pos (by omega), if_pos (by omega), if_pos (by omega), if_pos (by omega), if_pos (by omega), if_pos (Nat.ble_eq_true_of_le (by omega))]
      exact hk
theorem kSplitN (l : List UInt8) (c : UInt8) (n : Nat) (hn : 1 ≤ n) (hn' : n ≤ 1000) (hl : l.length ≤ 1000000) {K} (h : K (WV (splN c (n - 1) l)) true false) : Xstrings_SplitN (S l) (S [c]) (n : Int) K := by
  unfold Xstrings_SplitN Ystrings_SplitN Xstrings_genSplit Ystrings_genSplit
  simp only [beq_iff_eq, decide_eq_true_eq, lt, kS_nil]
  rw [if_neg (by omega), if_neg (by simp), if_neg (by omega)]
  have w1 : w64 (((S l).size : Int) + 1) = (l.length : Int) + 1 := by rw [S_size]; exact w64_in (by omega) (by omega)
  rw [w1]
  have go : ∀ m : Nat, 1 ≤ m → m ≤ n → splN c (m - 1) l = splN c (n - 1) l → (if 0 ≤ (m : Int) ∧ (m : Int) ≤ (m : Int) ∧ (m : Int) ≤ 4294967296 then
      Eng.lp (Lstrings_genSplit_0 Xstrings_Index fun r3 r4 r5 => K r3 r4 r5) ((S l, S [c], (0 : Int), w64 ((m : Int) - 1), (), (), (0 : Int), ()), List.replicate (Int.toNat (m : Int)) (Eng.ofVal (Value.string (ByteArray.mk #[]))), ()) else False) := fun m h1 h2 he => by
    have w2 : w64 ((m : Int) - 1) = ((m - 1 : Nat) : Int) := by rw [w64_in (by omega) (by omega)]; omega
    rw [if_pos (by omega), w2, show Eng.ofVal (Value.string (ByteArray.mk #[])) = e0 from rfl]
    have := kGenLoop c (K := fun r3 r4 r5 => K r3 r4 r5) (m - 1) l [] (by simp; omega) (by rw [List.nil_append, he]; exact h)
    have e1 : m - 1 + 1 = m := by omega
    rw [e1] at this
    simpa [WV] using this
  split
  · rename_i hlt
    have := go (l.length + 1) (by omega) (by omega) (by
      rw [Nat.add_sub_cancel, splN_spl c l.length l List.count_le_length, splN_spl c (n - 1) l (by have := List.count_le_length (a := c) (l := l); omega)])
    simpa using this
  · exact go n hn (Nat.le_refl _) rfl
theorem kSplit (l : List UInt8) (c : UInt8) (hl : l.length ≤ 2000000) {K} (h : K (WV (spl c l)) true false) : Xstrings_Split (S l) (S [c]) K := by
  unfold Xstrings_Split Ystrings_Split Xstrings_genSplit Ystrings_genSplit
  simp only [beq_iff_eq, decide_eq_true_eq, lt, kS_nil]
  rw [if_neg (by omega), if_neg (by simp), if_pos (by omega)]
  refine ⟨c, rfl, ?_⟩
  rw [S_data]
  have hc : Lib.countByte l c = l.count c := rfl
  have hc' := List.count_le_length (a := c) (l := l)
  rw [hc]
  dsimp only
  rw [show Eng.ofVal (Value.string (ByteArray.mk #[])) = e0 from rfl]
  have w1 : w64 (((S l).size : Int) + 1) = (l.length : Int) + 1 := by rw [S_size]; exact w64_in (by omega) (by omega)
  have w2 : w64 ((l.count c : Int) + 1) = ((l.count c + 1 : Nat) : Int) := by rw [w64_in (by omega) (by omega)]; omega
  rw [w1, w2, if_neg (show ¬ ((l.length : Int) + 1 < ((l.count c + 1 : Nat) : Int)) by omega), if_pos (by omega)]
  have w3 : w64 (((l.count c + 1 : Nat) : Int) - 1) = ((l.count c : Nat) : Int) := by rw [w64_in (by omega) (by omega)]; omega
  rw [w3]
  have := kGenLoop c (K := fun r3 r4 r5 => K r3 r4 r5) (l.count c) l [] (by simp; omega) (by rw [List.nil_append, splN_spl c _ l (Nat.le_refl _)]; exact h)
  simpa [WV] using this
theorem kLines (l : List UInt8) (hl : l.length ≤ 2000000) {K} (h : K (WV (linesL l)) true false) : Xlines_Split (S l) K := by
  unfold Xlines_Split Ylines_Split
  refine kSplit l 10 hl ?_
  obtain ⟨q1, q2, q3⟩ := spl_len 10 l
  unfold linesL at h
  generalize spl 10 l = ls at *
  have w1 : w64 (((WV ls).length : Int) - 1) = ((ls.length - 1 : Nat) : Int) := by rw [WV_len, w64_in (by omega) (by omega)]; omega
  have step : ∀ (n : Nat) (hn : n < ls.length), List.set (WV ((ls.take n).map trimR ++ ls.drop n)) n (Eng.setE (List.getD (WV ((ls.take n).map trimR ++ ls.drop n)) n Eng.V.bad) 0 [.c (.string (S (trimR ls[n])))]) = WV ((ls.take (n + 1)).map trimR ++ ls.drop (n + 1)) := fun n hn => by
    have hl1 : (WV ((ls.take n).map trimR)).length = n := by simp [WV_len]; omega
    rw [WV_app, List.drop_eq_getElem_cons hn]
    have e1 : WV (ls[n] :: ls.drop (n + 1)) = .c (.string (S ls[n])) :: WV (ls.drop (n + 1)) := rfl
    rw [e1]
    have g := getD_mid (WV ((ls.take n).map trimR)) V.bad (.c (.string (S ls[n]))) (WV (ls.drop (n + 1)))
    have s := set_mid (WV ((ls.take n).map trimR)) (.c (.string (S (trimR ls[n])))) (.c (.string (S ls[n]))) (WV (ls.drop (n + 1)))
    rw [hl1] at g s
    rw [g]
    show List.set _ n (V.c (.string (S (trimR ls[n])))) = _
    rw [s, WV_app, List.take_succ_eq_append_getElem hn, List.map_append, WV_app]
    simp [WV]
  have at' : ∀ (n : Nat) (hn : n < ls.length), ((ls.take n).map trimR ++ ls.drop n)[n]'(by simp; omega) = ls[n] := fun n hn => by
    rw [List.getElem_append_right (by simp; omega)]
    simp [Nat.min_eq_left (Nat.le_of_lt hn)]
  have len' : ∀ n, n ≤ ls.length → (WV ((ls.take n).map trimR ++ ls.drop n)).length = ls.length := fun n hn => by simp [WV_len]; omega
  rw [w1, if_pos (by rw [WV_len]; omega)]
  simp only [Int.toNat_natCast, Nat.sub_zero]
  refine asW (by omega) ?_
  rw [kS_nil]
  have hlast : ls.getLast? = some (ls[ls.length - 1]'(by omega)) := by rw [List.getLast?_eq_getElem?, List.getElem?_eq_getElem (by omega)]
  cases he : (ls[ls.length - 1]'(by omega)).isEmpty
  · have : ls.getLast? ≠ some [] := by
      rw [hlast]; intro hh
      simp only [Option.some.injEq] at hh
      rw [hh] at he; cases he
    rw [if_neg this] at h
    rw [if_neg (by simp)]
    refine lp_at (fun n => (((), (), (ls.length : Int), (n : Int), ()), (WV ((ls.take n).map trimR ++ ls.drop n), true, false), ())) ls.length (by simp [WV_len]) fun n hn k hk => ?_
    unfold Llines_Split_1
    simp only [decide_eq_true_eq, len' n hn, Int.toNat_natCast]
    by_cases e : n < ls.length
    · rw [if_pos (by omega), if_pos (by omega)]
      refine asW (by simp; omega) ?_
      rw [at' n e]
      refine kTrim _ (by have := q3 _ (List.getElem_mem e); omega) ?_
      rw [if_pos (by omega), if_pos trivial, if_pos e]
      have := hk e
      rw [step n e]
      have w2 : w64 ((n : Int) + 1) = ((n + 1 : Nat) : Int) := by rw [w64_in (by omega) (by omega)]; omega
      rw [w2]; exact this
    · have : n = ls.length := by omega
      subst this
      rw [if_neg (by omega)]
      simpa using h
  · have h0 : ls[ls.length - 1]'(by omega) = [] := by simpa using he
    have : ls.getLast? = some [] := by rw [hlast, h0]
    rw [if_pos this] at h
    rw [if_pos rfl, if_pos (by rw [WV_len]; omega), if_pos (by omega)]
    refine lp_at (fun n => (((), ls.length - 1, ((ls.length - 1 : Nat) : Int), (n : Int), ()), (WV ((ls.take n).map trimR ++ ls.drop n), true, false), ())) (ls.length - 1) (by simp) fun n hn k hk => ?_
    unfold Llines_Split_0
    simp only [decide_eq_true_eq, len' n (by omega), Int.toNat_natCast, Nat.zero_add]
    by_cases e : n < ls.length - 1
    · rw [if_pos (by omega), if_pos (by omega)]
      refine asW (by simp; omega) ?_
      rw [at' n (by omega)]
      refine kTrim _ (by have := q3 _ (List.getElem_mem (show n < ls.length by omega)); omega) ?_
      rw [if_pos (by omega), if_pos trivial, if_pos (by omega)]
      have := hk e
      rw [step n (by omega)]
      have w2 : w64 ((n : Int) + 1) = ((n + 1 : Nat) : Int) := by rw [w64_in (by omega) (by omega)]; omega
      simp only [lt]
      rw [w2]; exact this
    · have : n = ls.length - 1 := by omega
      subst this
      rw [if_neg (by omega), if_pos trivial, if_pos trivial, if_pos (Nat.ble_eq_true_of_le (by omega))]
      have e1 : List.take (ls.length - 1) (WV ((ls.take (ls.length - 1)).map trimR ++ ls.drop (ls.length - 1))) = WV (ls.dropLast.map trimR) := by
        rw [WV_app, List.take_left' (by simp [WV_len]), List.dropLast_eq_take]
      rw [e1]; exact h
end Go.Proofs.YtoiiblhbojhogaaDoor
end
section
set_option linter.unusedVariables false
set_option linter.unusedSimpArgs false
namespace Go.Proofs.YtoiiblhbojhogaaDoor
open Go Go.Proofs.YtoiiblhbojhogaaDoor.Eng Go.Proofs.YtoiiblhbojhogaaDoor.Pl
set_option linter.unusedVariables false
set_option linter.unusedSimpArgs false

theorem dl_of (l : List UInt8) (k : Nat) (hk : k ≤ l.length) (h1 : ∀ c ∈ l.take k, isDig c = true) (h2 : ∀ h : k < l.length, isDig l[k] = false) : dl l = k := by
  have := nl_of (fun c => !isDig c) l k hk (fun c hc => by simp [h1 c hc]) (fun h => by simp [h2 h])
  rw [← this]; unfold nl dl; simp
theorem sitoa (n : Int) (h0 : -9223372036854775808 ≤ n) (h1 : n ≤ 9223372036854775807) {K} (h : K (S (itoaK n))) : Xitoa n K :=
  ⟨⟨h0, h1⟩, by rw [← itoaK_eq n h0 h1]; exact h⟩

theorem more_bd (t : List UInt8) : 0 ≤ (moreL (sixtyL t)).1 ∧ (moreL (sixtyL t)).1 ≤ 59 := by
  unfold moreL; split
  · exact sixty_bd _
  · simp
end Go.Proofs.YtoiiblhbojhogaaDoor
end
section
set_option linter.unusedVariables false
set_option linter.unusedSimpArgs false
namespace Go.Proofs.YtoiiblhbojhogaaDoor
open Go Go.Proofs.YtoiiblhbojhogaaDoor.Eng Go.Proofs.YtoiiblhbojhogaaDoor.Pl
set_option linter.unusedVariables false
set_option linter.unusedSimpArgs false

theorem take_all (t : List UInt8) (k : Nat) : (t.drop k).take (t.length - k) = t.drop k := List.take_of_length_le (by simp)
theorem date_len (l : List UInt8) : (dateL l).2.2.2.2.1.length ≤ l.length := by
  obtain ⟨j, _, e, _⟩ := dateL_drop l
  rw [e, List.length_drop]; omega
theorem tdivN (v m : Nat) : Int.tdiv (v : Int) (m : Int) = ((v / m : Nat) : Int) := by rw [Int.tdiv_eq_ediv_of_nonneg (by omega)]; rfl
theorem tmodN (v m : Nat) : Int.tmod (v : Int) (m : Int) = ((v % m : Nat) : Int) := by rw [Int.tmod_eq_emod_of_nonneg (by omega)]; rfl
theorem itoaK_len' (n : Int) : (itoaK n).length ≤ 21 := itoaK_len n
theorem clockB_len (a : Nat) : (clockB a).length ≤ 102 := by
  have l1 := digsN_len 20 (a / 3600)
  have l2 := pairL_len (a / 60 % 60)
  have l3 := pairL_len (a % 60)
  unfold clockB
  rw [List.length_append]
  repeat' split
  all_goals first | omega | (simp only [List.length_append, List.length_nil]; omega)
end Go.Proofs.YtoiiblhbojhogaaDoor
end
section
set_option linter.unusedVariables false
set_option linter.unusedSimpArgs false
namespace Go.Proofs.YtoiiblhbojhogaaDoor
open Go Go.Proofs.YtoiiblhbojhogaaDoor.Eng Go.Proofs.YtoiiblhbojhogaaDoor.Pl
set_option linter.unusedVariables false
set_option linter.unusedSimpArgs false

theorem tmod_leap (y : Int) : (Int.tmod y 4 = 0 ↔ y % 4 = 0) ∧ (Int.tmod y 100 = 0 ↔ y % 100 = 0) ∧ (Int.tmod y 400 = 0 ↔ y % 400 = 0) := by
  refine ⟨?_, ?_, ?_⟩ <;> rw [← Int.dvd_iff_emod_eq_zero, Int.dvd_iff_tmod_eq_zero]
theorem sleap (y : Int) {K} (h : K (leapY y)) : Xday_Leap y K := by
  unfold Xday_Leap Yday_Leap
  obtain ⟨t1, t2, t3⟩ := tmod_leap y
  have fin : ∀ z : Bool, (z = true ↔ (y % 4 = 0 ∧ (y % 100 ≠ 0 ∨ y % 400 = 0))) → K z := fun z hz => cast (congrArg K (Bool.eq_iff_iff.2 ((leapY_iff y).trans hz.symm))) h
  simp only [beq_iff_eq, bne_iff_ne, ne_eq, t1, t2]
  refine ifC (fun h1 => ifC (fun h2 => fin _ ?_) fun h2 => fin _ ?_) fun h1 => fin _ ?_
  · simp; omega
  · rw [beq_iff_eq, t3]; omega
  · simp; omega
theorem slast (y m : Int) {K} (h : K (if 1 ≤ y ∧ y ≤ 9999 ∧ 1 ≤ m ∧ m ≤ 12 then dim y m else 0) (decide (1 ≤ y ∧ y ≤ 9999 ∧ 1 ≤ m ∧ m ≤ 12))) : Xday_Last y m K := by
  unfold Xday_Last Yday_Last
  simp only [decide_eq_true_eq, gt_iff_lt]
  by_cases e : 1 ≤ y ∧ y ≤ 9999 ∧ 1 ≤ m ∧ m ≤ 12
  · rw [if_pos e, decide_eq_true e] at h
    refine ifF (by omega) (ifF (by omega) (ifF (by omega) (ifF (by omega) ?_)))
    rw [w64_in (by omega) (by omega)]
    refine ifT (by omega) ?_
    rcases month_cases e.2.2.1 e.2.2.2 with rfl | rfl | rfl | rfl | rfl | rfl | rfl | rfl | rfl | rfl | rfl | rfl
    all_goals
      simp only [Int.sub_self, Int.reduceSub, Int.reduceToNat, Nat.reduceMul, List.getElem?_cons_zero, List.getElem?_cons_succ, Eng.asInt, if_true, beq_iff_eq, Int.toNat_zero, Nat.zero_mul, beq_self_eq_true, Int.reduceBEq, Bool.false_eq_true, if_false]
      first
      | exact h
      | (refine sleap _ ?_
         unfold dim at h
         rw [if_pos rfl] at h
         refine ifC (fun hl => ?_) fun hl => ?_
         · rw [if_pos hl] at h; exact h
         · rw [if_neg hl] at h; exact h)
  · rw [if_neg e, decide_eq_false e] at h
    exact ifC (fun _ => h) fun _ => ifC (fun _ => h) fun _ => ifC (fun _ => h) fun _ => ifT (by omega) h
theorem ediv_in (a b : Int) (h0 : -9223372036854775808 ≤ a) (h1 : a ≤ 9223372036854775807) (hb : 1 ≤ b) : -9223372036854775808 ≤ a / b ∧ a / b ≤ 9223372036854775807 := by
  constructor
  · have : a ≤ a / b ∨ 0 ≤ a / b := by
      by_cases hn : 0 ≤ a
      · exact .inr (Int.ediv_nonneg hn (by omega))
      · refine .inl (Int.le_ediv_of_mul_le (by omega) ?_)
        have : (b - 1) * a ≤ 0 := Int.mul_nonpos_of_nonneg_of_nonpos (by omega) (by omega)
        rw [Int.sub_mul, Int.mul_comm b a] at this
        omega
    omega
  · have := Int.ediv_le_self (a := a) b
    by_cases hn : 0 ≤ a
    · have := this hn; omega
    · have := Int.ediv_neg_of_neg_of_pos (by omega : a < 0) (by omega : 0 < b); omega
theorem sdiv (a b : Int) (h0 : -9223372036854775808 ≤ a) (h1 : a ≤ 9223372036854775807) (hb : 1 ≤ b) (hb' : b ≤ 9223372036854775807) {K} (h : K (a / b) (a % b) true) : Xnum_Div a b K := by
  unfold Xnum_Div Ynum_Div
  have hm := Int.emod_nonneg a (by omega : b ≠ 0)
  have hm2 := Int.emod_lt_of_pos a (by omega : 0 < b)
  obtain ⟨hq1, hq2⟩ := ediv_in a b h0 h1 hb
  simp only [decide_eq_true_eq, lt]
  refine ifF (by omega) (ifF (by omega) (ifF (by omega) ?_))
  by_cases hn : 0 ≤ a
  · rw [Int.tmod_eq_emod_of_nonneg hn, Int.tdiv_eq_ediv_of_nonneg hn]
    refine ifF (by omega) ?_
    rw [w64_in hq1 hq2]; exact h
  · by_cases hz : a % b = 0
    · have hd : b ∣ a := Int.dvd_of_emod_eq_zero hz
      have e1 : Int.tmod a b = 0 := Int.tmod_eq_zero_of_dvd hd
      have e2 : Int.tdiv a b = a / b := by
        obtain ⟨c, rfl⟩ := hd
        rw [Int.mul_tdiv_cancel_left _ (by omega), Int.mul_ediv_cancel_left _ (by omega)]
      rw [e1, e2]
      refine ifF (by omega) ?_
      rw [w64_in hq1 hq2, ← hz]; exact h
    · have e1 : Int.tmod a b = a % b - b := by
        rw [Int.tmod_eq_emod]
        have : ¬ (0 ≤ a ∨ b ∣ a) := by
          rintro (h | h)
          · exact hn h
          · exact hz (Int.emod_eq_zero_of_dvd h)
        rw [if_neg this]
        have : (b.natAbs : Int) = b := by omega
        omega
      have e2 : Int.tdiv a b = a / b + 1 := by
        have := Int.mul_tdiv_add_tmod a b
        rw [e1] at this
        have hdm := Int.mul_ediv_add_emod a b
        have h2 : b * (Int.tdiv a b) = b * (a / b + 1) := by rw [Int.mul_add]; omega
        exact Int.eq_of_mul_eq_mul_left (by omega) h2
      have hlt : a / b < 0 := Int.ediv_neg_of_neg_of_pos (by omega) (by omega)
      rw [e1, e2]
      refine ifT (by omega) ?_
      rw [w64_in (n := a / b + 1) (by omega) (by omega), w64_in (by omega) (by omega), w64_in (by omega) (by omega), show a / b + 1 - 1 = a / b by omega, show a % b - b + b = a % b by omega]
      exact h
theorem sdiv0 (a b : Int) (hb : b < 1) {K} (h : K 0 0 false) : Xnum_Div a b K := by
  unfold Xnum_Div Ynum_Div
  exact ifT (by simpa using hb) h
def okD (y m d : Int) : Prop := 1 ≤ y ∧ y ≤ 9999 ∧ 1 ≤ m ∧ m ≤ 12 ∧ 1 ≤ d ∧ d ≤ dim y m
instance (y m d : Int) : Decidable (okD y m d) := by unfold okD; infer_instance
theorem snum (y m d : Int) (hd0 : -9223372036854775808 ≤ d) (hd1 : d ≤ 9223372036854775807) {K} (h : K (if okD y m d then num y m d else 0) (decide (okD y m d))) : Xday_Number y m d K := by
  unfold Xday_Number Yday_Number
  refine slast _ _ ?_
  simp only [decide_eq_true_eq, gt_iff_lt, lt]
  by_cases e : 1 ≤ y ∧ y ≤ 9999 ∧ 1 ≤ m ∧ m ≤ 12
  · rw [decide_eq_true e, if_pos e]
    refine ifF (by simp) ?_
    by_cases e2 : 1 ≤ d ∧ d ≤ dim y m
    · have ok : okD y m d := ⟨e.1, e.2.1, e.2.2.1, e.2.2.2, e2.1, e2.2⟩
      rw [if_pos ok, decide_eq_true ok] at h
      refine ifF (by omega) (ifF (by omega) ?_)
      have hd := dim_bd y m
      rw [← numP_eq e.2.2.1 e.2.2.2] at h
      unfold numP sy sm at h
      refine ifC (fun hm => ?_) fun hm => ?_
      · rw [if_pos hm, if_pos hm] at h
        rw [w64_in (n := y - 1) (by omega) (by omega)]
        refine sdiv _ _ (by omega) (by omega) (by omega) (by omega) ?_
        have b1 : 0 ≤ (y - 1) % 400 ∧ (y - 1) % 400 ≤ 399 := by omega
        have b2 : 0 ≤ (y - 1) / 400 ∧ (y - 1) / 400 ≤ 25 := by omega
        generalize (y - 1) % 400 = r at *
        generalize (y - 1) / 400 = q at *
        simp (disch := omega) only [w64_in, Int.tdiv_eq_ediv_of_nonneg]
        refine cast (congrArg (fun z => K z true) ?_) h
        omega
      · rw [if_neg hm, if_neg hm] at h
        refine sdiv _ _ (by omega) (by omega) (by omega) (by omega) ?_
        have b1 : 0 ≤ y % 400 ∧ y % 400 ≤ 399 := by omega
        have b2 : 0 ≤ y / 400 ∧ y / 400 ≤ 25 := by omega
        generalize y % 400 = r at *
        generalize y / 400 = q at *
        simp (disch := omega) only [w64_in, Int.tdiv_eq_ediv_of_nonneg]
        refine cast (congrArg (fun z => K z true) ?_) h
        omega
    · have ok : ¬ okD y m d := fun h => e2 h.2.2.2.2
      rw [if_neg ok, decide_eq_false ok] at h
      exact ifC (fun _ => h) fun _ => ifT (by omega) h
  · have ok : ¬ okD y m d := fun h => e ⟨h.1, h.2.1, h.2.2.1, h.2.2.2.1⟩
    rw [if_neg ok, decide_eq_false ok] at h
    rw [decide_eq_false e]
    exact ifT rfl h
theorem sday (n : Int) {K} (h : if -719162 ≤ n ∧ n ≤ 2932896 then K (yearP n) (monP n) (dayP n) true else K 0 0 0 false) : Xday_Date n K := by
  unfold Xday_Date Yday_Date
  simp only [decide_eq_true_eq, gt_iff_lt, lt]
  by_cases e : -719162 ≤ n ∧ n ≤ 2932896
  · rw [if_pos e] at h
    refine ifF (by omega) (ifF (by omega) ?_)
    rw [w64_in (n := n + 719468) (by omega) (by omega)]
    refine sdiv _ _ (by omega) (by omega) (by omega) (by omega) ?_
    have b1 : 0 ≤ (n + 719468) / 146097 ∧ (n + 719468) / 146097 ≤ 25 := by omega
    have b2 : 0 ≤ (n + 719468) % 146097 ∧ (n + 719468) % 146097 ≤ 146096 := by omega
    have hv := doy_bd (by omega : -719162 ≤ n) (by omega)
    unfold yearP monP dayP mon doy yrs era ofE at *
    generalize (n + 719468) / 146097 = q at *
    generalize (n + 719468) % 146097 = o at *
    have hg : 0 ≤ gy o ∧ gy o ≤ 146096 ∧ gy o = o - o / 1460 + o / 36524 - o / 146096 := by unfold gy; omega
    simp (disch := omega) only [w64_in, Int.tdiv_eq_ediv_of_nonneg]
    rw [← hg.2.2]
    have hY : 0 ≤ gy o / 365 ∧ gy o / 365 ≤ 400 := by omega
    have hS : st (gy o / 365) = 365 * (gy o / 365) + gy o / 365 / 4 - gy o / 365 / 100 := rfl
    rw [hS] at hv h
    generalize o - (365 * (gy o / 365) + gy o / 365 / 4 - gy o / 365 / 100) = D at *
    simp (disch := omega) only [w64_in, Int.tdiv_eq_ediv_of_nonneg]
    refine ifC (fun hm => ?_) fun hm => ?_
    · rw [if_pos (by omega), if_pos (by omega)] at h; exact h
    · rw [if_neg (by omega), if_neg (by omega)] at h; exact h
  · rw [if_neg e] at h
    exact ifC (fun _ => h) fun _ => ifT (by omega) h
/-- A rule's second of a year, from the first of 1970 on. -/
def ruleAt (k a b c x y : Int) : Int := ruleDay k a b c y * 86400 + x
theorem sadd (a b : Int) (ha : -9223372036854775808 ≤ a ∧ a ≤ 9223372036854775807) (hb : -9223372036854775808 ≤ b ∧ b ≤ 9223372036854775807) {K}
    (h : if -9223372036854775808 ≤ a + b ∧ a + b ≤ 9223372036854775807 then K (a + b) true else K 0 false) : Xnum_Add a b K := by
  unfold Xnum_Add Ynum_Add
  simp only [lt, bne_iff_ne, ne_eq]
  by_cases e : -9223372036854775808 ≤ a + b ∧ a + b ≤ 9223372036854775807
  · rw [if_pos e] at h
    rw [w64_in e.1 e.2]
    exact ifC (fun h1 => ifC (fun h2 => absurd h1 (by simp; omega)) fun _ => h) fun _ => h
  · rw [if_neg e] at h
    have hw : w64 (a + b) = if a + b < 0 then a + b + 18446744073709551616 else a + b - 18446744073709551616 := by
      unfold w64 IntKind.wrap
      simp [IntKind.bits, IntKind.signed]
      split <;> omega
    rw [hw]
    refine ifT ?_ (ifT (by omega) h)
    split <;> simp <;> omega
end Go.Proofs.YtoiiblhbojhogaaDoor
end
section
set_option linter.unusedVariables false
set_option linter.unusedSimpArgs false
namespace Go.Proofs.YtoiiblhbojhogaaDoor
open Go Go.Proofs.YtoiiblhbojhogaaDoor.Eng Go.Proofs.YtoiiblhbojhogaaDoor.Pl
set_option linter.unusedVariables false
set_option linter.unusedSimpArgs false
set_option maxRecDepth 100000
set_option maxHeartbeats 2000000

theorem take_more (l : List UInt8) (a p w : Nat) (h : a ≤ p) : (l.drop a).take (p - a) ++ (l.drop p).take w = (l.drop a).take (p + w - a) := by
  have e : p + w - a = (p - a) + w := by omega
  rw [e, List.take_add, List.drop_drop]
  congr 2
  congr 1; omega
theorem kWords (l : List UInt8) (hl : l.length ≤ 1000000) {K} (h : K (WV (wordsL l)) true false) : Xlines_Words (S l) K := by
  unfold Xlines_Words Ylines_Words
  rw [if_neg (by rw [S_size]; omega), show S l ++ ByteArray.mk #[32] = S (l ++ [32]) from S_append l [32]]
  have hlen : (l ++ [32]).length = l.length + 1 := by simp
  refine lp_ind (fun x => l.length + 1 - x.2.1.2) (fun x => ∃ (pos : Nat) (f : Int) (cur : List UInt8) (done : List (List UInt8)), pos ≤ l.length + 1 ∧
    ((f = -1 ∧ cur = []) ∨ ∃ a : Nat, f = (a : Int) ∧ a < pos ∧ pos ≤ l.length ∧ cur = (l.drop a).take (pos - a)) ∧ done ++ wd cur ((l ++ [32]).drop pos) = wordsL l ∧
    x = ((S l, (), f, (), ()), (S (l ++ [32]), pos), WV done, ())) ?_ ⟨0, -1, [], [], by omega, .inl ⟨rfl, rfl⟩, by rw [List.drop_zero, List.nil_append, wd_blank]; rfl, rfl⟩
  rintro x ⟨pos, f, cur, done, hp, hf, hw, rfl⟩ k hk
  unfold Llines_Words_0
  simp only [S_size, hlen, decide_eq_true_eq]
  have hdl : done.length ≤ l.length + 1 := by
    have h1 := congrArg List.length hw
    have h2 := (wd_len l []).1
    unfold wordsL at h1
    simp at h1; omega
  by_cases e : pos < l.length + 1
  · rw [if_pos e]
    have hpos : pos < (l ++ [32]).length := by omega
    have hdrop : (l ++ [32]).drop pos = (l ++ [32])[pos] :: (l ++ [32]).drop (pos + 1) := List.drop_eq_getElem_cons hpos
    have key : (blankB (l ++ [32])[pos] = true ∧ Utf8.decode (S (l ++ [32])) pos = ((l ++ [32])[pos].toNat, 1)) ∨
        (∃ r w, Utf8.decode (S (l ++ [32])) pos = (r, w) ∧ r ≠ 32 ∧ r ≠ 9 ∧ 1 ≤ w ∧ pos + w ≤ l.length ∧ ∀ c ∈ (l.drop pos).take w, blankB c = false) := by
      have lastb : ∀ w, pos + w ≤ l.length + 1 → (∀ c ∈ ((l ++ [32]).drop pos).take w, blankB c = false) → 1 ≤ w → pos + w ≤ l.length ∧ ∀ c ∈ (l.drop pos).take w, blankB c = false := fun w hw1 hw2 hw3 => by
        have hle : pos + w ≤ l.length := by
          by_cases e2 : pos + w = l.length + 1
          · exfalso
            have : (32 : UInt8) ∈ ((l ++ [32]).drop pos).take w := by
              have hz : (((l ++ [32]).drop pos).take w)[w - 1]? = some 32 := by
                rw [List.getElem?_take, if_pos (by omega), List.getElem?_drop, List.getElem?_append_right (by omega)]
                have : pos + (w - 1) - l.length = 0 := by omega
                rw [this]; rfl
              exact List.mem_of_getElem? hz
            have := hw2 _ this
            simp [blankB] at this
          · omega
        refine ⟨hle, fun c hc => hw2 c ?_⟩
        rw [List.drop_append_of_le_length (by omega), List.take_append_of_le_length (by simp; omega)]
        exact hc
      by_cases hb : (l ++ [32])[pos].toNat < 128
      · have hd := decode_lo (l ++ [32]) pos hpos hb
        cases hbl : blankB (l ++ [32])[pos]
        · refine .inr ⟨_, 1, hd, fun h32 => ?_, fun h9 => ?_, Nat.le_refl _, lastb 1 (by omega) (fun c hc => ?_) (Nat.le_refl _)⟩
          · rw [show (l ++ [32])[pos] = 32 from u8_eq h32] at hbl; simp [blankB] at hbl
          · rw [show (l ++ [32])[pos] = 9 from u8_eq h9] at hbl; simp [blankB] at hbl
          · rw [hdrop, List.take_succ_cons, List.take_zero, List.mem_singleton] at hc
            rw [hc]; exact hbl
        · exact .inl ⟨rfl, hd⟩
      · obtain ⟨d1, d2, d3, d4⟩ := decode_cont (l ++ [32]) pos hpos (by omega)
        rw [hlen] at d3
        generalize Utf8.decode (S (l ++ [32])) pos = dc at *
        obtain ⟨r, w⟩ := dc
        dsimp only at d1 d2 d3 d4
        refine .inr ⟨r, w, rfl, by omega, by omega, d2, lastb _ (by omega) (fun c hc => ?_) d2⟩
        have := d4 c hc
        simp only [blankB, Bool.or_eq_false_iff, beq_eq_false_iff_ne]
        constructor <;> (intro hcc; subst hcc; revert this; decide)
    rcases key with ⟨hbl, hd⟩ | ⟨r, w, hd, n32, n9, w1, hpw, hnb⟩
    · rw [hd]
      dsimp only
      have hwd : wd cur ((l ++ [32]).drop pos) = if cur = [] then wd [] ((l ++ [32]).drop (pos + 1)) else cur :: wd [] ((l ++ [32]).drop (pos + 1)) := by
        rw [hdrop, wd, if_pos hbl]
      rw [hwd] at hw
      have val : (((l ++ [32])[pos].toNat : Int) = 32) ∨ (((l ++ [32])[pos].toNat : Int) = 9) := by
        simp only [blankB, Bool.or_eq_true, beq_iff_eq] at hbl
        rcases hbl with hbl | hbl <;> rw [hbl]
        · exact .inl rfl
        · exact .inr rfl
      have next : cur = [] → k ((S l, (), f, (), ()), (S (l ++ [32]), pos + 1), WV done, ()) := fun hc => by
        rw [if_pos hc] at hw
        refine hk _ ⟨pos + 1, f, [], done, by omega, .inl ⟨?_, rfl⟩, hw, rfl⟩ (by show l.length + 1 - (pos + 1) < l.length + 1 - pos; omega)
        rcases hf with hf | ⟨a, h1, h2, h3, h4⟩
        · exact hf.1
        · exfalso
          rw [hc] at h4
          have := congrArg List.length h4
          simp at this; omega
      have flush : (a : Nat) → f = (a : Int) → a < pos → pos ≤ l.length → cur = (l.drop a).take (pos - a) →
          (if 0 ≤ (pos : Int) ∧ (pos : Int) ≤ (l.length : Int) then
          (if 0 ≤ f ∧ f ≤ (pos : Int) then
          (if Eng.roomOk (List.length (WV done) + List.length [Eng.V.c (Value.string (ByteArray.extract (S l) (Int.toNat f) (Int.toNat (pos : Int))))]) (16 : Nat) = true then
          k ((S l, (), (-1), (), ()), (S (l ++ [32]), pos + 1), WV done ++ [Eng.V.c (Value.string (ByteArray.extract (S l) (Int.toNat f) (Int.toNat (pos : Int))))], ())
          else False) else False) else False) := fun a h1 h2 h3 h4 => by
        subst h1
        have hc : cur ≠ [] := fun hc => by
          rw [hc] at h4
          have := congrArg List.length h4
          simp at this; omega
        rw [if_neg hc] at hw
        rw [if_pos (by omega), if_pos (by omega), if_pos (by simp [roomOk, WV_len]; omega)]
        have e1 : WV done ++ [Eng.V.c (Value.string (ByteArray.extract (S l) (Int.toNat (a : Int)) (Int.toNat (pos : Int))))] = WV (done ++ [cur]) := by
          rw [WV_app, h4, S_extract]; rfl
        rw [e1]
        exact hk _ ⟨pos + 1, -1, [], done ++ [cur], by omega, .inl ⟨rfl, rfl⟩, by rw [List.append_assoc]; exact hw, rfl⟩ (by show l.length + 1 - (pos + 1) < l.length + 1 - pos; omega)
      rcases hf with ⟨hf, hc⟩ | ⟨a, h1, h2, h3, h4⟩
      · have nx := next hc
        subst hf
        rcases val with v | v <;> rw [v]
        · rw [if_pos (by simp), if_neg (by omega)]; exact nx
        · rw [if_neg (by simp), if_pos (by simp), if_neg (by omega), if_neg (by simp)]; exact nx
      · have fl := flush a h1 h2 h3 h4
        rcases val with v | v <;> rw [v]
        · rw [if_pos (by simp), if_pos (by omega)]; exact fl
        · rw [if_neg (by simp), if_pos (by simp), if_pos (by omega)]; exact fl
    · rw [hd]
      dsimp only
      rw [if_neg (by simp; omega), if_neg (by simp; omega), if_pos (by simp; omega)]
      have hsk : (l ++ [32]).drop pos = (l.drop pos).take w ++ (l ++ [32]).drop (pos + w) := by
        have : (l ++ [32]).drop pos = ((l ++ [32]).drop pos).take w ++ ((l ++ [32]).drop pos).drop w := (List.take_append_drop w _).symm
        rw [List.drop_drop] at this
        rw [this]
        congr 1
        rw [List.drop_append_of_le_length (by omega), List.take_append_of_le_length (by simp; omega)]
      rw [hsk, wd_skip _ _ _ hnb] at hw
      rcases hf with ⟨hf, hc⟩ | ⟨a, h1, h2, h3, h4⟩
      · subst hf; subst hc
        rw [if_pos (by omega)]
        exact hk _ ⟨pos + w, (pos : Int), (l.drop pos).take w, done, by omega, .inr ⟨pos, rfl, by omega, hpw, by congr 1; omega⟩, by rw [List.nil_append] at hw; exact hw, rfl⟩ (by show l.length + 1 - (pos + w) < l.length + 1 - pos; omega)
      · subst h1
        rw [if_neg (by omega)]
        refine hk _ ⟨pos + w, (a : Int), cur ++ (l.drop pos).take w, done, by omega, .inr ⟨a, rfl, by omega, hpw, ?_⟩, hw, rfl⟩ (by show l.length + 1 - (pos + w) < l.length + 1 - pos; omega)
        rw [h4, take_more l a pos w (by omega)]
  · rw [if_neg e]
    have hpe : pos = l.length + 1 := by omega
    rcases hf with ⟨hf, hc⟩ | ⟨a, h1, h2, h3, h4⟩
    · subst hc
      rw [hpe, List.drop_eq_nil_of_le (by omega), wd, if_pos rfl, List.append_nil] at hw
      rw [hw]; exact h
    · omega
theorem kFold (l : List UInt8) (hl : l.length ≤ 1000000) {K} (h : K (S (foldLw l))) : Xlines_Fold (S l) K := by
  unfold Xlines_Fold Ylines_Fold
  rw [bytesV_S, B8_len]
  have cons : ∀ n (hn : n < l.length), foldLw (l.take (n + 1)) ++ l.drop (n + 1) = foldLw (l.take n) ++ lowB l[n] :: l.drop (n + 1) := fun n hn => by
    unfold foldLw; rw [List.take_succ_eq_append_getElem hn, List.map_append, List.append_assoc]; rfl
  have cons0 : ∀ n (hn : n < l.length), foldLw (l.take n) ++ l.drop n = foldLw (l.take n) ++ l[n] :: l.drop (n + 1) := fun n hn => by
    rw [← List.drop_eq_getElem_cons hn]
  have len : ∀ n, n ≤ l.length → (foldLw (l.take n) ++ l.drop n).length = l.length := fun n hn => by simp [foldLw]; omega
  refine lp_at (fun n => ((ByteArray.mk #[], (), (), (l.length : Int), (n : Int), ()), B8 (foldLw (l.take n) ++ l.drop n), ())) l.length (by simp [foldLw]) fun n hn k hk => ?_
  unfold Llines_Fold_0
  simp only [decide_eq_true_eq, B8_len, len n hn, Int.toNat_natCast]
  by_cases e : n < l.length
  · have hat : (foldLw (l.take n) ++ l.drop n)[n]'(by rw [len n hn]; exact e) = l[n] := by
      rw [List.getElem_append_right (by simp [foldLw]; omega)]
      simp [foldLw, Nat.min_eq_left hn]
    have hk := hk e
    have w1 : w64 ((n : Int) + 1) = ((n + 1 : Nat) : Int) := by rw [w64_in (by omega) (by omega)]; omega
    rw [cons n e] at hk
    rw [if_pos (by omega), if_pos (by omega)]
    refine asB8 (by rw [len n hn]; exact e) ?_
    rw [hat]
    have same : ¬ (65 ≤ l[n].toNat ∧ l[n].toNat ≤ 90) → k ((ByteArray.mk #[], (), (), (l.length : Int), w64 ((n : Int) + 1), ()), B8 (foldLw (l.take n) ++ l.drop n), ()) := fun hno => by
      have : lowB l[n] = l[n] := by unfold lowB; rw [if_neg hno]
      rw [this, ← cons0 n e] at hk
      rw [w1]; exact hk
    by_cases h1 : (l[n].toNat : Int) ≥ 65
    · rw [if_pos h1]
      by_cases h2 : (l[n].toNat : Int) ≤ 90
      · rw [if_pos h2]
        rw [if_pos (by omega)]
        refine asB8 (by rw [len n hn]; exact e) ?_
        rw [hat, if_pos (by omega), if_pos e]
        simp only [lt]
        rw [w1]
        have hset : List.set (B8 (foldLw (l.take n) ++ l.drop n)) n (Eng.setE (List.getD (B8 (foldLw (l.take n) ++ l.drop n)) n Eng.V.bad) 0 [V.c (Value.int IntKind.u8 (wu8 ((l[n].toNat : Int) + 32)))]) = B8 (foldLw (l.take n) ++ lowB l[n] :: l.drop (n + 1)) := by
          rw [cons0 n e]
          have b1 : ∀ x : UInt8, B8 (foldLw (l.take n) ++ x :: l.drop (n + 1)) = B8 (foldLw (l.take n)) ++ V.c (.int .u8 (x.toNat : Int)) :: B8 (l.drop (n + 1)) := fun x => by simp [B8]
          have b2 : (B8 (foldLw (l.take n))).length = n := by simp [B8, foldLw]; omega
          rw [b1, b1]
          have g := getD_mid (B8 (foldLw (l.take n))) V.bad (V.c (.int .u8 (l[n].toNat : Int))) (B8 (l.drop (n + 1)))
          rw [b2] at g
          rw [g]
          show List.set _ n (V.c (.int .u8 (wu8 ((l[n].toNat : Int) + 32)))) = _
          have st := set_mid (B8 (foldLw (l.take n))) (V.c (.int .u8 (wu8 ((l[n].toNat : Int) + 32)))) (V.c (.int .u8 (l[n].toNat : Int))) (B8 (l.drop (n + 1)))
          rw [b2] at st
          rw [st]
          have : (lowB l[n]).toNat = l[n].toNat + 32 := by
            unfold lowB; rw [if_pos (by omega)]
            rw [UInt8.toNat_ofNat']
            omega
          rw [this, wu8_in (by omega) (by omega)]
          rfl
        rw [hset]; exact hk
      · rw [if_neg h2]; exact same (by omega)
    · rw [if_neg h1]; exact same (by omega)
  · have : n = l.length := by omega
    subst this
    rw [if_neg (by omega), if_pos (B8_all _), B8_pack]
    simpa using h
theorem and_lo (a : Int) (h0 : 0 ≤ a) (h1 : a ≤ 9223372036854775807) : ((BitVec.toNat (BitVec.ofInt 64 a &&& BitVec.ofInt 64 4294967295) : Nat) : Int) = a % 4294967296 := by
  obtain ⟨n, rfl⟩ : ∃ n : Nat, a = (n : Int) := ⟨a.toNat, by omega⟩
  rw [BitVec.toNat_and]
  have e1 : (BitVec.ofInt 64 (n : Int)).toNat = n := by
    rw [BitVec.toNat_ofInt]; omega
  have e2 : (BitVec.ofInt 64 4294967295).toNat = 2 ^ 32 - 1 := by decide
  rw [e1, e2, Nat.and_two_pow_sub_one_eq_mod]
  omega
theorem kMul (a : Int) (h0 : 0 ≤ a) (h1 : a ≤ 9223372036854775807) {K} (h : K (if a * 10 ≤ 9223372036854775807 then a * 10 else 0) (decide (a * 10 ≤ 9223372036854775807))) : Xnum_Mul a 10 K := by
  unfold Xnum_Mul Ynum_Mul Xnum_size Ynum_size Xmath_bits_Mul64 Ymath_bits_Mul64
  simp only [decide_eq_true_eq, lt]
  rw [if_neg (by omega), if_neg (by omega), wu64_in (n := a) h0 (by omega), wu64_in (n := 10) (by omega) (by omega)]
  have b0 : ((BitVec.toNat (BitVec.ofInt 64 10 &&& BitVec.ofInt 64 4294967295) : Nat) : Int) = 10 := by decide
  rw [and_lo a h0 h1, b0]
  have fd : ∀ x : Int, 0 ≤ x → Int.fdiv x 4294967296 = x / 4294967296 := fun x hx => Int.fdiv_eq_ediv_of_nonneg _ (by omega)
  have x0 : 0 ≤ a % 4294967296 ∧ a % 4294967296 < 4294967296 := by omega
  have x1 : 0 ≤ a / 4294967296 ∧ a / 4294967296 < 2147483648 := by omega
  rw [fd a h0, show Int.fdiv 10 4294967296 = 0 from by decide]
  generalize hA : a % 4294967296 = A at *
  generalize hB : a / 4294967296 = B at *
  have ha : a = B * 4294967296 + A := by omega
  rw [wu64_in (n := A) (by omega) (by omega), wu64_in (n := 10) (by omega) (by omega), wu64_in (n := A * 10) (by omega) (by omega), wu64_in (n := B * 10) (by omega) (by omega), Int.mul_zero, Int.mul_zero, wu64_in (n := 0) (by omega) (by omega)]
  rw [fd (A * 10) (by omega)]
  generalize hC : A * 10 / 4294967296 = C at *
  have hc : 0 ≤ C ∧ C ≤ 9 := by omega
  rw [wu64_in (n := B * 10 + C) (by omega) (by omega), and_lo (B * 10 + C) (by omega) (by omega), fd (B * 10 + C) (by omega)]
  generalize hD : (B * 10 + C) % 4294967296 = D at *
  generalize hE : (B * 10 + C) / 4294967296 = E at *
  have hd : 0 ≤ D ∧ D < 4294967296 := by omega
  have he : 0 ≤ E ∧ E ≤ 4 := by omega
  rw [wu64_in (n := D) (by omega) (by omega), Int.add_zero, wu64_in (n := D) (by omega) (by omega), fd D (by omega), Int.zero_add, wu64_in (n := E) (by omega) (by omega)]
  have hd0 : D / 4294967296 = 0 := by omega
  rw [hd0, Int.add_zero, wu64_in (n := E) (by omega) (by omega)]
  rw [if_neg (by simp; omega)]
  by_cases hE0 : E = 0
  · have hm : a * 10 ≤ 18446744073709551615 := by omega
    rw [if_neg (by simp [hE0]), wu64_in (n := a * 10) (by omega) hm]
    by_cases hx : a * 10 ≤ 9223372036854775807
    · rw [if_pos hx, decide_eq_true hx] at h
      rw [if_neg (by omega), w64_in (by omega) hx]; exact h
    · rw [if_neg hx, decide_eq_false hx] at h
      rw [if_pos (by omega)]; exact h
  · have hx : ¬ a * 10 ≤ 9223372036854775807 := by omega
    rw [if_neg hx, decide_eq_false hx] at h
    rw [if_pos (by simp [hE0])]; exact h
theorem foldl_ge : ∀ (b : List UInt8) (n : Nat), n ≤ b.foldl (fun n c => 10 * n + (c.toNat - 48)) n
  | [], n => Nat.le_refl _
  | c :: b, n => by
    rw [List.foldl_cons]
    have := foldl_ge b (10 * n + (c.toNat - 48))
    omega
theorem val_take (l : List UInt8) (n : Nat) (hn : n < l.length) : valL (l.take (n + 1)) = 10 * valL (l.take n) + (l[n].toNat - 48) := by
  unfold valL; rw [List.take_succ_eq_append_getElem hn, List.foldl_append]; rfl
theorem val_pre (l : List UInt8) (n : Nat) : valL (l.take n) ≤ valL l := by
  have : valL l = (l.drop n).foldl (fun n c => 10 * n + (c.toNat - 48)) (valL (l.take n)) := by
    unfold valL
    rw [← List.foldl_append, List.take_append_drop]
  rw [this]
  exact foldl_ge _ _
theorem kNumber (l : List UInt8) (hl : l.length ≤ 1000000) {K} (h : K (numL l).1 (numL l).2) : Xlines_Number (S l) K := by
  unfold Xlines_Number Ylines_Number
  rw [bytesV_S, B8_len]
  refine lp_ind (fun x => (l.length : Int).toNat - x.1.2.2.2.2.2.1.toNat) (fun x => ∃ n : Nat, n ≤ l.length ∧ (∀ c ∈ l.take n, isDig c = true) ∧ valL (l.take n) ≤ 9223372036854775807 ∧
    x = ((S l, (valL (l.take n) : Int), false, (), (l.length : Int), (n : Int), ()), B8 l, ())) ?_ ⟨0, by omega, by simp, by simp [valL], rfl⟩
  rintro x ⟨n, hn, hd, hv, rfl⟩ k hk
  unfold Llines_Number_0
  simp only [decide_eq_true_eq, B8_len, Int.toNat_natCast, S_size]
  by_cases e : n < l.length
  · have bad : numL l = (0, false) → K 0 false := fun hb => by rw [hb] at h; exact h
    rw [if_pos (by omega), if_pos (by omega)]
    refine asB8 e ?_
    have hc := u8_lt l[n]
    have w1 : w64 (w64 (l[n].toNat : Int) - 48) = (l[n].toNat : Int) - 48 := by rw [w64_in (n := (l[n].toNat : Int)) (by omega) (by omega), w64_in (by omega) (by omega)]
    rw [w1]
    have hdig : isDig l[n] = decide (48 ≤ l[n].toNat ∧ l[n].toNat ≤ 57) := by unfold isDig; simp
    have nod : isDig l[n] = false → numL l = (0, false) := fun hno => by
      unfold numL
      rw [if_neg]
      rintro ⟨_, h2, _⟩
      have := List.all_eq_true.1 h2 l[n] (List.getElem_mem e)
      rw [hno] at this; cases this
    refine kMul _ (by omega) (by omega) ?_
    by_cases hm : (valL (l.take n) : Int) * 10 ≤ 9223372036854775807
    · rw [if_pos hm, decide_eq_true hm]
      refine sadd _ _ (by omega) (by omega) ?_
      by_cases d1 : (l[n].toNat : Int) < 48
      · have g : isDig l[n] = false := by rw [hdig]; simp; omega
        have := bad (nod g)
        split <;> first | exact this | (rw [if_pos d1]; exact this)
      by_cases d2 : (l[n].toNat : Int) > 57
      · have g : isDig l[n] = false := by rw [hdig]; simp; omega
        have := bad (nod g)
        split <;> first | exact this | (rw [if_neg d1, if_pos d2]; exact this)
      have g : isDig l[n] = true := by rw [hdig]; simp; omega
      have hvt := val_take l n e
      split
      · rename_i hs
        rw [if_neg (by simp), if_neg (by simp)]
        refine hk _ ⟨n + 1, e, fun c hc => ?_, by omega, ?_⟩ ?_
        · rw [List.take_succ_eq_append_getElem e, List.mem_append, List.mem_singleton] at hc
          rcases hc with hc | rfl
          · exact hd c hc
          · exact g
        · have w2 : w64 ((n : Int) + 1) = ((n + 1 : Nat) : Int) := by rw [w64_in (by omega) (by omega)]; omega
          rw [w2]
          simp only [Prod.mk.injEq, true_and, and_true]
          omega
        · have w2 : w64 ((n : Int) + 1) = ((n + 1 : Nat) : Int) := by rw [w64_in (by omega) (by omega)]; omega
          simp only [w2]; omega
      · rename_i hs
        rw [if_neg (by simp), if_pos (by simp)]
        refine bad ?_
        unfold numL
        rw [if_neg]
        rintro ⟨_, _, h3⟩
        have := val_pre l (n + 1)
        omega
    · rw [if_neg hm, decide_eq_false hm]
      have big : numL l = (0, false) := by
        cases hdg : isDig l[n]
        · exact nod hdg
        · unfold numL
          rw [if_neg]
          rintro ⟨_, _, h3⟩
          have := val_pre l (n + 1)
          have := val_take l n e
          omega
      refine sadd _ _ (by omega) (by omega) ?_
      rw [if_pos (by omega)]
      repeat' split
      all_goals first | exact bad big | (exfalso; simp_all)
  · have : n = l.length := by omega
    subst this
    rw [if_neg (by omega)]
    rw [List.take_length] at *
    unfold numL at h
    by_cases hne : l = []
    · subst hne
      rw [if_neg (by simp)] at h
      simpa [valL] using h
    · have hl0 : 0 < l.length := List.length_pos_iff.2 hne
      rw [if_pos ⟨hne, List.all_eq_true.2 hd, hv⟩] at h
      have : decide ((l.length : Int) > 0) = true := by simp; omega
      rw [this]; exact h
end Go.Proofs.YtoiiblhbojhogaaDoor
end
section
set_option linter.unusedVariables false
set_option linter.unusedSimpArgs false
namespace Go.Proofs.YtoiiblhbojhogaaDoor
open Go Go.Proofs.YtoiiblhbojhogaaDoor.Eng Go.Proofs.YtoiiblhbojhogaaDoor.Pl
set_option linter.unusedVariables false
set_option linter.unusedSimpArgs false
set_option maxRecDepth 100000
set_option maxHeartbeats 2000000

def monT : ByteArray × ByteArray × ByteArray × ByteArray × ByteArray × ByteArray × ByteArray × ByteArray × ByteArray × ByteArray × ByteArray × ByteArray × Unit := (ByteArray.mk #[(106 : UInt8), (97 : UInt8), (110 : UInt8), (117 : UInt8), (97 : UInt8), (114 : UInt8), (121 : UInt8)], ByteArray.mk #[(102 : UInt8), (101 : UInt8), (98 : UInt8), (114 : UInt8), (117 : UInt8), (97 : UInt8), (114 : UInt8), (121 : UInt8)], ByteArray.mk #[(109 : UInt8), (97 : UInt8), (114 : UInt8), (99 : UInt8), (104 : UInt8)], ByteArray.mk #[(97 : UInt8), (112 : UInt8), (114 : UInt8), (105 : UInt8), (108 : UInt8)], ByteArray.mk #[(109 : UInt8), (97 : UInt8), (121 : UInt8)], ByteArray.mk #[(106 : UInt8), (117 : UInt8), (110 : UInt8), (101 : UInt8)], ByteArray.mk #[(106 : UInt8), (117 : UInt8), (108 : UInt8), (121 : UInt8)], ByteArray.mk #[(97 : UInt8), (117 : UInt8), (103 : UInt8), (117 : UInt8), (115 : UInt8), (116 : UInt8)], ByteArray.mk #[(115 : UInt8), (101 : UInt8), (112 : UInt8), (116 : UInt8), (101 : UInt8), (109 : UInt8), (98 : UInt8), (101 : UInt8), (114 : UInt8)], ByteArray.mk #[(111 : UInt8), (99 : UInt8), (116 : UInt8), (111 : UInt8), (98 : UInt8), (101 : UInt8), (114 : UInt8)], ByteArray.mk #[(110 : UInt8), (111 : UInt8), (118 : UInt8), (101 : UInt8), (109 : UInt8), (98 : UInt8), (101 : UInt8), (114 : UInt8)], ByteArray.mk #[(100 : UInt8), (101 : UInt8), (99 : UInt8), (101 : UInt8), (109 : UInt8), (98 : UInt8), (101 : UInt8), (114 : UInt8)], ())
theorem month_at (n : Nat) (h : n < 12) {F : Prop} {K : ByteArray → Prop} (hk : K (S (monNames.getD n []))) : Eng.asStr ([Eng.V.c (Value.string monT.1), Eng.V.c (Value.string monT.2.1), Eng.V.c (Value.string monT.2.2.1), Eng.V.c (Value.string monT.2.2.2.1), Eng.V.c (Value.string monT.2.2.2.2.1), Eng.V.c (Value.string monT.2.2.2.2.2.1), Eng.V.c (Value.string monT.2.2.2.2.2.2.1), Eng.V.c (Value.string monT.2.2.2.2.2.2.2.1), Eng.V.c (Value.string monT.2.2.2.2.2.2.2.2.1), Eng.V.c (Value.string monT.2.2.2.2.2.2.2.2.2.1), Eng.V.c (Value.string monT.2.2.2.2.2.2.2.2.2.2.1), Eng.V.c (Value.string monT.2.2.2.2.2.2.2.2.2.2.2.1)][n * (1 : Nat)]?) F K := by
  rcases (show n = 0 ∨ n = 1 ∨ n = 2 ∨ n = 3 ∨ n = 4 ∨ n = 5 ∨ n = 6 ∨ n = 7 ∨ n = 8 ∨ n = 9 ∨ n = 10 ∨ n = 11 by omega) with rfl | rfl | rfl | rfl | rfl | rfl | rfl | rfl | rfl | rfl | rfl | rfl <;> exact hk
theorem kNames {K} (h : K monT) : Xzic_names K := h
theorem kMonth (s : List UInt8) (hl : s.length ≤ 1000000) {K} (h : K (monthL s).1 (monthL s).2) : Xzic_Month (S s) K := by
  unfold Xzic_Month Yzic_Month
  refine kFold s hl (kNames ?_)
  refine lp_ind (fun x => 12 - x.1.2.2.2.2.1.toNat) (fun x => ∃ n : Nat, n ≤ 12 ∧ monG (foldLw s) n (monNames.drop n) = monthL s ∧ x = ((0, false, S (foldLw s), monT, (n : Int), ()), ())) ?_ ⟨0, by omega, rfl, rfl⟩
  rintro x ⟨n, hn, hm, rfl⟩ k hk
  unfold Lzic_Month_0
  dsimp only
  rw [Int.toNat_natCast]
  have len : monNames.length = 12 := rfl
  by_cases e : n < 12
  · rw [if_pos (by simp; omega), if_pos (by omega)]
    refine month_at n e ?_
    have hd : monNames.drop n = monNames.getD n [] :: monNames.drop (n + 1) := by
      rw [getD_in _ _ _ (by rw [len]; exact e)]; exact List.drop_eq_getElem_cons _
    rw [hd, monG] at hm
    have w1 : w64 ((n : Int) + 1) = ((n + 1 : Nat) : Int) := by rw [w64_in (by omega) (by omega)]; omega
    have w2 : w64 ((n : Int) + 1) = (n : Int) + 1 := by rw [w64_in (by omega) (by omega)]
    have go : monG (foldLw s) (n + 1) (monNames.drop (n + 1)) = monthL s → k ((0, false, S (foldLw s), monT, w64 ((n : Int) + 1), ()), ()) := fun hg => by
      rw [w1]
      exact hk _ ⟨n + 1, e, hg, rfl⟩ (by show 12 - Int.toNat ((n + 1 : Nat) : Int) < 12 - Int.toNat (n : Int); omega)
    rw [S_size]
    by_cases h2 : (foldLw s).length > 2
    · rw [if_pos (by simp; omega)]
      refine kPre _ _ ?_
      cases hp : preB (monNames.getD n []) (foldLw s)
      · rw [if_neg (by simp)]
        rw [if_neg (by rw [hp]; simp)] at hm
        exact go hm
      · rw [if_pos rfl]
        rw [if_pos (by rw [hp]; simp; omega)] at hm
        rw [← hm] at h
        rw [w2]; exact h
    · rw [if_neg (by simp; omega)]
      rw [if_neg (by simp; omega)] at hm
      exact go hm
  · rw [if_neg (by simp; omega)]
    have : n = 12 := by omega
    subst this
    rw [show monNames.drop 12 = [] from rfl, monG] at hm
    rw [← hm] at h; exact h
theorem kSecond (a b c : Int) (ha : 0 ≤ a ∧ a ≤ 99) (hb : 0 ≤ b ∧ b ≤ 99) (hc : 0 ≤ c ∧ c ≤ 99) {K} (h : K (secondL a b c).1 (secondL a b c).2) : Xstamp_Second a b c K := by
  unfold Xstamp_Second Ystamp_Second
  simp only [beq_iff_eq, decide_eq_true_eq, lt]
  have e1 : w64 (w64 (a * 60) + b) = a * 60 + b := by rw [w64_in (n := a * 60) (by omega) (by omega), w64_in (by omega) (by omega)]
  have e2 : w64 (w64 ((a * 60 + b) * 60) + c) = a * 3600 + b * 60 + c := by rw [w64_in (n := (a * 60 + b) * 60) (by omega) (by omega), w64_in (by omega) (by omega)]; omega
  rw [e1, e2]
  have rest : ¬ (a = 23 ∧ b = 59 ∧ c = 60) → (if (if c < if b < a then b else a then c else if b < a then b else a) < 0 then K 0 false else if a > 23 then K 0 false else if b > 59 then K 0 false else if c > 59 then K 0 false else K (a * 3600 + b * 60 + c) true) := fun hno => by
    unfold secondL at h
    rw [if_neg hno] at h
    rw [if_neg (by split <;> split at * <;> omega)]
    by_cases a1 : a > 23
    · rw [if_neg (by omega)] at h; rw [if_pos a1]; exact h
    rw [if_neg a1]
    by_cases b1 : b > 59
    · rw [if_neg (by omega)] at h; rw [if_pos b1]; exact h
    rw [if_neg b1]
    by_cases c1 : c > 59
    · rw [if_neg (by omega)] at h; rw [if_pos c1]; exact h
    rw [if_neg c1]
    rw [if_pos (by omega)] at h; exact h
  by_cases a1 : a = 23
  · rw [if_pos a1]
    by_cases b1 : b = 59
    · rw [if_pos b1]
      by_cases c1 : c = 60
      · unfold secondL at h
        rw [if_pos ⟨a1, b1, c1⟩] at h
        rw [if_pos c1]; exact h
      · rw [if_neg c1]; exact rest (by omega)
    · rw [if_neg b1]; exact rest (by omega)
  · rw [if_neg a1]; exact rest (by omega)
theorem kClock (s : List UInt8) (hl : s.length ≤ 1000000) {K} (h : K (zclockL s).1 (zclockL s).2) : Xzic_Clock (S s) K := by
  unfold Xzic_Clock Yzic_Clock
  refine kSplitN s 58 3 (by omega) (by omega) hl ?_
  obtain ⟨p1, p2, p3⟩ := splN_len 58 2 s
  unfold zclockL at h
  rw [show 3 - 1 = 2 from rfl]
  generalize splN 58 2 s = ws at *
  rw [WV_len]
  by_cases e : ws.length = 3
  · obtain ⟨a, b, c, rfl⟩ : ∃ a b c, ws = [a, b, c] := by
      match ws, e with
      | [a, b, c], _ => exact ⟨a, b, c, rfl⟩
    dsimp only at h
    rw [if_neg (by simp)]
    have bad : ∀ n, n < 3 → two ([a, b, c].getD n []) = false → K 0 false := fun n hn hb => by
      rw [if_neg] at h
      · exact h
      · intro hh
        simp only [Bool.and_eq_true] at hh
        rcases (show n = 0 ∨ n = 1 ∨ n = 2 by omega) with rfl | rfl | rfl
        · have := hh.1.1; rw [show [a, b, c].getD 0 [] = a from rfl] at hb; rw [hb] at this; cases this
        · have := hh.1.2; rw [show [a, b, c].getD 1 [] = b from rfl] at hb; rw [hb] at this; cases this
        · have := hh.2; rw [show [a, b, c].getD 2 [] = c from rfl] at hb; rw [hb] at this; cases this
    refine lp_ind (fun x => 3 - x.1.2.2.2.2.2.1.toNat) (fun x => ∃ n : Nat, n ≤ 3 ∧ (∀ i, i < n → two ([a, b, c].getD i []) = true) ∧
      x = ((0, false, (), (), (3 : Int), (n : Int), ()), agL .i64 3 (fun i => if i < n then (numL ([a, b, c].getD i [])).1 else 0), (WV [a, b, c], true, false), ())) ?_ ⟨0, by omega, by omega, by simp [agL, List.range, List.range.loop]⟩
    rintro x ⟨n, hn, ht, rfl⟩ k hk
    unfold Lzic_Clock_0
    dsimp only
    rw [Int.toNat_natCast, WV_len, agL_len]
    by_cases en : n < 3
    · rw [if_pos (by simp; omega), if_pos (by simp; omega)]
      refine asWd (by simpa using en) ?_
      have hlen : ([a, b, c].getD n []).length ≤ s.length := by
        rw [getD_in _ _ _ (by simpa using en)]; exact p3 _ (List.getElem_mem _)
      refine kNumber _ (by omega) ?_
      cases hnum : (numL ([a, b, c].getD n [])).2
      · rw [if_pos (by simp)]
        exact bad n en (by unfold two; rw [hnum]; rfl)
      rw [if_neg (by simp), S_size]
      by_cases h2 : ([a, b, c].getD n []).length ≤ 2
      · rw [if_neg (dneg (by omega)), if_pos (by omega), if_pos (by omega), if_pos (by rw [List.length_singleton]; omega)]
        simp only [lt]
        have w1 : w64 ((n : Int) + 1) = ((n + 1 : Nat) : Int) := by rw [w64_in (by omega) (by omega)]; omega
        rw [show 0 + n * 1 = n by omega, agL_set en, w1]
        refine hk _ ⟨n + 1, en, fun i hi => ?_, ?_⟩ (by show 3 - Int.toNat ((n + 1 : Nat) : Int) < 3 - Int.toNat (n : Int); omega)
        · by_cases ei : i = n
          · subst ei; unfold two; rw [hnum, decide_eq_true h2]; rfl
          · exact ht i (by omega)
        · rw [agL_congr (g := fun i => if i < n + 1 then (numL ([a, b, c].getD i [])).1 else 0)]
          intro i hi
          unfold updF
          dsimp only
          by_cases ei : i = n
          · subst ei; rw [if_pos rfl, if_pos (by omega)]
          · rw [if_neg ei]
            by_cases hin : i < n
            · rw [if_pos hin, if_pos (by omega)]
            · rw [if_neg hin, if_neg (by omega)]
      · rw [if_pos (decide_eq_true (by omega))]
        exact bad n en (by unfold two; rw [decide_eq_false h2, Bool.and_false])
    · have : n = 3 := by omega
      subst this
      rw [if_neg (by simp)]
      refine asI (by omega) (asI (by omega) (asI (by omega) ?_))
      have ta := ht 0 (by omega)
      have tb := ht 1 (by omega)
      have tc := ht 2 (by omega)
      rw [show [a, b, c].getD 0 [] = a from rfl] at ta
      rw [show [a, b, c].getD 1 [] = b from rfl] at tb
      rw [show [a, b, c].getD 2 [] = c from rfl] at tc
      rw [if_pos (by rw [ta, tb, tc]; rfl)] at h
      exact kSecond _ _ _ (two_bd ta) (two_bd tb) (two_bd tc) h
  · have : ∀ {α : Type} (x : α) (f : List UInt8 → List UInt8 → List UInt8 → α), (match ws with | [a, b, c] => f a b c | _ => x) = x := fun x f => by
      match ws, e with
      | [], _ => rfl
      | [_], _ => rfl
      | [_, _], _ => rfl
      | _ :: _ :: _ :: _ :: _, _ => rfl
    rw [if_pos (by simp; omega)]
    match ws, e with
    | [], _ => exact h
    | [_], _ => exact h
    | [_, _], _ => exact h
    | _ :: _ :: _ :: d :: r, _ => simp at p1
theorem kDate (kind : Int) (ws : List (List UInt8)) (h5 : 5 ≤ ws.length) (hl : ∀ w ∈ ws, w.length ≤ 1000000) {K}
    (h : K (tupRow (dateW kind (ws.getD 1 []) (ws.getD 2 []) (ws.getD 3 []) (ws.getD 4 [])).1) (dateW kind (ws.getD 1 []) (ws.getD 2 []) (ws.getD 3 []) (ws.getD 4 [])).2) : Xzic_date kind (WV ws) K := by
  unfold Xzic_date Yzic_date
  have hw : ∀ i, i < ws.length → (ws.getD i []).length ≤ 1000000 := fun i hi => by rw [getD_in _ _ _ hi]; exact hl _ (List.getElem_mem _)
  simp only [WV_len]
  rw [if_pos (by omega)]
  refine asWd (by omega) (kNumber _ (hw 1 (by omega)) ?_)
  rw [if_pos (by omega)]
  refine asWd (by omega) (kMonth _ (hw 2 (by omega)) ?_)
  rw [if_pos (by omega)]
  refine asWd (by omega) (kNumber _ (hw 3 (by omega)) ?_)
  rw [if_pos (by omega)]
  refine asWd (by omega) (kClock _ (hw 4 (by omega)) ?_)
  unfold dateW tupRow at h
  dsimp only at h
  cases h1 : (numL (ws.getD 1 [])).2 <;> cases h2 : (monthL (ws.getD 2 [])).2 <;> cases h3 : (numL (ws.getD 3 [])).2 <;> rw [h1, h2, h3] at h <;> simpa using h
theorem kRoll (s : List UInt8) (hl : s.length ≤ 1000000) {K} (h : K (rollL s).1 (rollL s).2) : Xzic_roll (S s) K := by
  unfold Xzic_roll Yzic_roll
  refine kFold s hl (kPre [114, 111, 108, 108, 105, 110, 103] _ ?_)
  unfold rollL at h
  cases hp : preB [114, 111, 108, 108, 105, 110, 103] (foldLw s)
  · rw [if_neg (by simp)]
    rw [if_neg (by rw [hp]; simp)] at h
    exact kPre [115, 116, 97, 116, 105, 111, 110, 97, 114, 121] _ h
  · rw [if_pos rfl]
    rw [if_pos hp] at h; exact h
theorem kRead (ws : List (List UInt8)) (h1 : 1 ≤ ws.length) (hl : ∀ w ∈ ws, w.length ≤ 1000000) {K} (h : K (tupRow (readW ws).1) (readW ws).2) : Xzic_read (WV ws) K := by
  unfold Xzic_read Yzic_read
  have hw : ∀ i, i < ws.length → (ws.getD i []).length ≤ 1000000 := fun i hi => by rw [getD_in _ _ _ hi]; exact hl _ (List.getElem_mem _)
  simp only [WV_len]
  rw [if_pos (by omega)]
  refine asWd (by omega) (kFold _ (hw 0 (by omega)) ?_)
  rw [kS_eq _ [108, 101, 97, 112]]
  simp only [lt, kS_eq _ [101, 120, 112, 105, 114, 101, 115], beq_iff_eq]
  unfold readW at h
  have no : ¬ (foldLw (ws.getD 0 []) = [108, 101, 97, 112] ∧ ws.length = 7) → (if foldLw (ws.getD 0 []) = [101, 120, 112, 105, 114, 101, 115] then
      (if (ws.length : Int) = 5 then Xzic_date 1 (WV ws) fun r10 r11 => K r10 r11 else K (0, 0, 0, 0, 0, ByteArray.mk #[], false, ()) false) else K (0, 0, 0, 0, 0, ByteArray.mk #[], false, ()) false) := fun hno => by
    rw [if_neg hno] at h
    by_cases e1 : foldLw (ws.getD 0 []) = [101, 120, 112, 105, 114, 101, 115]
    · rw [if_pos e1]
      by_cases e2 : ws.length = 5
      · rw [if_pos ⟨e1, e2⟩] at h
        rw [if_pos (by omega)]
        exact kDate 1 ws (by omega) hl h
      · rw [if_neg (fun hh => e2 hh.2)] at h
        rw [if_neg (by omega)]; exact h
    · rw [if_neg (fun hh => e1 hh.1)] at h
      rw [if_neg e1]; exact h
  by_cases e1 : foldLw (ws.getD 0 []) = [108, 101, 97, 112]
  · rw [if_pos e1]
    by_cases e2 : ws.length = 7
    · rw [if_pos ⟨e1, e2⟩] at h
      rw [if_pos (by omega)]
      refine kDate 0 ws (by omega) hl ?_
      rw [if_pos (by omega)]
      refine asWd (by omega) (kRoll _ (hw 6 (by omega)) ?_)
      rw [if_pos (by omega)]
      refine asWd (by omega) ?_
      simp only [S_toList]
      dsimp only at h
      unfold tupRow at h ⊢
      dsimp only at h ⊢
      generalize ws.getD 5 [] = w5 at h ⊢
      by_cases g1 : w5 = [43]
      · rw [if_pos (by simp [g1]), if_pos (by simp [g1])]
        cases hd : (dateW 0 (ws.getD 1 []) (ws.getD 2 []) (ws.getD 3 []) (ws.getD 4 [])).2
        · rw [if_neg (by simp)]
          rw [hd] at h; simpa [g1] using h
        · rw [if_pos rfl]
          rw [hd] at h; simpa [g1] using h
      · rw [if_neg (by simp [g1])]
        by_cases g2 : w5 = [45]
        · rw [if_pos (by simp [g2])]
          cases hd : (dateW 0 (ws.getD 1 []) (ws.getD 2 []) (ws.getD 3 []) (ws.getD 4 [])).2
          · rw [if_neg (by simp)]
            rw [hd] at h; simpa [g2] using h
          · rw [if_pos rfl]
            rw [hd] at h; simpa [g2] using h
        · rw [if_neg (by simp [g2])]
          rw [show (decide (w5 = [43] ∨ w5 = [45])) = false by simp [g1, g2]] at h
          simpa using h
    · rw [if_neg (by omega)]
      exact no (fun hh => e2 hh.2)
  · rw [if_neg e1]
    exact no (fun hh => e1 hh.1)
end Go.Proofs.YtoiiblhbojhogaaDoor
end
section
set_option linter.unusedVariables false
set_option linter.unusedSimpArgs false
namespace Go.Proofs.YtoiiblhbojhogaaDoor
open Go Go.Proofs.YtoiiblhbojhogaaDoor.Eng Go.Proofs.YtoiiblhbojhogaaDoor.Pl
set_option linter.unusedVariables false
set_option linter.unusedSimpArgs false
set_option maxRecDepth 100000
set_option maxHeartbeats 2000000

theorem kEnd (n : Int) {K} (h : K (endD n)) : Xday_End n K := by
  unfold Xday_End Yday_End
  refine sday n ?_
  unfold endD at h
  by_cases e : -719162 ≤ n ∧ n ≤ 2932896
  · rw [if_pos e]
    rw [decide_eq_true e, Bool.true_and] at h
    refine slast _ _ ?_
    obtain ⟨⟨v1, v2, v3, v4, _⟩, _⟩ := num_date e.1 e.2
    rw [if_pos rfl, if_pos ⟨v1, v2, v3, v4⟩]; exact h
  · rw [if_neg e]
    rw [decide_eq_false e, Bool.false_and] at h
    refine slast _ _ ?_
    rw [if_neg (by simp)]; exact h
theorem kWrong (k : Nat) (l : LR) (ahead : Int) {K} (h : K (wrongL k l ahead)) : Xleap_wrong (k : Int) (l.1, l.2.1, l.2.2, ()) ahead K := by
  unfold Xleap_wrong Yleap_wrong
  unfold wrongL at h
  dsimp only
  simp only [decide_eq_true_eq, bne_iff_ne, ne_eq]
  by_cases h1 : 200 ≤ k
  · rw [if_pos h1] at h; rw [if_pos (by omega)]; exact h
  rw [if_neg h1] at h; rw [if_neg (by omega)]
  have rest : ¬ (l.1 < 730 ∨ 2932896 ≤ l.1) → Xday_End l.1 (fun r => if (!r) = true then K 5 else if ¬ l.2.1 = 1 then (if ¬ l.2.1 = -1 then K 6 else if l.1 ≤ ahead then K 4 else K 0) else if l.1 ≤ ahead then K 4 else K 0) := fun h2 => by
    rw [if_neg h2] at h
    refine kEnd _ ?_
    cases he : endD l.1
    · rw [if_pos he] at h; exact h
    · rw [if_neg (by simp [he])] at h
      rw [if_neg (by simp)]
      by_cases s1 : l.2.1 = 1
      · rw [if_neg (by omega)] at h; rw [if_neg (by omega)]
        by_cases h4 : l.1 ≤ ahead
        · rw [if_pos h4] at h; rw [if_pos h4]; exact h
        · rw [if_neg h4] at h; rw [if_neg h4]; exact h
      · rw [if_pos s1]
        by_cases s2 : l.2.1 = -1
        · rw [if_neg (by omega)] at h; rw [if_neg (by omega)]
          by_cases h4 : l.1 ≤ ahead
          · rw [if_pos h4] at h; rw [if_pos h4]; exact h
          · rw [if_neg h4] at h; rw [if_neg h4]; exact h
        · rw [if_pos ⟨s1, s2⟩] at h; rw [if_pos s2]; exact h
  by_cases h2 : l.1 < 730
  · rw [if_pos (.inl h2)] at h
    rw [if_pos h2, if_pos h2]; exact h
  rw [if_neg h2]
  by_cases h3 : l.1 ≥ 2932896
  · rw [if_pos (.inr h3)] at h
    rw [if_pos h3]; exact h
  rw [if_neg h3]
  exact rest (by omega)
theorem kCheck (t : Tb) (hl : t.ls.length ≤ 1000000) {K} (h : K ((checkT t).1 : Int) (checkT t).2) : Xleap_Check (TLV t.ls, t.has, t.ex, ()) K := by
  unfold Xleap_Check Yleap_Check
  rw [TLV_len]
  unfold checkT at h
  refine lp_ind (fun x => t.ls.length - x.1.2.2.2.2.2.2.1.toNat) (fun x => ∃ (j : Nat) (a : Int), j ≤ t.ls.length ∧ 729 ≤ a ∧ a ≤ 2932896 ∧ checkG j a (t.ls.drop j) = checkG 0 729 t.ls ∧
    x = (((), 0, 0, a, TLV t.ls, (t.ls.length : Int), (j : Int), ()), (TLV t.ls, t.has, t.ex, ()), ())) ?_ ⟨0, 729, by omega, by omega, by omega, rfl, rfl⟩
  rintro x ⟨j, a, hj, ha, ha', hc, rfl⟩ k hk
  unfold Lleap_Check_0
  dsimp only
  rw [TLV_len, Int.toNat_natCast]
  by_cases e : j < t.ls.length
  · rw [if_pos (decide_eq_true (by omega)), if_pos (by omega)]
    refine asL1 e (asL2 e (asL3 e ?_))
    refine kWrong j (t.ls[j]) a ?_
    rw [List.drop_eq_getElem_cons e, checkG] at hc
    by_cases hw : wrongL j t.ls[j] a = 0
    · rw [if_neg (by simp [hw])]
      rw [if_neg (by simp [hw])] at hc
      obtain ⟨_, q1, q2, _⟩ := wrongL_0 hw
      have w1 : w64 ((j : Int) + 1) = ((j + 1 : Nat) : Int) := by rw [w64_in (by omega) (by omega)]; omega
      rw [w1]
      exact hk _ ⟨j + 1, _, e, by omega, by omega, hc, rfl⟩ (by show t.ls.length - Int.toNat ((j + 1 : Nat) : Int) < t.ls.length - Int.toNat (j : Int); omega)
    · rw [if_pos (by simpa using hw)]
      rw [if_pos hw] at hc
      rw [← hc, if_pos hw] at h
      exact h
  · rw [if_neg (dneg (by omega))]
    have : j = t.ls.length := by omega
    subst this
    rw [List.drop_length, checkG] at hc
    rw [← hc, if_neg (by simp)] at h
    unfold expB at h
    simp only [lt]
    have w1 : w64 (w64 (a + 1) * 86400) = (a + 1) * 86400 := by rw [w64_in (n := a + 1) (by omega) (by omega), w64_in (by omega) (by omega)]
    rw [w1]
    cases hh : t.has
    · rw [hh] at h
      rw [if_neg (by simp)]
      rw [if_neg (by simp)] at h
      by_cases h1 : t.ex < 0
      · rw [if_pos (decide_eq_true h1)]
        rw [if_pos (by omega)] at h; exact h
      rw [if_neg (dneg h1)]
      by_cases h2 : t.ex > 0
      · rw [if_pos (decide_eq_true h2)]
        rw [if_pos (by omega)] at h; exact h
      rw [if_neg (dneg h2)]
      rw [if_neg (by omega)] at h; exact h
    · rw [hh, if_pos rfl] at h
      rw [if_pos rfl]
      generalize (if 63072000 > (a + 1) * 86400 then 63072000 else (a + 1) * 86400) = M at *
      by_cases h1 : t.ex < M
      · rw [if_pos (decide_eq_true h1)]
        rw [if_pos (.inl h1)] at h; exact h
      rw [if_neg (dneg h1)]
      by_cases h2 : t.ex > 253402300799
      · rw [if_pos (decide_eq_true h2)]
        rw [if_pos (.inr h2)] at h; exact h
      rw [if_neg (dneg h2)]
      rw [if_neg (by omega)] at h; exact h
theorem kRightT (t : Tb) (hl : t.ls.length ≤ 1000000) {K} (h : K (rightT t)) : Xleap_Right (TLV t.ls, t.has, t.ex, ()) K := by
  unfold Xleap_Right Yleap_Right
  exact kCheck t hl h
theorem kClone (xs : List V) (hl : xs.length ≤ 1000000) {K} (h : ∀ f, K xs true f) : Xslices_Clone___api_Leap_api_Leap_ xs K := by
  unfold Xslices_Clone___api_Leap_api_Leap_ Yslices_Clone___api_Leap_api_Leap_
  have hr : Eng.roomOk (0 + xs.length) 24 = true := by unfold roomOk; rw [decide_eq_true_eq]; omega
  rw [if_pos hr, List.nil_append]
  by_cases e : xs.length = 0
  · rw [if_pos e]
    have : xs = [] := List.length_eq_zero_iff.1 e
    subst this
    exact ⟨h _, h _⟩
  · rw [if_neg e]; exact h _
theorem kAdd (t : Tb) (l : LR) (hl : t.ls.length ≤ 100000) {K} (h : ∀ o f, K ((), t.has, t.ex, ()) (addT t l).2 (TLV (addT t l).1.ls) o f) : Xleap_Add (TLV t.ls, t.has, t.ex, ()) (l.1, l.2.1, l.2.2, ()) K := by
  unfold Xleap_Add Yleap_Add
  refine dup_of ?_
  refine kClone _ (by rw [TLV_len]; omega) fun f => ?_
  dsimp only
  rw [if_pos rfl, if_pos (by unfold roomOk; rw [decide_eq_true_eq, TLV_len, List.length_singleton]; omega)]
  simp only [lt]
  have e1 : TLV t.ls ++ [Eng.V.agg [Eng.V.c (Value.int IntKind.i64 l.1), Eng.V.c (Value.int IntKind.i64 l.2.1), Eng.V.c (Value.bool l.2.2)]] = TLV (t.ls ++ [l]) := by simp [TLV, eLR]
  rw [e1]
  refine kCheck ⟨t.ls ++ [l], t.has, t.ex⟩ (by simp; omega) ?_
  unfold addT at h
  by_cases hc : (checkT ⟨t.ls ++ [l], t.has, t.ex⟩).2 = 0
  · rw [if_neg (by simp [hc])]
    simp only [hc] at h
    exact h _ _
  · rw [if_pos (by simpa using hc), if_pos ⟨by omega, trivial, by rw [TLV_len, TLV_len, List.length_append]; omega⟩]
    simp only [if_pos hc] at h
    have e2 : List.take (Int.toNat ((TLV t.ls).length : Int)) (TLV (t.ls ++ [l])) = TLV t.ls := by
      rw [← e1, Int.toNat_natCast]; simp
    rw [e2]; exact h _ _
end Go.Proofs.YtoiiblhbojhogaaDoor
end
section
set_option linter.unusedVariables false
set_option linter.unusedSimpArgs false
namespace Go.Proofs.YtoiiblhbojhogaaDoor
open Go Go.Proofs.YtoiiblhbojhogaaDoor.Eng Go.Proofs.YtoiiblhbojhogaaDoor.Pl
set_option linter.unusedVariables false
set_option linter.unusedSimpArgs false
set_option maxRecDepth 100000
set_option maxHeartbeats 2000000

theorem kSrcLeap (s : Src) (r : Row) (n : Int) (hl : s.ls.length ≤ 100000) {K} (h : ∀ o f, K (leapW s r n).2 false 0 s.at' s.til (TLV (leapW s r n).1.ls) o f) :
    Xzic_source_leap (tupRow r) n (TLV s.ls) false 0 s.at' s.til K := by
  unfold Xzic_source_leap Yzic_source_leap tupRow
  dsimp only
  rw [kS_eq _ [43], kS_eq _ [45]]
  unfold leapW at h
  have minus : ¬ (r.sign = [43] ∧ r.sec = 86400) → (if (r.sign == [45]) = true then
      (if (r.sec == 86399) = true then Xleap_Add (TLV s.ls, false, 0, ()) (n, (-1), r.roll, ()) (fun r7 r8 r9 r10 r11 => K r8 r7.2.1 r7.2.2.1 s.at' s.til r9 r10 r11) else K 6 false 0 s.at' s.til (TLV s.ls) false true)
      else K 6 false 0 s.at' s.til (TLV s.ls) false true) := fun hno => by
    simp only [if_neg hno] at h
    by_cases h1 : r.sign = [45]
    · rw [if_pos (by simp [h1])]
      by_cases h2 : r.sec = 86399
      · rw [if_pos (by simp [h2])]
        simp only [if_pos (show r.sign = [45] ∧ r.sec = 86399 from ⟨h1, h2⟩)] at h
        exact kAdd ⟨s.ls, false, 0⟩ (n, -1, r.roll) hl h
      · rw [if_neg (by simp [h2])]
        simp only [if_neg (show ¬ (r.sign = [45] ∧ r.sec = 86399) from fun hh => h2 hh.2)] at h
        exact h _ _
    · rw [if_neg (by simp [h1])]
      simp only [if_neg (show ¬ (r.sign = [45] ∧ r.sec = 86399) from fun hh => h1 hh.1)] at h
      exact h _ _
  by_cases h1 : r.sign = [43]
  · rw [if_pos (by simp [h1])]
    by_cases h2 : r.sec = 86400
    · rw [if_pos (by simp [h2])]
      simp only [if_pos (show r.sign = [43] ∧ r.sec = 86400 from ⟨h1, h2⟩)] at h
      exact kAdd ⟨s.ls, false, 0⟩ (n, 1, r.roll) hl h
    · rw [if_neg (by simp [h2])]
      exact minus (fun hh => h2 hh.2)
  · rw [if_neg (by simp [h1])]
    exact minus (fun hh => h1 hh.1)
theorem kSrcLine (s : Src) (no : Nat) (ws : List (List UInt8)) (h1 : 1 ≤ ws.length) (hw : ∀ w ∈ ws, w.length ≤ 1000000) (hl : s.ls.length ≤ 100000) {K}
    (h : ∀ o f, K (lineW s no ws).2 false 0 (lineW s no ws).1.at' (lineW s no ws).1.til (TLV (lineW s no ws).1.ls) o f) : Xzic_source_line (no : Int) (WV ws) (TLV s.ls) false 0 s.at' s.til K := by
  unfold Xzic_source_line Yzic_source_line
  refine kRead ws h1 hw ?_
  obtain ⟨b1, b2, b3, b4⟩ := readW_bd ws
  unfold lineW at h
  generalize readW ws = rr at *
  obtain ⟨r, ok⟩ := rr
  dsimp only at h b1 b2 b3 b4
  have e1 : (tupRow r).2.1 = r.y := rfl
  have e2 : (tupRow r).2.2.1 = r.m := rfl
  have e3 : (tupRow r).2.2.2.1 = r.d := rfl
  have e4 : (tupRow r).1 = r.kind := rfl
  have e5 : (tupRow r).2.2.2.2.1 = r.sec := rfl
  rw [e1, e2, e3, e4, e5]
  refine snum _ _ _ (by omega) b4 ?_
  have hd : dayN r.y r.m r.d = if okD r.y r.m r.d then some (num r.y r.m r.d) else none := rfl
  rw [hd] at h
  cases ok
  · rw [if_pos (show (!false) = true from rfl), if_pos (show (!false) = true from rfl)]
    simp only [true_or, if_true] at h
    exact h _ _
  rw [if_neg (by simp)]
  have rest : ¬ (r.kind = 1 ∧ s.at' > 0) → (if (!decide (okD r.y r.m r.d)) = true then K 9 false 0 s.at' s.til (TLV s.ls) false true else
      if (r.kind == 0) = true then Xzic_source_leap (tupRow r) (if okD r.y r.m r.d then num r.y r.m r.d else 0) (TLV s.ls) false 0 s.at' s.til (fun r20 r21 r22 r23 r24 r25 r26 r27 => K r20 r21 r22 r23 r24 r25 r26 r27)
      else if (r.sec == 86400) = true then K 9 false 0 s.at' s.til (TLV s.ls) false true
      else K 0 false 0 (no : Int) (w64 (w64 ((if okD r.y r.m r.d then num r.y r.m r.d else 0) * 86400) + r.sec)) (TLV s.ls) false true) := fun hno => by
    simp only [Bool.true_eq_false, false_or, if_neg hno] at h
    by_cases hk : okD r.y r.m r.d
    · simp only [if_pos hk] at h ⊢
      rw [if_neg (by simp [hk])]
      by_cases k0 : r.kind = 0
      · rw [if_pos (by simp [k0])]
        simp only [if_pos k0] at h
        refine kSrcLeap s r _ hl ?_
        have hat : (leapW s r (num r.y r.m r.d)).1.at' = s.at' ∧ (leapW s r (num r.y r.m r.d)).1.til = s.til := by
          unfold leapW; split
          · exact ⟨rfl, rfl⟩
          · split <;> exact ⟨rfl, rfl⟩
        rw [hat.1, hat.2] at h
        exact h
      · rw [if_neg (by simp [k0])]
        simp only [if_neg k0] at h
        by_cases s0 : r.sec = 86400
        · rw [if_pos (by simp [s0])]
          simp only [if_pos s0] at h
          exact h _ _
        · rw [if_neg (by simp [s0])]
          simp only [if_neg s0] at h
          have nr := num_range (show Vld r.y r.m r.d from hk)
          rw [w64_in (n := num r.y r.m r.d * 86400) (by omega) (by omega), w64_in (by omega) (by omega)]
          exact h _ _
    · simp only [if_neg hk] at h
      rw [if_pos (by simp [hk])]
      exact h _ _
  simp only [lt]
  by_cases k1 : r.kind = 1
  · rw [if_pos (by simp [k1])]
    by_cases a1 : s.at' > 0
    · rw [if_pos (decide_eq_true a1)]
      simp only [if_pos (show (true = false ∨ (r.kind = 1 ∧ s.at' > 0)) from .inr ⟨k1, a1⟩)] at h
      exact h _ _
    · rw [if_neg (dneg a1)]
      exact rest (fun hh => a1 hh.2)
  · rw [if_neg (by simp [k1])]
    exact rest (fun hh => k1 hh.1)
theorem bare_len (l : List UInt8) : (bareL l).length ≤ l.length := by unfold bareL; simp; omega
theorem lineW_at (s : Src) (no : Nat) (w : List (List UInt8)) (h : 0 ≤ s.at' ∧ s.at' ≤ no) : 0 ≤ (lineW s no w).1.at' ∧ (lineW s no w).1.at' ≤ no := by
  unfold lineW
  split
  · exact h
  · split
    · exact h
    · split
      · unfold leapW
        split
        · exact h
        · split <;> exact h
      · split
        · exact h
        · exact ⟨by simp, by simp⟩
theorem kParse (s : List UInt8) (hs : s.length ≤ 90000) {K} (h : ∀ o f, K ((), (zparseL s).1.has, (zparseL s).1.ex, ()) ((zparseL s).2.1, (zparseL s).2.2, ()) (TLV (zparseL s).1.ls) o f) : Xzic_Parse (S s) K := by
  unfold Xzic_Parse Yzic_Parse
  refine kLines s (by omega) ?_
  obtain ⟨q1, q2⟩ := linesL_len s
  unfold zparseL at h
  generalize linesL s = L at *
  rw [WV_len]
  refine lp_ind (fun x => L.length - x.1.2.2.2.2.2.1.toNat) (fun x => ∃ (j : Nat) (c : Src), j ≤ L.length ∧ c.ls.length ≤ j ∧ (0 ≤ c.at' ∧ c.at' ≤ j) ∧ parseG j c (L.drop j) = parseG 0 src0 L ∧
    x = (((), (), (), (), (L.length : Int), (j : Int), ()), ([], false, 0, ()), (0, 0, ()), (TLV c.ls, false, 0, c.at', c.til, ()), (WV L, true, false), ())) ?_ ⟨0, src0, by omega, by simp [src0], by simp [src0], rfl, rfl⟩
  rintro x ⟨j, c, hj, hc, ha, hp, rfl⟩ k hk
  unfold Lzic_Parse_0
  dsimp only
  rw [WV_len, Int.toNat_natCast]
  by_cases e : j < L.length
  · rw [if_pos (decide_eq_true (by omega)), if_pos (by omega)]
    refine asW e ?_
    have hL := q2 _ (List.getElem_mem e)
    have w1 : w64 ((j : Int) + 1) = ((j + 1 : Nat) : Int) := by rw [w64_in (by omega) (by omega)]; omega
    refine kCut _ (by omega) fun b o => ?_
    have hb := bare_len L[j]
    refine kWords _ (by omega) ?_
    rw [List.drop_eq_getElem_cons e, parseG] at hp
    have hwl := wd_len (bareL L[j]) []
    rw [WV_len, w1]
    by_cases hw : wordsL (bareL L[j]) = []
    · rw [if_pos hw] at hp
      rw [if_pos (by simp [hw])]
      exact hk _ ⟨j + 1, c, e, by omega, by omega, hp, rfl⟩ (by show L.length - Int.toNat ((j + 1 : Nat) : Int) < L.length - Int.toNat (j : Int); omega)
    · rw [if_neg hw] at hp
      have h1 : 1 ≤ (wordsL (bareL L[j])).length := List.length_pos_iff.2 hw
      rw [if_neg (by simp; omega)]
      refine kSrcLine c (j + 1) _ h1 (fun w hww => by have := (hwl.2 w hww).1; simp at this; omega) (by omega) fun o f => ?_
      have hlen := lineW_len c (j + 1) (wordsL (bareL L[j]))
      have hat := lineW_at c (j + 1) (wordsL (bareL L[j])) (by omega)
      generalize lineW c (j + 1) (wordsL (bareL L[j])) = r at *
      by_cases he : r.2 = 0
      · rw [if_neg (by simp [he])]
        rw [if_neg (by simp [he])] at hp
        exact hk _ ⟨j + 1, r.1, e, by omega, hat, hp, rfl⟩ (by show L.length - Int.toNat ((j + 1 : Nat) : Int) < L.length - Int.toNat (j : Int); omega)
      · rw [if_pos (by simpa using he)]
        rw [if_pos he] at hp
        rw [← hp] at h
        have := h true true
        simpa [tb0, TLV] using this
  · rw [if_neg (dneg (by omega))]
    have : j = L.length := by omega
    subst this
    rw [List.drop_length, parseG] at hp
    rw [← hp] at h
    unfold parseE at h
    by_cases a1 : c.at' > 0
    · simp only [if_pos a1] at h
      rw [if_pos (decide_eq_true a1)]
      refine kRightT ⟨c.ls, true, c.til⟩ (by show c.ls.length ≤ 1000000; omega) ?_
      cases hr : rightT ⟨c.ls, true, c.til⟩
      · simp only [hr, Bool.false_eq_true, if_false] at h
        rw [if_pos (by rfl)]
        have := h true true
        exact ⟨dup_of (by simpa [tb0, TLV] using this), by simpa [tb0, TLV] using this⟩
      · simp only [hr, if_true] at h
        rw [if_neg (by simp)]
        exact h _ _
    · simp only [if_neg a1] at h
      rw [if_neg (dneg a1)]
      exact h _ _
theorem kSame (a b : Tb) (hl : a.ls.length ≤ 1000000) {K} (h : K (decide (a = b))) : Xepactref09_Same (TLV a.ls, a.has, a.ex, ()) (TLV b.ls, b.has, b.ex, ()) K := by
  unfold Xepactref09_Same Yepactref09_Same
  dsimp only
  rw [TLV_len, TLV_len]
  have ne : a ≠ b → K false := fun hn => by rw [decide_eq_false hn] at h; exact h
  by_cases e1 : a.ls.length = b.ls.length
  · rw [if_neg (by simp [e1])]
    by_cases e2 : a.has = b.has
    · rw [if_neg (by simp [e2])]
      by_cases e3 : a.ex = b.ex
      · rw [if_neg (by simp [e3])]
        refine lp_ind (fun x => a.ls.length - x.1.2.2.2.1.toNat) (fun x => ∃ j : Nat, j ≤ a.ls.length ∧ a.ls.take j = b.ls.take j ∧ x = (((), (), false, (j : Int), ()), (TLV a.ls, a.has, a.ex, ()), (TLV b.ls, b.has, b.ex, ()), ())) ?_ ⟨0, by omega, rfl, rfl⟩
        rintro x ⟨j, hj, ht, rfl⟩ k hk
        unfold Lepactref09_Same_0
        dsimp only
        rw [TLV_len, TLV_len, Int.toNat_natCast]
        by_cases e : j < a.ls.length
        · rw [if_pos (decide_eq_true (by omega)), if_pos (by omega)]
          refine asL1 e (asL2 e (asL3 e ?_))
          rw [if_pos (by omega)]
          have e' : j < b.ls.length := by omega
          refine asL1 e' (asL2 e' (asL3 e' ?_))
          simp only [lt]
          by_cases q : a.ls[j] = b.ls[j]
          · rw [if_neg (by simp [q])]
            have w1 : w64 ((j : Int) + 1) = ((j + 1 : Nat) : Int) := by rw [w64_in (by omega) (by omega)]; omega
            rw [w1]
            refine hk _ ⟨j + 1, e, ?_, rfl⟩ (by show a.ls.length - Int.toNat ((j + 1 : Nat) : Int) < a.ls.length - Int.toNat (j : Int); omega)
            rw [List.take_succ_eq_append_getElem e, List.take_succ_eq_append_getElem e', ht, q]
          · have : (!((a.ls[j]).1 == (b.ls[j]).1 && ((a.ls[j]).2.1 == (b.ls[j]).2.1 && ((a.ls[j]).2.2 == (b.ls[j]).2.2 && true)))) = true := by
              rw [Bool.not_eq_true']
              cases hh : ((a.ls[j]).1 == (b.ls[j]).1 && ((a.ls[j]).2.1 == (b.ls[j]).2.1 && ((a.ls[j]).2.2 == (b.ls[j]).2.2 && true)))
              · rfl
              · exfalso
                simp only [Bool.and_eq_true, beq_iff_eq, and_true] at hh
                exact q (Prod.ext hh.1 (Prod.ext hh.2.1 hh.2.2))
            rw [if_pos this]
            refine ne fun hab => q ?_
            subst hab; rfl
        · rw [if_neg (dneg (by omega))]
          have hj' : j = a.ls.length := by omega
          rw [hj', List.take_length, e1, List.take_length] at ht
          have : a = b := by
            cases a; cases b; simp_all
          rw [decide_eq_true this] at h; exact h
      · rw [if_pos (by simpa using e3)]
        exact ne fun hab => e3 (by rw [hab])
    · rw [if_pos (by simpa using e2)]
      exact ne fun hab => e2 (by rw [hab])
  · rw [if_pos (by simp; omega)]
    exact ne fun hab => e1 (by rw [hab])
end Go.Proofs.YtoiiblhbojhogaaDoor
end
section
set_option linter.unusedVariables false
set_option linter.unusedSimpArgs false
namespace Go.Proofs.YtoiiblhbojhogaaDoor
open Go Go.Proofs.YtoiiblhbojhogaaDoor.Eng Go.Proofs.YtoiiblhbojhogaaDoor.Pl
set_option linter.unusedVariables false
set_option linter.unusedSimpArgs false
set_option maxRecDepth 100000
set_option maxHeartbeats 2000000

theorem kStClock (x : Int) (h0 : 0 ≤ x) (h1 : x < 86400) {K} (h : K (x / 3600) (x / 60 % 60) (x % 60) true) : Xstamp_Clock x K := by
  unfold Xstamp_Clock Ystamp_Clock
  simp only [decide_eq_true_eq, beq_iff_eq]
  rw [if_neg (by omega), if_neg (by omega), if_neg (by omega), Int.tdiv_eq_ediv_of_nonneg h0, Int.tdiv_eq_ediv_of_nonneg h0, Int.tmod_eq_emod_of_nonneg h0,
    w64_in (by omega) (by omega), w64_in (by omega) (by omega), Int.tmod_eq_emod_of_nonneg (by omega)]
  exact h
/-- Numbers laid into a form, from its end. -/
def fillR : List UInt8 → List Int → List UInt8
  | [], _ => []
  | c :: r, ns => if c = 48 then UInt8.ofNat (48 + (ns.headD 0 % 10).toNat) :: fillR r (ns.headD 0 / 10 :: ns.tail) else c :: fillR r ns.tail
def fillL (f : List UInt8) (ns : List Int) : List UInt8 := (fillR f.reverse ns.reverse).reverse
def IV (ns : List Int) : List V := ns.map fun n => .c (.int .i64 n)
theorem IV_len (ns : List Int) : (IV ns).length = ns.length := by simp [IV]
theorem asIV {ns : List Int} {i : Nat} (h : i < ns.length) {F : Prop} {K : Int → Prop} (hk : K ns[i]) : Eng.asInt .i64 (getC (IV ns) i 0) F K := by
  have : getC (IV ns) i 0 = some (.c (.int .i64 ns[i])) := by simp [getC, IV, V.cells, h]
  rw [this]; simpa [Eng.asInt] using hk
theorem IV_set (ns : List Int) (i : Nat) (h : i < ns.length) (x : Int) : List.set (IV ns) i (Eng.setE (List.getD (IV ns) i Eng.V.bad) 0 [.c (.int .i64 x)]) = IV (ns.set i x) := by
  have : List.getD (IV ns) i Eng.V.bad = .c (.int .i64 ns[i]) := by simp [IV, List.getD, h]
  rw [this]
  show List.set (IV ns) i (.c (.int .i64 x)) = _
  simp [IV, List.map_set]
theorem B8_set (l : List UInt8) (i : Nat) (h : i < l.length) (x : UInt8) : List.set (B8 l) i (Eng.setE (List.getD (B8 l) i Eng.V.bad) 0 [.c (.int .u8 (x.toNat : Int))]) = B8 (l.set i x) := by
  have : List.getD (B8 l) i Eng.V.bad = .c (.int .u8 (l[i].toNat : Int)) := by simp [B8, List.getD, h]
  rw [this]
  show List.set (B8 l) i (.c (.int .u8 (x.toNat : Int))) = _
  simp [B8, List.map_set]
theorem kFill (f : List UInt8) (ns : List Int) (hf : f.length ≤ 1000) (hn : ns.length ≤ 1000) (h0 : ∀ n ∈ ns, 0 ≤ n ∧ n ≤ 9223372036854775807) (hc : (f.filter (· ≠ 48)).length < ns.length) {K} (h : K (S (fillL f ns))) : Xstamp_fill (S f) (IV ns) true false K := by
  unfold Xstamp_fill Ystamp_fill
  rw [bytesV_S, B8_len, IV_len]
  have w1 : w64 ((ns.length : Int) - 1) = ((ns.length : Nat) : Int) - 1 := w64_in (by omega) (by omega)
  have w2 : w64 ((f.length : Int) - 1) = ((f.length : Nat) : Int) - 1 := w64_in (by omega) (by omega)
  rw [w1, w2]
  refine lp_ind (fun x => (x.1.2.2.2.2.1 + 1).toNat) (fun x => ∃ (p : Nat) (k : Int) (ms : List Int) (bs : List UInt8), p ≤ f.length ∧ bs.length = f.length ∧ bs.take p = f.take p ∧ ms.length = ns.length ∧ k < ms.length ∧
    (∀ n ∈ ms, 0 ≤ n ∧ n ≤ 9223372036854775807) ∧ (((f.take p).filter (· ≠ 48)).length : Int) ≤ k ∧ (fillR (f.take p).reverse (ms.take (k + 1).toNat).reverse).reverse ++ bs.drop p = fillL f ns ∧
    x = (((), ByteArray.mk #[], (), k, (p : Int) - 1, ()), (IV ms, true, false), B8 bs, ())) ?_
    ⟨f.length, (ns.length : Int) - 1, ns, f, Nat.le_refl _, rfl, rfl, rfl, by omega, h0, by rw [List.take_length]; omega, by rw [List.take_length, show ((ns.length : Int) - 1 + 1).toNat = ns.length by omega, List.take_length]; simp [fillL], rfl⟩
  rintro x ⟨p, k, ms, bs, hp, hb, hbt, hm, hk, hz, hcnt, hres, rfl⟩ kk hkk
  unfold Lstamp_fill_0
  simp only [decide_eq_true_eq, B8_len, IV_len]
  cases p with
  | zero =>
    rw [if_neg (by omega), if_pos (B8_all _), B8_pack]
    have : bs = fillL f ns := by simpa [fillR] using hres
    rw [this]; exact h
  | succ p =>
    have hpf : p < f.length := by omega
    have e1 : ((p + 1 : Nat) : Int) - 1 = (p : Int) := by omega
    have hbp : bs[p]'(by omega) = f[p] := by
      have h1 := congrArg (fun l => l[p]?) hbt
      simpa [List.getElem?_take, hpf, show p < bs.length by omega] using h1
    rw [e1, if_pos (by omega), if_pos (by omega)]
    simp only [Int.toNat_natCast]
    refine asB8 (by omega) ?_
    rw [hbp]
    have hrev : (f.take (p + 1)).reverse = f[p] :: (f.take p).reverse := by rw [List.take_succ_eq_append_getElem hpf]; simp
    rw [hrev, fillR] at hres
    have hbd : bs.take p = f.take p := by
      have := congrArg (List.take p) hbt
      simpa [List.take_take, Nat.min_eq_left (Nat.le_succ p)] using this
    have w3 : w64 ((p : Int) - 1) = (p : Int) - 1 := w64_in (by omega) (by omega)
    rw [List.take_succ_eq_append_getElem hpf, List.filter_append] at hcnt
    by_cases hd : f[p] = 48
    · have hne : ¬ (((f[p].toNat : Int) != 48) = true) := by rw [hd]; decide
      rw [if_pos hd] at hres
      have hk0 : 0 ≤ k := by omega
      have hkm : k.toNat < ms.length := by omega
      rw [if_neg hne, if_pos (by omega)]
      refine asB8 (by omega) ?_
      rw [hbp, if_pos (by omega)]
      refine asIV hkm ?_
      simp only [lt]
      rw [if_pos (by omega), if_pos (by omega), if_pos (by omega)]
      refine asIV hkm ?_
      rw [if_pos (by omega), if_pos trivial, if_pos hkm, w3]
      obtain ⟨z0, z1⟩ := hz _ (List.getElem_mem hkm)
      have t1 : Int.tmod ms[k.toNat] 10 = ms[k.toNat] % 10 := Int.tmod_eq_emod_of_nonneg z0
      have t2 : w64 (Int.tdiv ms[k.toNat] 10) = ms[k.toNat] / 10 := by rw [Int.tdiv_eq_ediv_of_nonneg z0, w64_in (by omega) (by omega)]
      have t3 : wu8 ((f[p].toNat : Int) + wu8 (Int.tmod ms[k.toNat] 10)) = ((UInt8.ofNat (48 + (ms[k.toNat] % 10).toNat)).toNat : Int) := by
        rw [t1, hd, wu8_in (n := ms[k.toNat] % 10) (by omega) (by omega), wu8_in (by simp; omega) (by simp; omega)]
        simp; omega
      rw [t2, t3, IV_set _ _ hkm, B8_set _ _ (by omega)]
      have htk : (ms.take (k + 1).toNat).reverse = ms[k.toNat] :: (ms.take k.toNat).reverse := by
        rw [show (k + 1).toNat = k.toNat + 1 by omega, List.take_succ_eq_append_getElem hkm]; simp
      rw [htk] at hres
      refine hkk _ ⟨p, k, ms.set k.toNat (ms[k.toNat] / 10), bs.set p (UInt8.ofNat (48 + (ms[k.toNat] % 10).toNat)), by omega, by simpa using hb, ?_, by simpa using hm, by simpa using hk, fun n hn => ?_, by rw [hd] at hcnt; simpa using hcnt, ?_, by rfl⟩ (by dsimp only; omega)
      · rw [List.take_set_of_le (Nat.le_refl p)]; exact hbd
      · rcases List.mem_or_eq_of_mem_set hn with hn | rfl
        · exact hz n hn
        · omega
      · have e2 : ((ms.set k.toNat (ms[k.toNat] / 10)).take (k + 1).toNat).reverse = ms[k.toNat] / 10 :: (ms.take k.toNat).reverse := by
          rw [show (k + 1).toNat = k.toNat + 1 by omega, List.take_succ_eq_append_getElem (by simpa using hkm), List.take_set_of_le (Nat.le_refl _)]; simp
        have e3 : (bs.set p (UInt8.ofNat (48 + (ms[k.toNat] % 10).toNat))).drop p = UInt8.ofNat (48 + (ms[k.toNat] % 10).toNat) :: bs.drop (p + 1) := by
          rw [List.drop_eq_getElem_cons (by simp; omega), List.getElem_set_self, List.drop_set_of_lt (by omega)]
        rw [e2, e3, ← hres]
        simp
    · have hne : ((f[p].toNat : Int) != 48) = true := by
        rw [bne_iff_ne]; intro e
        exact hd (u8_eq (by have : (48 : UInt8).toNat = 48 := rfl; omega))
      rw [if_neg hd] at hres
      have hcnt' : (((f.take p).filter (· ≠ 48)).length : Int) + 1 ≤ k := by
        have : ([f[p]].filter (· ≠ 48)).length = 1 := by simp [hd]
        rw [List.length_append, this] at hcnt; omega
      rw [if_pos hne, w3, w64_in (by omega) (by omega)]
      refine hkk _ ⟨p, k - 1, ms, bs, by omega, hb, hbd, hm, by omega, hz, by omega, ?_, by rfl⟩ (by dsimp only; omega)
      have hkm : k.toNat < ms.length := by omega
      have htk : (ms.take (k + 1).toNat).reverse = ms[k.toNat] :: (ms.take k.toNat).reverse := by
        rw [show (k + 1).toNat = k.toNat + 1 by omega, List.take_succ_eq_append_getElem hkm]; simp
      rw [htk] at hres
      rw [show (k - 1 + 1).toNat = k.toNat by omega, ← hres, List.drop_eq_getElem_cons (show p < bs.length by omega), hbp]
      simp
/-- A day and a second of it. -/
def stampB (n x : Int) : List UInt8 := fillL [48, 48, 48, 48, 45, 48, 48, 45, 48, 48, 84, 48, 48, 58, 48, 48, 58, 48, 48] [yearP n, monP n, dayP n, x / 3600, x / 60 % 60, x % 60] ++ [90]
theorem stamp_clock (n x : Int) : (stampB n x).length = 20 ∧ ((stampB n x).drop 11).take 8 = hms x := ⟨rfl, rfl⟩
theorem kStText (n x : Int) (hn : -719162 ≤ n ∧ n ≤ 2932896) (h0 : 0 ≤ x) (h1 : x < 86400) {K} (h : K (S (stampB n x)) true) : Xstamp_Text n x K := by
  unfold Xstamp_Text Ystamp_Text
  refine sday n ?_
  rw [if_pos hn]
  refine kStClock x h0 h1 ?_
  obtain ⟨⟨v1, v2, v3, v4, v5, v6⟩, _⟩ := num_date hn.1 hn.2
  have := dim_bd (yearP n) (monP n)
  rw [if_neg (by simp), if_neg (by simp)]
  have := kFill [48, 48, 48, 48, 45, 48, 48, 45, 48, 48, 84, 48, 48, 58, 48, 48, 58, 48, 48] [yearP n, monP n, dayP n, x / 3600, x / 60 % 60, x % 60] (by decide) (by simp) (fun m hm => by
    simp only [List.mem_cons, List.not_mem_nil, or_false] at hm
    rcases hm with rfl | rfl | rfl | rfl | rfl | rfl <;> omega) (show 5 < 6 by decide) (K := fun r10 => if ((ByteArray.size r10 + 1 : Nat) : Int) > 9223372036854775807 then False else K (r10 ++ S [90]) true) (by
    rw [if_neg (by rw [S_size]; simp [fillL, fillR]), S_append]; exact h)
  exact this
theorem kJoin (ws : List (List UInt8)) (h1 : ws.length ≤ 1000000) (h2 : (joinT ws).length ≤ 100000000) {K} (h : K (S (joinT ws))) : Xjoin (WV ws) (ByteArray.mk #[9]) K := by
  have e : (ws.map S).map (fun b => b.data.toList) = ws := by rw [List.map_map]; exact map_id_of ws fun w _ => S_data w
  refine ⟨ws.map S, by simp [WV, cs, List.map_map], by simpa using h1, ?_, ?_⟩
  · rw [e]; exact h2
  · rw [e]; exact h
theorem monName_cap {m : Int} (h1 : 1 ≤ m) (h2 : m ≤ 12) : 3 ≤ (monNames.getD (m - 1).toNat []).length ∧
    List.set (B8 ((monNames.getD (m - 1).toNat []).take 3)) 0 (Eng.setE (List.getD (B8 ((monNames.getD (m - 1).toNat []).take 3)) 0 Eng.V.bad) 0 [.c (.int .u8 (wu8 ((((monNames.getD (m - 1).toNat []).take 3).getD 0 0).toNat - 32)))]) = B8 (monCap m) ∧ (monCap m).length = 3 := by
  rcases month_cases h1 h2 with rfl | rfl | rfl | rfl | rfl | rfl | rfl | rfl | rfl | rfl | rfl | rfl <;> exact ⟨by decide, by rfl, by rfl⟩
theorem kWrite (kind : List UInt8) (n : Int) (rest : List (List UInt8)) (hn : -719162 ≤ n ∧ n ≤ 2932896) (h1 : rest.length ≤ 1000) (h2 : (joinT (dateWords kind n rest)).length ≤ 100000) {K} (h : K (S (joinT (dateWords kind n rest) ++ [10]))) :
    Xzic_write (S kind) n (WV rest) K := by
  unfold Xzic_write Yzic_write
  refine sday n ?_
  rw [if_pos hn]
  obtain ⟨⟨v1, v2, v3, v4, v5, v6⟩, _⟩ := num_date hn.1 hn.2
  have hd := dim_bd (yearP n) (monP n)
  obtain ⟨n1, n2, n3⟩ := monName_cap v3 v4
  refine kNames ?_
  have w1 : w64 (monP n - 1) = monP n - 1 := w64_in (by omega) (by omega)
  rw [w1, if_pos (by omega)]
  refine month_at (monP n - 1).toNat (by omega) ?_
  generalize hN : monNames.getD (monP n - 1).toNat [] = N at *
  have hl3 : (N.take 3).length = 3 := by simp; omega
  simp only [S_size, S_extract, List.drop_zero, Nat.sub_zero, bytesV_S, B8_len, hl3, lt]
  rw [if_pos (by omega), if_pos (by omega)]
  refine asB8 (by omega) ?_
  have e0 : (N.take 3)[0]'(by omega) = (N.take 3).getD 0 0 := by rw [getD_in _ _ _ (by omega)]
  rw [if_pos (by omega), if_pos (by omega), e0, n2]
  have tail : (if Eng.roomOk (List.length [V.c (.string (S kind)), V.c (.string (S (itoaK (yearP n)))), V.c (.string (S (monCap (monP n)))), V.c (.string (S (itoaK (dayP n))))] + (WV rest).length) 16 = true then
      Xjoin ([V.c (.string (S kind)), V.c (.string (S (itoaK (yearP n)))), V.c (.string (S (monCap (monP n)))), V.c (.string (S (itoaK (dayP n))))] ++ WV rest) (ByteArray.mk #[9]) (fun r => if ((ByteArray.size r + 1 : Nat) : Int) > 9223372036854775807 then False else K (r ++ ByteArray.mk #[10])) else False) := by
    rw [if_pos (by unfold roomOk; rw [decide_eq_true_eq, WV_len]; simp; omega)]
    have e : [V.c (.string (S kind)), V.c (.string (S (itoaK (yearP n)))), V.c (.string (S (monCap (monP n)))), V.c (.string (S (itoaK (dayP n))))] ++ WV rest = WV (dateWords kind n rest) := rfl
    rw [e]
    refine kJoin _ (by simp [dateWords]; omega) (by omega) ?_
    rw [if_neg (by rw [S_size]; omega), S_append]
    exact h
  have p1 : ∀ {Q}, Q (S (itoaK (yearP n))) → Xitoa (yearP n) Q := fun hq => sitoa _ (by omega) (by omega) hq
  have p2 : ∀ {Q}, Q (S (itoaK (dayP n))) → Xitoa (dayP n) Q := fun hq => sitoa _ (by omega) (by omega) hq
  have all := B8_all (monCap (monP n))
  simp only [B8_pack]
  exact ⟨p1 ⟨by rw [if_pos all]; exact p2 tail, p2 (by rw [if_pos all]; exact tail)⟩, by rw [if_pos all]; exact p1 (p2 tail)⟩
theorem itoa_len (n : Int) : (itoaK n).length ≤ 21 := itoaK_len n
theorem join_len (ws : List (List UInt8)) (m : Nat) (h : ∀ w ∈ ws, w.length ≤ m) : (joinT ws).length ≤ (m + 1) * ws.length := by
  induction ws with
  | nil => simp [joinT, Lib.join, List.intercalate, List.intersperse]
  | cons w r ih =>
    cases r with
    | nil => rw [join_one]; have := h w (.head _); simp; omega
    | cons v r =>
      rw [join_cons]
      have h1 := h w (.head _)
      have h2 := ih fun x hx => h x (.tail _ hx)
      simp only [List.length_append, List.length_cons] at h2 ⊢
      rw [Nat.mul_add (m + 1) (r.length + 1) 1]
      omega
theorem date_len' (kind : List UInt8) (n : Int) (rest : List (List UInt8)) (hn : -719162 ≤ n ∧ n ≤ 2932896) (hk : kind.length ≤ 21) (hr : ∀ w ∈ rest, w.length ≤ 21) : (joinT (dateWords kind n rest)).length ≤ 22 * (4 + rest.length) := by
  obtain ⟨⟨v1, v2, v3, v4, v5, v6⟩, _⟩ := num_date hn.1 hn.2
  have := join_len (dateWords kind n rest) 21 (fun w hw => by
    unfold dateWords at hw
    simp only [List.cons_append, List.nil_append, List.mem_cons] at hw
    rcases hw with rfl | rfl | rfl | rfl | hw
    · exact hk
    · exact itoa_len _
    · have := (monName_cap v3 v4).2.2; omega
    · exact itoa_len _
    · exact hr w hw)
  simp [dateWords] at this ⊢
  omega
theorem kLeapLine (l : LR) (hn : -719162 ≤ l.1 ∧ l.1 ≤ 2932896) (s1 s2 s3 : List UInt8) (h1 : s1 = if l.2.1 < 0 then [50, 51, 58, 53, 57, 58, 53, 57] else [50, 51, 58, 53, 57, 58, 54, 48]) (h2 : s2 = if l.2.1 < 0 then [45] else [43]) (h3 : s3 = if l.2.2 = true then [82] else [83])
    {K} (h : K (S (joinT (leapWords l) ++ [10]))) : Xzic_write (S [76, 101, 97, 112]) l.1 (WV [s1, s2, s3]) K := by
  have hl := date_len' [76, 101, 97, 112] l.1 [s1, s2, s3] hn (by decide) (fun w hw => by
    simp only [List.mem_cons, List.not_mem_nil, or_false] at hw
    rcases hw with rfl | rfl | rfl
    · rw [h1]; split <;> decide
    · rw [h2]; split <;> decide
    · rw [h3]; split <;> decide)
  refine kWrite _ _ _ hn (by simp) (by simp at hl; omega) ?_
  rw [h1, h2, h3]; exact h
theorem leap_len {l : LR} (hn : -719162 ≤ l.1 ∧ l.1 ≤ 2932896) : (joinT (leapWords l) ++ [10]).length ≤ 200 := by
  have := date_len' [76, 101, 97, 112] l.1 [if l.2.1 < 0 then [50, 51, 58, 53, 57, 58, 53, 57] else [50, 51, 58, 53, 57, 58, 54, 48], if l.2.1 < 0 then [45] else [43], if l.2.2 = true then [82] else [83]] hn (by decide) (fun w hw => by
    simp only [List.mem_cons, List.not_mem_nil, or_false] at hw
    rcases hw with rfl | rfl | rfl <;> split <;> decide)
  rw [List.length_append]
  simp only [List.length_cons, List.length_nil] at this ⊢
  unfold leapWords; omega
theorem checkG_len : ∀ (p : List LR) (k : Nat) (a : Int), (checkG k a p).2.1 = 0 → p = [] ∨ k + p.length ≤ 200
  | [], k, a, h => .inl rfl
  | x :: p, k, a, h => by
    rw [checkG] at h
    split at h
    · rename_i hw; exact absurd h hw
    · rename_i hw
      have hw : wrongL k x a = 0 := by omega
      obtain ⟨q0, _⟩ := wrongL_0 hw
      rcases checkG_len p _ _ h with rfl | h'
      · right; simp; omega
      · right; simp; omega
theorem kZText (t : Tb) (hl : t.ls.length ≤ 1000000) {K} (h : K (S (ztextL t).1) (ztextL t).2) : Xzic_Text (TLV t.ls, t.has, t.ex, ()) K := by
  unfold Xzic_Text Yzic_Text
  refine kRightT t hl ?_
  unfold ztextL at h
  cases hr : rightT t
  · rw [if_pos (by rfl)]
    rw [hr, if_neg (by simp)] at h; exact h
  rw [hr, if_pos rfl] at h
  rw [if_neg (by simp)]
  obtain ⟨g1, g2⟩ := right_0 hr
  obtain ⟨x1, x2⟩ := right_ex hr
  have hlen : t.ls.length ≤ 200 := by
    rcases checkG_len _ _ _ g1 with e | e
    · rw [e]; simp
    · omega
  have all := checkG_all _ _ _ g1
  unfold ztextB zlines at h
  rw [TLV_len]
  have bd : ∀ j, j ≤ t.ls.length → (((t.ls.take j).map leapWords).map fun ws => joinT ws ++ [10]).flatten.length ≤ 200 * j := fun j hj => by
    induction j with
    | zero => simp
    | succ j ih =>
      have e : j < t.ls.length := hj
      obtain ⟨q1, q2, _⟩ := all _ (List.getElem_mem e)
      have := leap_len (l := t.ls[j]) (by omega)
      have := ih (by omega)
      rw [List.take_succ_eq_append_getElem e, List.map_append, List.map_append, List.flatten_append, List.length_append]
      simp only [List.map_cons, List.map_nil, List.flatten_cons, List.flatten_nil, List.append_nil]
      omega
  refine lp_at (fun j => (((), S (((t.ls.take j).map leapWords).map fun ws => joinT ws ++ [10]).flatten, false, TLV t.ls, (t.ls.length : Int), (j : Int), ()), (TLV t.ls, t.has, t.ex, ()), ())) t.ls.length rfl fun j hj k hk => ?_
  unfold Lzic_Text_0
  dsimp only
  have bj := bd j hj
  generalize hT : (((t.ls.take j).map leapWords).map fun ws => joinT ws ++ [10]).flatten = T at *
  by_cases e : j < t.ls.length
  · rw [if_pos (decide_eq_true (by omega)), TLV_len, if_pos (by omega), Int.toNat_natCast]
    refine asL1 e (asL2 e (asL3 e ?_))
    obtain ⟨q1, q2, q3⟩ := all _ (List.getElem_mem e)
    have hn : -719162 ≤ (t.ls[j]).1 ∧ (t.ls[j]).1 ≤ 2932896 := by omega
    have w1 : w64 ((j : Int) + 1) = ((j + 1 : Nat) : Int) := by rw [w64_in (by omega) (by omega)]; omega
    have ll := leap_len (l := t.ls[j]) hn
    have go : ∀ s1 s2 s3, s1 = (if (t.ls[j]).2.1 < 0 then [50, 51, 58, 53, 57, 58, 53, 57] else [50, 51, 58, 53, 57, 58, 54, 48]) → s2 = (if (t.ls[j]).2.1 < 0 then [45] else [43]) → s3 = (if (t.ls[j]).2.2 = true then [82] else [83]) →
        Xzic_write (S [76, 101, 97, 112]) (t.ls[j]).1 (WV [s1, s2, s3]) (fun r => if ((ByteArray.size (S T) + ByteArray.size r : Nat) : Int) > 9223372036854775807 then False else k (((), S T ++ r, false, TLV t.ls, (t.ls.length : Int), w64 ((j : Int) + 1), ()), (TLV t.ls, t.has, t.ex, ()), ())) := fun s1 s2 s3 e1 e2 e3 => by
      refine kLeapLine _ hn s1 s2 s3 e1 e2 e3 ?_
      rw [if_neg (by rw [S_size, S_size]; omega), w1, S_append]
      have := hk e
      rw [List.take_succ_eq_append_getElem e, List.map_append, List.map_append, List.flatten_append, hT] at this
      simpa using this
    by_cases c1 : (t.ls[j]).2.1 < 0
    · rw [if_pos (decide_eq_true c1)]
      rw [if_pos c1, if_pos c1] at go
      cases c2 : (t.ls[j]).2.2
      · rw [if_neg (by simp)]
        exact go _ _ [83] rfl rfl (by rw [c2]; rfl)
      · rw [if_pos rfl]
        exact go _ _ [82] rfl rfl (by rw [c2]; rfl)
    · rw [if_neg (dneg c1)]
      rw [if_neg c1, if_neg c1] at go
      cases c2 : (t.ls[j]).2.2
      · rw [if_neg (by simp)]
        exact go _ _ [83] rfl rfl (by rw [c2]; rfl)
      · rw [if_pos rfl]
        exact go _ _ [82] rfl rfl (by rw [c2]; rfl)
  · have : j = t.ls.length := by omega
    subst this
    rw [List.take_length] at hT
    rw [if_neg (dneg (by omega))]
    cases hh : t.has
    · rw [if_neg (by simp)]
      rw [hh, if_neg (by simp), List.append_nil, hT] at h
      exact h
    · obtain ⟨y1, y2⟩ := x2 hh
      rw [hh, if_pos rfl, List.map_append, List.flatten_append, hT] at h
      rw [if_pos rfl, Int.tdiv_eq_ediv_of_nonneg (by omega), Int.tmod_eq_emod_of_nonneg (by omega), w64_in (by omega) (by omega)]
      have hn : -719162 ≤ t.ex / 86400 ∧ t.ex / 86400 ≤ 2932896 := by omega
      refine kStText _ _ hn (by omega) (by omega) ?_
      obtain ⟨z1, z2⟩ := stamp_clock (t.ex / 86400) (t.ex % 86400)
      rw [S_size, z1, if_pos (by omega), S_extract, z2]
      have hl := date_len' [69, 120, 112, 105, 114, 101, 115] (t.ex / 86400) [hms (t.ex % 86400)] hn (by decide) (fun w hw => by
        simp only [List.mem_cons, List.not_mem_nil, or_false] at hw
        subst hw; exact (show 8 ≤ 21 by decide))
      refine kWrite [69, 120, 112, 105, 114, 101, 115] _ [hms (t.ex % 86400)] hn (by simp) (by simp at hl; omega) ?_
      rw [if_neg (by rw [S_size, S_size, List.length_append]; simp at hl ⊢; omega), S_append]
      simpa [expWords] using h
end Go.Proofs.YtoiiblhbojhogaaDoor
end
section
set_option linter.unusedVariables false
set_option linter.unusedSimpArgs false
namespace Go.Proofs.YtoiiblhbojhogaaDoor
open Go Go.Proofs.YtoiiblhbojhogaaDoor.Eng Go.Proofs.YtoiiblhbojhogaaDoor.Pl
set_option linter.unusedVariables false
set_option linter.unusedSimpArgs false
set_option maxRecDepth 100000
set_option maxHeartbeats 4000000

theorem kParseAt (s : List UInt8) (r : Tb × Int × Int) (e : zparseL s = r) (hs : Nat.ble s.length 90000 = true) {K} (h : ∀ o f, K ((), r.1.has, r.1.ex, ()) (r.2.1, r.2.2, ()) (TLV r.1.ls) o f) : Xzic_Parse (S s) K := by
  subst e; exact kParse s (Nat.le_of_ble_eq_true hs) h
theorem kTextAt (t : Tb) (r : List UInt8 × Bool) (e : ztextL t = r) (hl : Nat.ble t.ls.length 1000000 = true) {K} (h : K (S r.1) r.2) : Xzic_Text (TLV t.ls, t.has, t.ex, ()) K := by
  subst e; exact kZText t (Nat.le_of_ble_eq_true hl) h
theorem kMonthAt (s : List UInt8) (r : Int × Bool) (e : monthL s = r) (hl : Nat.ble s.length 1000000 = true) {K} (h : K r.1 r.2) : Xzic_Month (S s) K := by
  subst e; exact kMonth s (Nat.le_of_ble_eq_true hl) h
theorem kClockAt (s : List UInt8) (r : Int × Bool) (e : zclockL s = r) (hl : Nat.ble s.length 1000000 = true) {K} (h : K r.1 r.2) : Xzic_Clock (S s) K := by
  subst e; exact kClock s (Nat.le_of_ble_eq_true hl) h
theorem kSameAt (a b : Tb) (r : Bool) (e : decide (a = b) = r) (hl : Nat.ble a.ls.length 1000000 = true) {K} (h : K r) : Xepactref09_Same (TLV a.ls, a.has, a.ex, ()) (TLV b.ls, b.has, b.ex, ()) K := by
  subst e; exact kSame a b (Nat.le_of_ble_eq_true hl) h
def tbS : Tb := ⟨[(911, 1, false), (1095, -1, true)], true, 126230405⟩
def txS : List UInt8 := [76, 101, 97, 112, 9, 49, 57, 55, 50, 9, 74, 117, 110, 9, 51, 48, 9, 50, 51, 58, 53, 57, 58, 54, 48, 9, 43, 9, 83, 10, 76, 101, 97, 112, 9, 49, 57, 55, 50, 9, 68, 101, 99, 9, 51, 49, 9, 50, 51, 58, 53, 57, 58, 53, 57, 9, 45, 9, 82, 10, 69, 120, 112, 105, 114, 101, 115, 9, 49, 57, 55, 52, 9, 74, 97, 110, 9, 49, 9, 48, 48, 58, 48, 48, 58, 48, 53, 10]
theorem kSmall {K : Bool → Prop} (h : K true) : Xepactlaw11_small K := by
  rw [Xepactlaw11_small, Yepactlaw11_small]
  refine kParseAt _ (tbS, 0, 0) (by kernel_rfl) (by kernel_rfl) fun o1 f1 => ?_
  refine kParseAt _ (tb0, 1, 6) (by kernel_rfl) (by kernel_rfl) fun o2 f2 => ?_
  refine kParseAt _ (tb0, 2, 5) (by kernel_rfl) (by kernel_rfl) fun o3 f3 => ?_
  refine kParseAt _ (tb0, 1, 9) (by kernel_rfl) (by kernel_rfl) fun o4 f4 => ?_
  refine kParseAt _ (tb0, 1, 2) (by kernel_rfl) (by kernel_rfl) fun o5 f5 => ?_
  refine kParseAt _ (tb0, 2, 2) (by kernel_rfl) (by kernel_rfl) fun o6 f6 => ?_
  refine kTextAt tbS (txS, true) (by kernel_rfl) (by kernel_rfl) ?_
  refine kParseAt _ (tbS, 0, 0) (by kernel_rfl) (by kernel_rfl) fun o7 f7 => ?_
  refine kMonthAt _ (9, true) (by kernel_rfl) (by kernel_rfl) ?_
  refine kMonthAt _ (0, false) (by kernel_rfl) (by kernel_rfl) ?_
  refine kClockAt _ (3723, true) (by kernel_rfl) (by kernel_rfl) ?_
  refine kClockAt _ (0, false) (by kernel_rfl) (by kernel_rfl) ?_
  refine kClockAt _ (0, false) (by kernel_rfl) (by kernel_rfl) ?_
  refine kSameAt tbS tbS true (by kernel_rfl) (by kernel_rfl) ?_
  simp only [beq_self_eq_true, Bool.and_self, Bool.and_true, if_true]
  refine kSameAt tbS tbS true (by kernel_rfl) (by kernel_rfl) ?_
  simp only [beq_self_eq_true, Bool.and_self, Bool.and_true, Bool.not_false, if_true, lt]
  rw [kS_eq txS, if_pos (by kernel_rfl)]
  exact h
def monGreat : List (List UInt8) := [[74, 97, 110, 117, 97, 114, 121], [70, 101, 98, 114, 117, 97, 114, 121], [77, 97, 114, 99, 104], [65, 112, 114, 105, 108], [77, 97, 121], [74, 117, 110, 101], [74, 117, 108, 121], [65, 117, 103, 117, 115, 116], [83, 101, 112, 116, 101, 109, 98, 101, 114], [79, 99, 116, 111, 98, 101, 114], [78, 111, 118, 101, 109, 98, 101, 114], [68, 101, 99, 101, 109, 98, 101, 114]]
theorem great_at (n : Nat) (h : n < 12) {F : Prop} {K : ByteArray → Prop} (hk : K (S (monGreat.getD n []))) : Eng.asStr (getC [Eng.V.c (Value.string (ByteArray.mk #[(74 : UInt8), (97 : UInt8), (110 : UInt8), (117 : UInt8), (97 : UInt8), (114 : UInt8), (121 : UInt8)])), Eng.V.c (Value.string (ByteArray.mk #[(70 : UInt8), (101 : UInt8), (98 : UInt8), (114 : UInt8), (117 : UInt8), (97 : UInt8), (114 : UInt8), (121 : UInt8)])), Eng.V.c (Value.string (ByteArray.mk #[(77 : UInt8), (97 : UInt8), (114 : UInt8), (99 : UInt8), (104 : UInt8)])), Eng.V.c (Value.string (ByteArray.mk #[(65 : UInt8), (112 : UInt8), (114 : UInt8), (105 : UInt8), (108 : UInt8)])), Eng.V.c (Value.string (ByteArray.mk #[(77 : UInt8), (97 : UInt8), (121 : UInt8)])), Eng.V.c (Value.string (ByteArray.mk #[(74 : UInt8), (117 : UInt8), (110 : UInt8), (101 : UInt8)])), Eng.V.c (Value.string (ByteArray.mk #[(74 : UInt8), (117 : UInt8), (108 : UInt8), (121 : UInt8)])), Eng.V.c (Value.string (ByteArray.mk #[(65 : UInt8), (117 : UInt8), (103 : UInt8), (117 : UInt8), (115 : UInt8), (116 : UInt8)])), Eng.V.c (Value.string (ByteArray.mk #[(83 : UInt8), (101 : UInt8), (112 : UInt8), (116 : UInt8), (101 : UInt8), (109 : UInt8), (98 : UInt8), (101 : UInt8), (114 : UInt8)])), Eng.V.c (Value.string (ByteArray.mk #[(79 : UInt8), (99 : UInt8), (116 : UInt8), (111 : UInt8), (98 : UInt8), (101 : UInt8), (114 : UInt8)])), Eng.V.c (Value.string (ByteArray.mk #[(78 : UInt8), (111 : UInt8), (118 : UInt8), (101 : UInt8), (109 : UInt8), (98 : UInt8), (101 : UInt8), (114 : UInt8)])), Eng.V.c (Value.string (ByteArray.mk #[(68 : UInt8), (101 : UInt8), (99 : UInt8), (101 : UInt8), (109 : UInt8), (98 : UInt8), (101 : UInt8), (114 : UInt8)]))] n 0) F K :=
  asWd (ws := monGreat) h hk
theorem months_all : ∀ k : Nat, k < 12 → (∀ n : Nat, n < 10 → monthL ((monGreat.getD k []).take n) = (if n < 3 then (0, false) else ((k : Int) + 1, true)) ∧ monthL (foldLw ((monGreat.getD k []).take n)) = (if n < 3 then (0, false) else ((k : Int) + 1, true))) ∧
    (monthL (monGreat.getD k [] ++ [120])).2 = false ∧ 3 ≤ (monGreat.getD k []).length ∧ (monGreat.getD k []).length < 10 := by decide +kernel
theorem lZicMonths (a b : Int) {K : Bool → Prop} (h : K true) : Xepactlaw11_ZicMonths a b K := by
  rw [Xepactlaw11_ZicMonths, Yepactlaw11_ZicMonths]
  refine kSmall ?_
  by_cases h1 : a < 1
  · rw [if_pos (decide_eq_true h1)]; exact h
  rw [if_neg (dneg h1)]
  by_cases h2 : a > 12
  · rw [if_pos (decide_eq_true h2)]; exact h
  rw [if_neg (dneg h2)]
  by_cases h3 : b < 0
  · rw [if_pos (decide_eq_true h3)]; exact h
  rw [if_neg (dneg h3)]
  have w1 : w64 (a - 1) = a - 1 := w64_in (by omega) (by omega)
  rw [w1, if_pos (by omega)]
  obtain ⟨m1, m2, m3, m4⟩ := months_all (a - 1).toNat (by omega)
  rw [show (((a - 1).toNat : Nat) : Int) + 1 = a by omega] at m1
  refine great_at _ (by omega) ?_
  generalize hN : monGreat.getD (a - 1).toNat [] = N at *
  have last : ∀ (r : Bool) (Q : Bool → Prop), Q r → r = false → Q false := fun r Q q e => e ▸ q
  rw [S_size]
  by_cases h4 : b < (N.length : Int)
  · rw [if_pos (decide_eq_true h4), if_pos (by omega), if_pos (by omega), S_extract, List.drop_zero, Nat.sub_zero]
    obtain ⟨q1, q2⟩ := m1 b.toNat (by omega)
    refine kMonth _ (by simp; omega) (kFold _ (by simp; omega) (kMonth _ (by rw [fold_len]; simp; omega) ?_))
    rw [if_pos (by omega)]
    refine great_at _ (by omega) ?_
    rw [hN, S_size, if_neg (by omega), S_append]
    refine kMonth _ (by simp; omega) ?_
    rw [q1, q2, m2]
    by_cases h5 : b < 3
    · rw [if_pos (decide_eq_true h5), if_pos (show b.toNat < 3 by omega)]
      simpa using h
    · rw [if_neg (dneg h5), if_neg (show ¬ b.toNat < 3 by omega)]
      simpa using h
  · rw [if_neg (dneg h4)]
    obtain ⟨q1, q2⟩ := m1 N.length m4
    rw [List.take_length] at q1 q2
    refine kMonth _ (by omega) (kFold _ (by omega) (kMonth _ (by rw [fold_len]; omega) ?_))
    rw [if_pos (by omega)]
    refine great_at _ (by omega) ?_
    rw [hN, S_size, if_neg (by omega), S_append]
    refine kMonth _ (by simp; omega) ?_
    rw [q1, q2, m2, if_neg (dneg (show ¬ b < 3 by omega)), if_neg (show ¬ N.length < 3 by omega)]
    simpa using h
theorem lZicRight (s : List UInt8) {K : Bool → Prop} (h : K true) : Xepactlaw11_ZicRight (S s) K := by
  rw [Xepactlaw11_ZicRight, Yepactlaw11_ZicRight]
  refine kSmall ?_
  rw [S_size]
  by_cases h1 : ((s.length : Nat) : Int) > 3000
  · rw [if_pos (decide_eq_true h1)]; exact h
  rw [if_neg (dneg h1)]
  refine kParse s (by omega) fun o f => ?_
  rcases zparse_good s with ⟨g1, g2, g3⟩ | ⟨g1, g2, g3, g4⟩
  · rw [if_neg (by simp [g1]), if_pos rfl, if_pos (by simp [g2])]
    refine kRightT (zparseL s).1 ?_ ?_
    · rcases checkG_len _ _ _ (right_0 g3).1 with e | e
      · rw [e]; simp
      · omega
    · rw [g3]; exact h
  · rw [if_pos (by simpa using g1), if_pos rfl, g2]
    refine kSameAt tb0 tb0 true (by rfl) (by rfl) ?_
    rw [if_pos rfl, if_pos (decide_eq_true g3)]
    refine kLines s (by omega) ?_
    rw [WV_len, decide_eq_true g4]; exact h
theorem flat_len : ∀ (xs : List (List UInt8)) (m : Nat), (∀ x ∈ xs, x.length ≤ m) → xs.flatten.length ≤ m * xs.length
  | [], m, h => by simp
  | x :: r, m, h => by
    have h1 := h x (.head _)
    have h2 := flat_len r m fun y hy => h y (.tail _ hy)
    rw [List.flatten_cons, List.length_append, List.length_cons, Nat.mul_add, Nat.mul_one]; omega
theorem ztext_len {t : Tb} (hr : rightT t = true) : (ztextB t).length ≤ 200 * (t.ls.length + 1) ∧ t.ls.length ≤ 200 := by
  obtain ⟨g1, g2⟩ := right_0 hr
  have hlen : t.ls.length ≤ 200 := by
    rcases checkG_len _ _ _ g1 with e | e
    · rw [e]; simp
    · omega
  refine ⟨?_, hlen⟩
  unfold ztextB
  have := flat_len ((zlines t).map fun ws => joinT ws ++ [10]) 200 fun x hx => by
    obtain ⟨ws, hws, rfl⟩ := List.mem_map.1 hx
    unfold zlines at hws
    rw [List.mem_append] at hws
    rcases hws with hws | hws
    · obtain ⟨l, hl, rfl⟩ := List.mem_map.1 hws
      obtain ⟨q1, q2, q3⟩ := checkG_all _ _ _ g1 l hl
      exact leap_len (by omega)
    · split at hws
      · rename_i hh
        obtain ⟨x1, x2⟩ := (right_ex hr).2 hh
        simp only [List.mem_singleton] at hws
        subst hws
        have hl := date_len' [69, 120, 112, 105, 114, 101, 115] (t.ex / 86400) [hms (t.ex % 86400)] (by omega) (by decide) (fun w hw => by
          simp only [List.mem_cons, List.not_mem_nil, or_false] at hw
          subst hw; exact (show 8 ≤ 21 by decide))
        rw [List.length_append]
        unfold expWords
        simp at hl ⊢; omega
      · cases hws
  have l2 : ((zlines t).map fun ws => joinT ws ++ [10]).length ≤ t.ls.length + 1 := by
    unfold zlines; split <;> simp
  exact Nat.le_trans this (Nat.mul_le_mul (Nat.le_refl _) l2)
theorem lZicBack (t : Tb) {K : Bool → Prop} (h : K true) : Xepactlaw11_ZicBack (TLV t.ls, t.has, t.ex, ()) K := by
  rw [Xepactlaw11_ZicBack, Yepactlaw11_ZicBack]
  refine kSmall ?_
  unfold Xepactlaw09_Few Yepactlaw09_Few
  dsimp only
  rw [TLV_len]
  by_cases h1 : ((t.ls.length : Nat) : Int) ≤ 300
  · rw [if_neg (by simp; omega)]
    refine kZText t (by omega) ?_
    unfold ztextL
    cases hr : rightT t
    · rw [if_neg (show ¬ (false = true) by simp)]
      dsimp only
      rw [if_pos (show (!false) = true from rfl), if_pos rfl, kS_nil, if_pos (by rfl)]
      refine kRightT t (by omega) ?_
      rw [hr]; exact h
    · rw [if_pos rfl]
      dsimp only
      rw [if_neg (show ¬ ((!true) = true) by simp)]
      obtain ⟨hb, hlen⟩ := ztext_len hr
      refine kParseAt _ _ (zparse_text hr) (Nat.ble_eq_true_of_le (by omega)) fun o f => ?_
      rw [if_pos rfl, if_pos (by rfl)]
      refine kSameAt t t true (decide_eq_true rfl) (Nat.ble_eq_true_of_le (by omega)) ?_
      rw [if_pos rfl]
      refine kRightT t (by omega) ?_
      rw [hr]; exact h
  · rw [if_pos (by simp; omega)]; exact h
/-- What stands after so many rounds. -/
def pN (rem : List UInt8) (k : Nat) (L : List (List UInt8)) (i : Nat) : List (List UInt8) := if i ≤ k then (L.take i).map otherL else (L.take k).map otherL ++ (32 :: 35 :: rem) :: ((L.drop k).take (i - k)).map otherL
theorem pN_lt {rem : List UInt8} {k : Nat} {L : List (List UInt8)} {i : Nat} (h : i < L.length) : pN rem k L (i + 1) = pN rem k L i ++ ((if i = k then [32 :: 35 :: rem] else []) ++ [otherL L[i]]) := by
  unfold pN
  by_cases e : i = k
  · subst e
    have e1 : (L.drop i).take 1 = [L[i]] := by rw [List.drop_eq_getElem_cons h]; rfl
    rw [if_neg (by omega), if_pos (Nat.le_refl _), if_pos rfl, show i + 1 - i = 1 by omega, e1]
    rfl
  · by_cases e2 : i ≤ k
    · rw [if_pos (by omega), if_pos e2, if_neg e, List.take_succ_eq_append_getElem h, List.map_append]; rfl
    · rw [if_neg (by omega), if_neg e2, if_neg e, show i + 1 - k = (i - k) + 1 by omega, List.take_succ_eq_append_getElem (show i - k < (L.drop k).length by simp; omega), List.map_append]
      have e1 : (L.drop k)[i - k]'(by simp; omega) = L[i] := by simp [show k + (i - k) = i by omega]
      rw [e1, List.append_assoc]; rfl
theorem pN_end {rem : List UInt8} {k : Nat} {L : List (List UInt8)} (hk : k ≤ L.length) : pN rem k L (L.length + 1) = otherLines rem k L ∧ (k = L.length → pN rem k L L.length ++ [32 :: 35 :: rem] = otherLines rem k L) ∧ (k < L.length → pN rem k L L.length = otherLines rem k L) := by
  unfold pN otherLines
  refine ⟨?_, fun e => ?_, fun e => ?_⟩
  · have e1 : (L.drop k).take (L.length + 1 - k) = L.drop k := List.take_of_length_le (by simp; omega)
    rw [if_neg (by omega), e1]
  · subst e; rw [if_pos (Nat.le_refl _), List.drop_length]; rfl
  · have e1 : (L.drop k).take (L.length - k) = L.drop k := List.take_of_length_le (by simp)
    rw [if_neg (by omega), e1]
def nlT (ls : List (List UInt8)) : List UInt8 := (ls.map (· ++ [10])).flatten
theorem nlT_app (a b : List (List UInt8)) : nlT (a ++ b) = nlT a ++ nlT b := by simp [nlT]
theorem nlT_len (ls : List (List UInt8)) : (nlT ls).length = (ls.map List.length).sum + ls.length := by
  unfold nlT
  induction ls with
  | nil => rfl
  | cons x r ih => simp at ih ⊢; omega
theorem pN_len (rem : List UInt8) (k : Nat) (L : List (List UInt8)) (i : Nat) (hi : i ≤ L.length) (m : Nat) (hm : ∀ x ∈ L, x.length ≤ m) : (nlT (pN rem k L i)).length ≤ (3 * m + 1) * i + rem.length + 3 := by
  have key : ∀ l : List (List UInt8), (∀ x ∈ l, x ∈ L) → (nlT (l.map otherL)).length ≤ (3 * m + 1) * l.length := fun l hl => by
    have := flat_len ((l.map otherL).map (· ++ [10])) (3 * m + 1) fun y hy => by
      obtain ⟨z, hz, rfl⟩ := List.mem_map.1 hy
      obtain ⟨x, hx, rfl⟩ := List.mem_map.1 hz
      have h1 := other_len x
      have h2 := hm x (hl x hx)
      simp; omega
    simpa [nlT] using this
  unfold pN
  split
  · have := key (L.take i) fun x hx => List.mem_of_mem_take hx
    rw [List.length_take, Nat.min_eq_left hi] at this; omega
  · have h1 := key (L.take k) fun x hx => List.mem_of_mem_take hx
    have h2 := key ((L.drop k).take (i - k)) fun x hx => List.mem_of_mem_drop (List.mem_of_mem_take hx)
    rw [List.length_take] at h1 h2
    rw [List.length_drop] at h2
    have h3 : min k L.length = k := by omega
    have h4 : min (i - k) (L.length - k) = i - k := by omega
    rw [h3] at h1; rw [h4] at h2
    have e : (3 * m + 1) * k + (3 * m + 1) * (i - k) = (3 * m + 1) * i := by rw [← Nat.mul_add]; congr 1; omega
    have e2 : nlT ((L.take k).map otherL ++ (32 :: 35 :: rem) :: ((L.drop k).take (i - k)).map otherL) = nlT ((L.take k).map otherL) ++ ((32 :: 35 :: rem) ++ [10]) ++ nlT (((L.drop k).take (i - k)).map otherL) := by simp [nlT]
    rw [e2]; simp only [List.length_append, List.length_cons, List.length_nil]; omega
def wordsP (ws : List (List UInt8)) (j : Nat) : List UInt8 := ((ws.take j).map fun w => [9, 32] ++ foldLw w).flatten
theorem wordsP_succ {ws : List (List UInt8)} {j : Nat} (h : j < ws.length) : wordsP ws (j + 1) = wordsP ws j ++ [9, 32] ++ foldLw ws[j] := by
  unfold wordsP
  rw [List.take_succ_eq_append_getElem h, List.map_append, List.flatten_append]; simp
theorem wordsP_len (x : List UInt8) (j : Nat) : (wordsP (wordsL x) j).length ≤ 3 * x.length := by
  have h := other_len x
  unfold otherL at h
  have e : (wordsL x).map (fun w => [9, 32] ++ foldLw w) = ((wordsL x).take j).map (fun w => [9, 32] ++ foldLw w) ++ ((wordsL x).drop j).map (fun w => [9, 32] ++ foldLw w) := by rw [← List.map_append, List.take_append_drop]
  rw [e, List.flatten_append, List.length_append] at h
  unfold wordsP; omega
theorem bAtD (l : List UInt8) (i : Nat) (h : i < l.length) (x : UInt8) : (Eng.bAt (S l) i == (x.toNat : Int)) = (l[i] == x) := by
  rw [bAt_S, getD_in _ _ _ h, Bool.eq_iff_iff, beq_iff_eq, beq_iff_eq]
  constructor
  · intro e; exact u8_eq (by omega)
  · intro e; rw [e]
theorem lZicWords (s rem : List UInt8) (k : Int) (hs : s.length ≤ 2000000) {K : Bool → Prop} (h : K true) : Xepactlaw11_ZicWords (S s) (S rem) k K := by
  rw [Xepactlaw11_ZicWords, Yepactlaw11_ZicWords]
  refine kSmall (kLines s hs ?_)
  rw [S_size, S_size, WV_len]
  by_cases h1 : ((s.length : Nat) : Int) > 2000
  · rw [if_pos (decide_eq_true h1)]; exact h
  rw [if_neg (dneg h1)]
  by_cases h2 : ((rem.length : Nat) : Int) > 100
  · rw [if_pos (decide_eq_true h2)]; exact h
  rw [if_neg (dneg h2)]
  by_cases h3 : k < 0
  · rw [if_pos (decide_eq_true h3)]; exact h
  rw [if_neg (dneg h3)]
  by_cases h4 : k > (((linesL s).length : Nat) : Int)
  · rw [if_pos (decide_eq_true h4)]; exact h
  rw [if_neg (dneg h4)]
  obtain ⟨k, rfl⟩ : ∃ n : Nat, k = (n : Int) := ⟨k.toNat, by omega⟩
  have hk : k ≤ (linesL s).length := by omega
  obtain ⟨q1, q2⟩ := linesL_len s
  have lsum := lines_sum s
  -- the remark
  refine lp_ind (fun x => rem.length - x.1.2.2.2.2.2.2.1.toNat) (fun x => ∃ n : Nat, n ≤ rem.length ∧ (∀ c ∈ rem.take n, c ≠ 10) ∧ x = ((S s, S rem, (k : Int), false, true, (), (n : Int), ()), (WV (linesL s), true, false), ())) ?_ ⟨0, by omega, by simp, rfl⟩
  rintro x ⟨n, hn, hrem, rfl⟩ kk hkk
  unfold Lepactlaw11_ZicWords_0
  dsimp only
  rw [S_size, Int.toNat_natCast]
  by_cases e : n < rem.length
  · rw [if_pos (decide_eq_true (by omega)), if_pos (by omega), show ((10 : Int)) = (((10 : UInt8).toNat : Nat) : Int) from rfl, bAtD _ _ e]
    by_cases e1 : rem[n] = 10
    · rw [if_pos (by simp [e1])]; exact h
    · rw [if_neg (by simp [e1])]
      have w1 : w64 ((n : Int) + 1) = ((n + 1 : Nat) : Int) := by rw [w64_in (by omega) (by omega)]; omega
      rw [w1]
      refine hkk _ ⟨n + 1, e, fun c hc => ?_, rfl⟩ (by show rem.length - Int.toNat ((n + 1 : Nat) : Int) < rem.length - Int.toNat (n : Int); omega)
      rw [List.take_succ_eq_append_getElem e, List.mem_append, List.mem_singleton] at hc
      rcases hc with hc | rfl
      · exact hrem c hc
      · exact e1
  rw [if_neg (dneg (by omega))]
  have : n = rem.length := by omega
  subst this
  rw [List.take_length] at hrem
  have hr10 : (10 : UInt8) ∉ rem := fun hh => hrem _ hh rfl
  clear hkk
  -- the lines
  have fin : ∀ (T : List UInt8) (hT : T = otherText rem k s) (k7 : _ → Prop) (k9 : _ → Prop), Eng.lp (Lepactlaw11_ZicWords_4 Xzic_Parse Xepactref09_Same K k7 k9) ((S s, (k : Int), false, true, S T, (0 : Int), ()), ()) := fun T hT k7 k9 => by
    refine lp_ind (fun x => s.length - x.1.2.2.2.2.2.1.toNat) (fun x => ∃ n : Nat, n ≤ s.length ∧ (∀ c ∈ s.take n, c ≠ 35 ∧ c ≠ 13) ∧ x = ((S s, (k : Int), false, true, S T, (n : Int), ()), ())) ?_ ⟨0, by omega, by simp, rfl⟩
    rintro x ⟨n, hn, hc0, rfl⟩ kk hkk
    unfold Lepactlaw11_ZicWords_4
    dsimp only
    rw [S_size, Int.toNat_natCast]
    by_cases e : n < s.length
    · rw [if_pos (decide_eq_true (by omega)), if_pos (by omega), show ((35 : Int)) = (((35 : UInt8).toNat : Nat) : Int) from rfl, bAtD _ _ e]
      by_cases e1 : s[n] = 35
      · rw [if_pos (by simp [e1])]; exact h
      rw [if_neg (by simp [e1]), if_pos (by omega), show ((13 : Int)) = (((13 : UInt8).toNat : Nat) : Int) from rfl, bAtD _ _ e]
      by_cases e2 : s[n] = 13
      · rw [if_pos (by simp [e2])]; exact h
      rw [if_neg (by simp [e2])]
      have w1 : w64 ((n : Int) + 1) = ((n + 1 : Nat) : Int) := by rw [w64_in (by omega) (by omega)]; omega
      rw [w1]
      refine hkk _ ⟨n + 1, e, fun c hc => ?_, rfl⟩ (by show s.length - Int.toNat ((n + 1 : Nat) : Int) < s.length - Int.toNat (n : Int); omega)
      rw [List.take_succ_eq_append_getElem e, List.mem_append, List.mem_singleton] at hc
      rcases hc with hc | rfl
      · exact hc0 c hc
      · exact ⟨e1, e2⟩
    rw [if_neg (dneg (by omega))]
    have : n = s.length := by omega
    subst this
    rw [List.take_length] at hc0
    have h35 : (35 : UInt8) ∉ s := fun hh => (hc0 _ hh).1 rfl
    have h13 : (13 : UInt8) ∉ s := fun hh => (hc0 _ hh).2 rfl
    have all := other_all rem k s hk hr10 h13 h35
    have tl : T.length ≤ 90000 := by
      have e0 : otherText rem k s = nlT (otherLines rem k (linesL s)) := rfl
      rw [hT, e0, nlT_len]
      unfold otherLines
      have o1 := other_sum ((linesL s).take k)
      have o2 := other_sum ((linesL s).drop k)
      have e1 : ((linesL s).map List.length).sum = (((linesL s).take k).map List.length).sum + (((linesL s).drop k).map List.length).sum := by rw [← List.sum_append, ← List.map_append, List.take_append_drop]
      have e2 : ((linesL s).take k).length + ((linesL s).drop k).length = (linesL s).length := by rw [← List.length_append, List.take_append_drop]
      rw [List.map_append, List.map_cons, List.sum_append, List.sum_cons]
      simp only [List.length_append, List.length_cons, List.length_map] at e2 ⊢; omega
    refine kParse s (by omega) fun o f => ?_
    refine kParse T tl fun o' f' => ?_
    rw [hT, all]
    obtain ⟨b1, b2⟩ : 0 ≤ (zparseL s).2.1 ∧ (zparseL s).2.1 ≤ (linesL s).length := by
      rcases zparse_good s with ⟨g1, g2, g3⟩ | ⟨g1, g2, g3, g4⟩ <;> omega
    have tls : (zparseL s).1.ls.length ≤ 1000000 := by
      rcases zparse_good s with ⟨g1, g2, g3⟩ | ⟨g1, g2, g3, g4⟩
      · have := (ztext_len g3).2; omega
      · rw [g2]; simp [tb0]
    unfold shf
    by_cases c : (zparseL s).2.1 > (k : Int)
    · rw [if_pos (decide_eq_true c), if_pos rfl]
      refine kSame _ _ tls ?_
      simp only [lt, if_pos c, w64_in (n := (zparseL s).2.1 + 1) (by omega) (by omega)]
      simpa using h
    · rw [if_neg (dneg c), if_pos rfl]
      refine kSame _ _ tls ?_
      simp only [if_neg c]
      simpa using h
  have fin' : ∀ (T : List UInt8) (hT : T = nlT (otherLines rem k (linesL s))) (k7 : _ → Prop) (k9 : _ → Prop), Eng.lp (Lepactlaw11_ZicWords_4 Xzic_Parse Xepactref09_Same K k7 k9) ((S s, (k : Int), false, true, S T, (0 : Int), ()), ()) := fun T hT => fin T hT
  clear fin
  generalize linesL s = L at *
  refine lp_ind (fun x => L.length + 1 - x.1.2.2.2.2.2.2.2.1.toNat) (fun x => ∃ n : Nat, n ≤ L.length + 1 ∧ x = ((S s, S rem, (k : Int), false, true, (), S (nlT (pN rem k L n)), (n : Int), ()), (WV L, true, false), ())) ?_ ⟨0, by omega, by simp [pN, nlT]⟩
  rintro x ⟨n, hn, rfl⟩ kk hkk
  unfold Lepactlaw11_ZicWords_1
  dsimp only
  rw [WV_len, Int.toNat_natCast]
  by_cases e : n ≤ L.length
  · rw [if_pos (decide_eq_true (by omega))]
    have w1 : w64 ((n : Int) + 1) = ((n + 1 : Nat) : Int) := by rw [w64_in (by omega) (by omega)]; omega
    have len := pN_len rem k L n e 2000 fun x hx => by have := q2 x hx; omega
    have lenb : (nlT (pN rem k L n)).length ≤ 100000000 := by
      have : (3 * 2000 + 1) * n ≤ (3 * 2000 + 1) * 2001 := Nat.mul_le_mul (Nat.le_refl _) (by omega)
      omega
    have words : ∀ (hl : n < L.length) (base : List UInt8), base.length ≤ 100001000 → base = nlT (pN rem k L n) ++ nlT (if n = k then [32 :: 35 :: rem] else []) → ∀ (k7 : _ → Prop),
        Eng.asStr (getC (WV L) n 0) False fun t => Xlines_Words t fun r14 r15 r16 => Eng.lp (Lepactlaw11_ZicWords_2 Xlines_Fold K k7 kk) ((S s, S rem, (k : Int), false, true, (), S base, (n : Int), (), (0 : Int), ()), (WV L, true, false), (r14, r15, r16), ()) := fun hl base hb hbase k7 => by
      refine asW hl ?_
      have hx := q2 _ (List.getElem_mem hl)
      refine kWords _ (by omega) ?_
      obtain ⟨wl1, wl2⟩ := wd_len L[n] []
      have wl1 : (wordsL L[n]).length ≤ L[n].length + 1 := wl1
      refine lp_ind (fun x => (wordsL L[n]).length - x.1.2.2.2.2.2.2.2.2.2.1.toNat) (fun x => ∃ j : Nat, j ≤ (wordsL L[n]).length ∧ x = ((S s, S rem, (k : Int), false, true, (), S (base ++ wordsP (wordsL L[n]) j), (n : Int), (), (j : Int), ()), (WV L, true, false), (WV (wordsL L[n]), true, false), ())) ?_ ⟨0, by omega, by simp [wordsP]⟩
      rintro x ⟨j, hj, rfl⟩ k2 hk2
      unfold Lepactlaw11_ZicWords_2
      dsimp only
      rw [WV_len, Int.toNat_natCast]
      have pl := wordsP_len L[n] j
      by_cases ej : j < (wordsL L[n]).length
      · rw [if_pos (decide_eq_true (by omega)), if_neg (by rw [S_size, List.length_append]; omega)]
        simp only [lt]
        rw [if_pos (by omega)]
        refine asW ej ?_
        have wl := (wl2 _ (List.getElem_mem ej)).1
        have wl : (wordsL L[n])[j].length ≤ 0 + L[n].length := wl
        refine kFold _ (by omega) ?_
        have w2 : w64 ((j : Int) + 1) = ((j + 1 : Nat) : Int) := by rw [w64_in (by omega) (by omega)]; omega
        have e9 : S (base ++ wordsP (wordsL L[n]) j) ++ ByteArray.mk #[9, 32] = S (base ++ wordsP (wordsL L[n]) j ++ [9, 32]) := S_append _ _
        rw [e9, if_neg (by rw [S_size, S_size, fold_len, List.length_append, List.length_append]; simp; omega), S_append, w2]
        refine hk2 _ ⟨j + 1, ej, ?_⟩ (by show (wordsL L[n]).length - Int.toNat ((j + 1 : Nat) : Int) < (wordsL L[n]).length - Int.toNat (j : Int); omega)
        rw [wordsP_succ ej]
        simp only [List.append_assoc]
      · have : j = (wordsL L[n]).length := by omega
        subst this
        rw [if_neg (dneg (by omega)), if_neg (by rw [S_size, List.length_append]; omega)]
        have e10 : S (base ++ wordsP (wordsL L[n]) (wordsL L[n]).length) ++ ByteArray.mk #[10] = S (base ++ wordsP (wordsL L[n]) (wordsL L[n]).length ++ [10]) := S_append _ _
        rw [e10, w1]
        refine hkk _ ⟨n + 1, by omega, ?_⟩ (by show L.length + 1 - Int.toNat ((n + 1 : Nat) : Int) < L.length + 1 - Int.toNat (n : Int); omega)
        have : base ++ wordsP (wordsL L[n]) (wordsL L[n]).length ++ [10] = nlT (pN rem k L (n + 1)) := by
          rw [pN_lt hl, nlT_app, nlT_app, hbase]
          unfold wordsP
          rw [List.take_length]
          simp [nlT, otherL]
        rw [this]
    by_cases ek : n = k
    · rw [if_pos (by simp [ek]), if_neg (by rw [S_size]; omega)]
      have e1 : S (nlT (pN rem k L n)) ++ ByteArray.mk #[32, 35] = S (nlT (pN rem k L n) ++ [32, 35]) := S_append _ _
      simp only [lt]
      rw [e1, if_neg (by rw [S_size, S_size, List.length_append]; simp; omega), S_append, if_neg (by rw [S_size, List.length_append, List.length_append]; simp; omega)]
      have e2 : S (nlT (pN rem k L n) ++ [32, 35] ++ rem) ++ ByteArray.mk #[10] = S (nlT (pN rem k L n) ++ [32, 35] ++ rem ++ [10]) := S_append _ _
      rw [e2]
      have e3 : nlT (pN rem k L n) ++ [32, 35] ++ rem ++ [10] = nlT (pN rem k L n) ++ nlT [32 :: 35 :: rem] := by simp [nlT]
      by_cases hl : n < L.length
      · rw [if_pos (decide_eq_true (by omega)), if_pos (by omega)]
        exact words hl _ (by simp; omega) (by rw [if_pos ek, e3]) _
      · rw [if_neg (dneg (by omega)), w1]
        have hnL : n = L.length := by omega
        refine hkk _ ⟨n + 1, by omega, ?_⟩ (by show L.length + 1 - Int.toNat ((n + 1 : Nat) : Int) < L.length + 1 - Int.toNat (n : Int); omega)
        have := (pN_end (rem := rem) hk).2.1 (by omega)
        rw [e3, ← nlT_app, hnL, this, (pN_end (rem := rem) hk).1]
    · rw [if_neg (by simp; omega)]
      by_cases hl : n < L.length
      · rw [if_pos (decide_eq_true (by omega)), if_pos (by omega)]
        exact words hl _ (by omega) (by rw [if_neg ek]; simp [nlT]) _
      · rw [if_neg (dneg (by omega)), w1]
        have hnL : n = L.length := by omega
        refine hkk _ ⟨n + 1, by omega, ?_⟩ (by show L.length + 1 - Int.toNat ((n + 1 : Nat) : Int) < L.length + 1 - Int.toNat (n : Int); omega)
        have := (pN_end (rem := rem) hk).2.2 (by omega)
        rw [hnL, this, (pN_end (rem := rem) hk).1]
  · rw [if_neg (dneg (by omega))]
    have hnL : n = L.length + 1 := by omega
    subst hnL
    exact fin' _ (by rw [(pN_end hk).1]) _ _
end Go.Proofs.YtoiiblhbojhogaaDoor
end
section
set_option linter.unusedVariables false
set_option linter.unusedSimpArgs false
namespace Go.Proofs.YtoiiblhbojhogaaDoor
open Go Go.Proofs.YtoiiblhbojhogaaDoor.Eng Go.Proofs.YtoiiblhbojhogaaDoor.Pl
set_option linter.unusedVariables false
set_option linter.unusedSimpArgs false
abbrev akT : AK := (.st (.cons (.sl (.st (.cons (.int .i64) (.cons (.int .i64) (.cons .bool .nil))))) (.cons .bool (.cons (.int .i64) .nil))))
theorem wfI {n : Int} (h : (Lit.int .i64 n).wf = true) : -9223372036854775808 ≤ n ∧ n ≤ 9223372036854775807 := by
  simp [Lit.wf, IntKind.min, IntKind.max, IntKind.bits, IntKind.signed] at h
  omega
theorem table_of (ls : List (Int × Int × Bool × Unit)) (has : Bool) (ex : Int) (h1 : ls.length ≤ 9223372036854775807) (h3 : (Lit.int .i64 ex).wf = true) :
    ∃ t : Tb, ((ls.map fun x => V.agg [.c (.int .i64 x.1), .c (.int .i64 x.2.1), .c (.bool x.2.2.1)], has, ex, ()) : List V × Bool × Int × Unit) = (TLV t.ls, t.has, t.ex, ()) ∧ (-9223372036854775808 ≤ t.ex ∧ t.ex ≤ 9223372036854775807) ∧ t.ls.length ≤ 9223372036854775807 := by
  refine ⟨⟨ls.map fun x => (x.1, x.2.1, x.2.2.1), has, ex⟩, ?_, wfI h3, by simpa using h1⟩
  unfold TLV
  rw [List.map_map]; rfl
theorem table_in (a : akT.T) (h : akT.good a) : ∃ t : Tb, (akT.DV a : List V × Bool × Int × Unit) = (TLV t.ls, t.has, t.ex, ()) ∧ (-9223372036854775808 ≤ t.ex ∧ t.ex ≤ 9223372036854775807) ∧ t.ls.length ≤ 9223372036854775807 := by
  obtain ⟨ls, has, ex, u⟩ := a
  obtain ⟨h1, h2, h3, h4⟩ := h
  exact table_of ls has ex h1.1 h3
end Go.Proofs.YtoiiblhbojhogaaDoor
end
section
set_option linter.unusedVariables false
set_option linter.unusedSimpArgs false
namespace Go.Proofs.YtoiiblhbojhogaaDoor
open Go Go.Proofs.YtoiiblhbojhogaaDoor.Eng Go.Proofs.YtoiiblhbojhogaaDoor.Pl
theorem pureZicWords : PureZicWords := by
  intro a0 h0 b0 a1 h1 b1 a2 h2
  show Xepactlaw11_ZicWords (a0 : ByteArray) (a1 : ByteArray) (a2 : Int) (fun b => b = true)
  have e : ByteArray.size a0 = a0.data.toList.length := rfl
  have hs : a0.data.toList.length ≤ 2000000 := by omega
  rw [of_S a0, of_S a1]
  exact lZicWords _ _ a2 hs rfl
end Go.Proofs.YtoiiblhbojhogaaDoor
end
