/-
  The kinds of elements, by name: the program's table and the document's lists. No program in sight.
-/
namespace Go.Proofs.YtcfgbdhpcboikaaGreatDoor

/-- Names and kinds. -/
def kindTab : List (List UInt8 × Nat) := [([98, 111, 100, 121], 14),
  ([100, 105, 118], 2),
  ([98, 108, 111, 99, 107, 113, 117, 111, 116, 101], 2),
  ([112], 3),
  ([104, 49], 3),
  ([104, 50], 3),
  ([104, 51], 3),
  ([104, 52], 3),
  ([104, 53], 3),
  ([104, 54], 3),
  ([112, 114, 101], 3),
  ([97], 4),
  ([98], 4),
  ([99, 111, 100, 101], 4),
  ([101, 109], 4),
  ([105], 4),
  ([109, 101, 116, 101, 114], 4),
  ([112, 114, 111, 103, 114, 101, 115, 115], 4),
  ([115], 4),
  ([115, 109, 97, 108, 108], 4),
  ([115, 112, 97, 110], 4),
  ([115, 116, 114, 111, 110, 103], 4),
  ([115, 117, 98], 4),
  ([115, 117, 112], 4),
  ([117], 4),
  ([98, 114], 5),
  ([105, 109, 103], 5),
  ([104, 114], 6),
  ([111, 108], 7),
  ([117, 108], 7),
  ([108, 105], 8),
  ([116, 97, 98, 108, 101], 9),
  ([99, 97, 112, 116, 105, 111, 110], 10),
  ([116, 98, 111, 100, 121], 11),
  ([116, 102, 111, 111, 116], 11),
  ([116, 104, 101, 97, 100], 11),
  ([116, 114], 12),
  ([116, 100], 13),
  ([116, 104], 13),
  ([97, 112, 112, 108, 101, 116], 1),
  ([97, 117, 100, 105, 111], 1),
  ([98, 97, 115, 101], 1),
  ([98, 117, 116, 116, 111, 110], 1),
  ([99, 97, 110, 118, 97, 115], 1),
  ([101, 109, 98, 101, 100], 1),
  ([102, 114, 97, 109, 101], 1),
  ([102, 114, 97, 109, 101, 115, 101, 116], 1),
  ([104, 101, 97, 100], 1),
  ([105, 102, 114, 97, 109, 101], 1),
  ([105, 110, 112, 117, 116], 1),
  ([108, 105, 110, 107], 1),
  ([109, 101, 116, 97], 1),
  ([110, 111, 101, 109, 98, 101, 100], 1),
  ([110, 111, 102, 114, 97, 109, 101, 115], 1),
  ([111, 98, 106, 101, 99, 116], 1),
  ([111, 112, 116, 105, 111, 110], 1),
  ([112, 97, 114, 97, 109], 1),
  ([115, 99, 114, 105, 112, 116], 1),
  ([115, 101, 108, 101, 99, 116], 1),
  ([115, 116, 121, 108, 101], 1),
  ([116, 101, 109, 112, 108, 97, 116, 101], 1),
  ([116, 101, 120, 116, 97, 114, 101, 97], 1),
  ([116, 105, 116, 108, 101], 1),
  ([118, 105, 100, 101, 111], 1),
  ([120, 109, 112], 1)]
/-- The document's lists, words with blanks between. -/
def kindLists : List (List UInt8) := [[],
  [97, 112, 112, 108, 101, 116, 32, 97, 117, 100, 105, 111, 32, 98, 97, 115, 101, 32, 98, 117, 116, 116, 111, 110, 32, 99, 97, 110, 118, 97, 115, 32, 101, 109, 98, 101, 100, 32, 102, 114, 97, 109, 101, 32, 102, 114, 97, 109, 101, 115, 101, 116, 32, 104, 101, 97, 100, 32, 105, 102, 114, 97, 109, 101, 32, 105, 110, 112, 117, 116, 32, 108, 105, 110, 107, 32, 109, 101, 116, 97, 32, 110, 111, 101, 109, 98, 101, 100, 32, 110, 111, 102, 114, 97, 109, 101, 115, 32, 111, 98, 106, 101, 99, 116, 32, 111, 112, 116, 105, 111, 110, 32, 112, 97, 114, 97, 109, 32, 115, 99, 114, 105, 112, 116, 32, 115, 101, 108, 101, 99, 116, 32, 115, 116, 121, 108, 101, 32, 116, 101, 109, 112, 108, 97, 116, 101, 32, 116, 101, 120, 116, 97, 114, 101, 97, 32, 116, 105, 116, 108, 101, 32, 118, 105, 100, 101, 111, 32, 120, 109, 112],
  [100, 105, 118, 32, 98, 108, 111, 99, 107, 113, 117, 111, 116, 101],
  [112, 32, 104, 49, 32, 104, 50, 32, 104, 51, 32, 104, 52, 32, 104, 53, 32, 104, 54, 32, 112, 114, 101],
  [97, 32, 98, 32, 99, 111, 100, 101, 32, 101, 109, 32, 105, 32, 109, 101, 116, 101, 114, 32, 112, 114, 111, 103, 114, 101, 115, 115, 32, 115, 32, 115, 109, 97, 108, 108, 32, 115, 112, 97, 110, 32, 115, 116, 114, 111, 110, 103, 32, 115, 117, 98, 32, 115, 117, 112, 32, 117],
  [98, 114, 32, 105, 109, 103],
  [104, 114],
  [111, 108, 32, 117, 108],
  [108, 105],
  [116, 97, 98, 108, 101],
  [99, 97, 112, 116, 105, 111, 110],
  [116, 98, 111, 100, 121, 32, 116, 102, 111, 111, 116, 32, 116, 104, 101, 97, 100],
  [116, 114],
  [116, 100, 32, 116, 104],
  [98, 111, 100, 121]]

/-- An element's kind. -/
def kindL (n : List UInt8) : Nat := ((kindTab.find? fun p => p.1 == n).map (·.2)).getD 0
/-- The words of a list with blanks between. -/
def wordsGo : List UInt8 → List UInt8 → List (List UInt8)
  | cur, [] => if cur.isEmpty then [] else [cur]
  | cur, c :: l => if c = 32 then (if cur.isEmpty then wordsGo [] l else cur :: wordsGo [] l) else wordsGo (cur ++ [c]) l
def words (l : List UInt8) : List (List UInt8) := wordsGo [] l
/-- Is a word one of a list's? -/
def inB (w l : List UInt8) : Bool := (words l).contains w
def idxGo (n : List UInt8) : List (List UInt8) → Nat → Nat
  | [], _ => 0
  | l :: r, i => if inB n l then i else idxGo n r (i + 1)

theorem idx_none (n : List UInt8) (ls : List (List UInt8)) (i : Nat) (h : ∀ l ∈ ls, inB n l = false) : idxGo n ls i = 0 := by
  induction ls generalizing i with
  | nil => rfl
  | cons l r ih =>
    unfold idxGo
    rw [h l (List.mem_cons_self ..)]
    exact ih (i + 1) fun x hx => h x (List.mem_cons_of_mem _ hx)
theorem kinds_in : ∀ p ∈ kindTab, idxGo p.1 kindLists 0 = p.2 ∧ kindL p.1 = p.2 := by decide +kernel
theorem kinds_words : ∀ l ∈ kindLists, ∀ w ∈ words l, w ∈ kindTab.map (·.1) := by decide +kernel
theorem kindL_none (n : List UInt8) (h : n ∉ kindTab.map (·.1)) : kindL n = 0 := by
  unfold kindL
  have : (kindTab.find? fun p => p.1 == n) = none := by
    rw [List.find?_eq_none]
    intro p hp he
    apply h
    have e : p.1 = n := by simpa using he
    rw [← e]
    exact List.mem_map_of_mem hp
  rw [this]
  rfl
/-- The document's kind is the program's. -/
theorem kind_same (n : List UInt8) : idxGo n kindLists 0 = kindL n := by
  by_cases h : n ∈ kindTab.map (·.1)
  · obtain ⟨p, hp, rfl⟩ := List.mem_map.1 h
    rw [(kinds_in p hp).1, (kinds_in p hp).2]
  · rw [kindL_none n h, idx_none]
    intro l hl
    unfold inB
    rw [Bool.eq_false_iff]
    intro hc
    exact h (kinds_words l hl n (by simpa using hc))
theorem kindL_le (n : List UInt8) : kindL n ≤ 14 := by
  by_cases h : n ∈ kindTab.map (·.1)
  · obtain ⟨p, hp, rfl⟩ := List.mem_map.1 h
    rw [(kinds_in p hp).2]
    have : ∀ p ∈ kindTab, p.2 ≤ 14 := by decide +kernel
    exact this p hp
  · rw [kindL_none n h]; omega

/-- May an element of one kind stand in one of another (same: of one name)? -/
def mayN (p k : Nat) (same : Bool) : Bool :=
  if p = 14 ∨ p = 2 ∨ p = 8 ∨ p = 13 then decide (2 ≤ k) && decide (k ≤ 7) || decide (k = 9)
  else if p = 3 ∨ p = 10 then decide (k = 4) || decide (k = 5)
  else if p = 4 then decide (k = 4) && !same || decide (k = 5)
  else if p = 7 then decide (k = 8)
  else if p = 9 then decide (k = 10) || decide (k = 11)
  else if p = 11 then decide (k = 12)
  else if p = 12 then decide (k = 13)
  else false
/-- What each kind may have, in bits. -/
def hasN (p : Nat) : Nat :=
  if p = 2 ∨ p = 8 ∨ p = 13 ∨ p = 14 then 765 else if p = 3 ∨ p = 4 ∨ p = 10 then 49 else if p = 7 then 256 else if p = 9 then 3072 else if p = 11 then 4096 else if p = 12 then 8192 else 0
def takesN (p : Nat) : Bool := decide (p = 14 ∨ p = 2 ∨ p = 8 ∨ p = 13 ∨ p = 3 ∨ p = 10 ∨ p = 4)
def mayL (p k : List UInt8) : Bool := mayN (kindL p) (kindL k) (k == p)
def takesL (p : List UInt8) : Bool := takesN (kindL p)
theorem may_bits : ∀ p < 15, ∀ k < 15, ∀ b : Bool, (b = true → p = k) → (decide (0 < k) && decide (hasN p / 2 ^ k % 2 = 1) && !(decide (k = 4) && b)) = mayN p k b := by decide +kernel
theorem takes_bits : ∀ p < 15, decide (hasN p % 2 = 1) = takesN p := by decide +kernel
end Go.Proofs.YtcfgbdhpcboikaaGreatDoor
