/- The plain mathematics of mail (package post): what New, Send, Open, Take, Drop, Mails do to lists; and what the laws say of it. No program in sight. -/
namespace Go.Proofs.Ytcjmapljcnmfaaa
/-- A mail: block, len, by, event. -/
structure Ml where
  bl : Int
  ln : Int
  by_ : Int
  ev : Int
deriving DecidableEq, Inhabited
abbrev Mails := List (List Ml)
def isAg (s : Mails) (n : Int) : Bool := decide (0 ≤ n) && decide (n < s.length)
def openB (s : Mails) (b : Int) : Bool := s.any fun l => l.any fun m => m.by_ == b
/-- The test of Send's first loop, from the i-th on. -/
def badAt (s : Mails) (b : Int) (to : List Int) (i : Nat) : Bool := !isAg s (to.getD i 0) || to.getD i 0 == b || (to.take i).contains (to.getD i 0)
def badTo (s : Mails) (b : Int) (to : List Int) : Bool := (List.range to.length).any (badAt s b to)
def putM (s : Mails) (n : Int) (m : Ml) : Mails := s.modify n.toNat (· ++ [m])
def sendAll (s : Mails) (m : Ml) (to : List Int) : Mails := to.foldl (fun s n => putM s n m) s
def sendE (s : Mails) (b : Int) (to : List Int) : Int := if !isAg s b then 1 else if badTo s b to then 1 else if openB s b then 10 else 0
def sendS (s : Mails) (b : Int) (to : List Int) (m : Ml) : Mails := if sendE s b to = 0 then sendAll s m to else s

theorem length_putM (s : Mails) (n : Int) (m : Ml) : (putM s n m).length = s.length := by simp [putM]
theorem length_sendAll (m : Ml) (to : List Int) : ∀ s : Mails, (sendAll s m to).length = s.length := by
  induction to with
  | nil => intro s; rfl
  | cons n r ih => intro s; show (sendAll (putM s n m) m r).length = _; rw [ih, length_putM]
theorem length_sendS (s : Mails) (b : Int) (to : List Int) (m : Ml) : (sendS s b to m).length = s.length := by
  unfold sendS; split
  · exact length_sendAll m to s
  · rfl
theorem sendAll_take_succ (s : Mails) (m : Ml) (to : List Int) (k : Nat) (h : k < to.length) :
    sendAll s m (to.take (k + 1)) = putM (sendAll s m (to.take k)) (to.getD k 0) m := by
  unfold sendAll
  rw [List.take_succ_eq_append_getElem h, List.foldl_append]
  simp [List.getD, h]
theorem get_putM (s : Mails) (n : Int) (m : Ml) (a : Nat) (h0 : 0 ≤ n) : (putM s n m).getD a [] = if (a : Int) = n ∧ a < s.length then s.getD a [] ++ [m] else s.getD a [] := by
  obtain ⟨k, rfl⟩ := Int.eq_ofNat_of_zero_le h0
  unfold putM
  simp only [List.getD, List.getElem?_modify, Int.toNat_natCast]
  by_cases e : k = a
  · subst e
    by_cases hl : k < s.length
    · simp [hl]
    · simp [hl]
  · have : ¬ ((a : Int) = (k : Int) ∧ a < s.length) := by omega
    rw [if_neg this]
    simp [e]
/-- What every list is behind a sending to a good list. -/
theorem get_sendAll (m : Ml) (to : List Int) : ∀ (s : Mails) (a : Nat), (∀ n ∈ to, isAg s n = true) → to.Nodup →
    (sendAll s m to).getD a [] = s.getD a [] ++ (if (a : Int) ∈ to then [m] else []) := by
  induction to with
  | nil => intro s a _ _; simp [sendAll]
  | cons n r ih =>
    intro s a hag hnd
    show (sendAll (putM s n m) m r).getD a [] = _
    have hn : isAg s n = true := hag n (by simp)
    simp only [isAg, Bool.and_eq_true, decide_eq_true_eq] at hn
    rw [ih (putM s n m) a ?_ (List.nodup_cons.1 hnd).2, get_putM s n m a hn.1]
    · have hnr := (List.nodup_cons.1 hnd).1
      by_cases e : (a : Int) = n
      · have hal : a < s.length := by omega
        have hr : ¬ (a : Int) ∈ r := by rw [e]; exact hnr
        simp [e, hal, hnr]
      · simp [e]
    · intro x hx
      have := hag x (List.mem_cons_of_mem _ hx)
      simp only [isAg, length_putM] at this ⊢
      exact this

theorem mem_putM {s : Mails} {n : Int} {m : Ml} {l : List Ml} (h : l ∈ putM s n m) : ∃ l0 ∈ s, l.length ≤ l0.length + 1 := by
  obtain ⟨i, hi⟩ := List.mem_iff_getElem?.1 h
  unfold putM at hi
  rw [List.getElem?_modify] at hi
  cases hs : s[i]? with
  | none => simp [hs] at hi
  | some x =>
    simp [hs] at hi
    refine ⟨x, List.mem_of_getElem? hs, ?_⟩
    subst hi
    split <;> simp
theorem mem_sendAll (m : Ml) (to : List Int) : ∀ (s : Mails) (l : List Ml), l ∈ sendAll s m to → ∃ l0 ∈ s, l.length ≤ l0.length + to.length := by
  induction to with
  | nil => intro s l h; exact ⟨l, h, by simp⟩
  | cons n r ih =>
    intro s l h
    obtain ⟨l1, h1, h2⟩ := ih (putM s n m) l h
    obtain ⟨l0, h3, h4⟩ := mem_putM h1
    exact ⟨l0, h3, by simp; omega⟩
theorem mem_sendS {s : Mails} {b : Int} {to : List Int} {m : Ml} {l : List Ml} (h : l ∈ sendS s b to m) : ∃ l0 ∈ s, l.length ≤ l0.length + to.length := by
  unfold sendS at h
  split at h
  · exact mem_sendAll m to s l h
  · exact ⟨l, h, by omega⟩
theorem badTo_false {s : Mails} {b : Int} {to : List Int} (h : badTo s b to = false) : (∀ n ∈ to, isAg s n = true) ∧ to.Nodup ∧ b ∉ to := by
  have hall : ∀ i, i < to.length → badAt s b to i = false := by
    intro i hi
    have := List.any_eq_false.1 h i (List.mem_range.2 hi)
    simpa using this
  refine ⟨?_, ?_, ?_⟩
  · intro n hn
    obtain ⟨i, hi, rfl⟩ := List.getElem_of_mem hn
    have := hall i hi
    simp only [badAt, Bool.or_eq_false_iff, Bool.not_eq_false'] at this
    simpa [List.getD, hi] using this.1.1
  · rw [List.nodup_iff_pairwise_ne, List.pairwise_iff_getElem]
    intro i j hi hj hij e
    have := hall j hj
    simp only [badAt, Bool.or_eq_false_iff] at this
    have h2 := this.2
    have : to.getD j 0 ∈ to.take j := by
      rw [List.mem_take_iff_getElem]
      exact ⟨i, by omega, by simp [List.getD, hj, e]⟩
    rw [List.contains_eq_mem, decide_eq_false_iff_not] at h2
    exact h2 this
  · intro hb
    obtain ⟨i, hi, rfl⟩ := List.getElem_of_mem hb
    have := hall i hi
    simp only [badAt, Bool.or_eq_false_iff] at this
    have h2 := this.1.2
    simp [List.getD, hi] at h2

/-- THE LAW OF A SENDING: what lies for each. -/
theorem get_sendS (s : Mails) (b : Int) (to : List Int) (m : Ml) (a : Nat) :
    (sendS s b to m).getD a [] = s.getD a [] ++ (if sendE s b to = 0 ∧ (a : Int) ∈ to then [m] else []) := by
  unfold sendS
  by_cases h : sendE s b to = 0
  · have hb : badTo s b to = false := by
      unfold sendE at h
      by_cases h1 : isAg s b = true <;> by_cases h2 : badTo s b to = true <;> simp_all
    obtain ⟨h1, h2, _⟩ := badTo_false hb
    simp only [h, if_true, true_and]
    exact get_sendAll m to s a h1 h2
  · simp [h]
end Go.Proofs.Ytcjmapljcnmfaaa
