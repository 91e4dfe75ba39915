/- Sizes as limbs of 32 bits: what a list of limbs is worth, the list of a number, and what the layer's loops do to them. -/
namespace Go.Proofs.YtjakfchffigkkaaGreatDoor

def val : List Nat → Nat
  | [] => 0
  | x :: l => x + 4294967296 * val l
def Limbs (l : List Nat) : Prop := ∀ x ∈ l, x < 4294967296
theorem Limbs.nil : Limbs [] := fun _ h => by cases h
theorem Limbs.cons {x : Nat} {l : List Nat} (hx : x < 4294967296) (h : Limbs l) : Limbs (x :: l) := fun y hy => by
  rcases List.mem_cons.1 hy with rfl | hy
  · exact hx
  · exact h y hy
theorem Limbs.app {a b : List Nat} (ha : Limbs a) (hb : Limbs b) : Limbs (a ++ b) := fun y hy => by
  rcases List.mem_append.1 hy with hy | hy
  · exact ha y hy
  · exact hb y hy
theorem Limbs.take {l : List Nat} (h : Limbs l) (k : Nat) : Limbs (l.take k) := fun y hy => h y (List.mem_of_mem_take hy)
theorem Limbs.set {l : List Nat} (h : Limbs l) (k : Nat) {x : Nat} (hx : x < 4294967296) : Limbs (l.set k x) := fun y hy => by
  rcases List.mem_or_eq_of_mem_set hy with hy | rfl
  · exact h y hy
  · exact hx
theorem Limbs.at {l : List Nat} (h : Limbs l) (k : Nat) : l.getD k 0 < 4294967296 := by
  simp only [List.getD]
  cases hk : l[k]? with
  | none => simp
  | some x => simpa using h x (List.mem_of_getElem? hk)
theorem Limbs.rep (n : Nat) : Limbs (List.replicate n 0) := fun y hy => by
  have := (List.mem_replicate.1 hy).2
  omega
theorem val_app (a b : List Nat) : val (a ++ b) = val a + 4294967296 ^ a.length * val b := by
  induction a with
  | nil => simp [val]
  | cons x a ih =>
    simp only [List.cons_append, val, ih, List.length_cons, Nat.pow_succ]
    grind
theorem val_one (x : Nat) : val [x] = x := by simp [val]
theorem val_snoc (a : List Nat) (x : Nat) : val (a ++ [x]) = val a + 4294967296 ^ a.length * x := by rw [val_app, val_one]
theorem val_rep (n : Nat) : val (List.replicate n 0) = 0 := by
  induction n with
  | zero => rfl
  | succ n ih => simp [List.replicate_succ, val, ih]
theorem val_lt {l : List Nat} (h : Limbs l) : val l < 4294967296 ^ l.length := by
  induction l with
  | nil => simp [val]
  | cons x l ih =>
    have hx := h x (by simp)
    have := ih fun y hy => h y (by simp [hy])
    simp only [val, List.length_cons, Nat.pow_succ]
    omega
theorem val_take (l : List Nat) (k : Nat) : val (l.take (k + 1)) = val (l.take k) + 4294967296 ^ k * l.getD k 0 := by
  induction l generalizing k with
  | nil => simp [val]
  | cons x l ih =>
    cases k with
    | zero => simp [val]
    | succ k =>
      simp only [List.take_succ_cons, val, ih k, List.getD_cons_succ, Nat.pow_succ]
      grind
theorem val_take_le (l : List Nat) {k : Nat} (h : l.length ≤ k) : val (l.take k) = val l := by rw [List.take_of_length_le h]
theorem val_take_lt {l : List Nat} (h : Limbs l) (k : Nat) : val (l.take k) < 4294967296 ^ k := by
  have h1 := val_lt (h.take k)
  have h2 : 4294967296 ^ (l.take k).length ≤ 4294967296 ^ k := Nat.pow_le_pow_right (by omega) (List.length_take_le _ _)
  omega
theorem val_set (l : List Nat) (k x : Nat) (hk : k < l.length) : val (l.set k x) + 4294967296 ^ k * l.getD k 0 = val l + 4294967296 ^ k * x := by
  induction l generalizing k with
  | nil => simp at hk
  | cons y l ih =>
    cases k with
    | zero => simp [val]; omega
    | succ k =>
      have := ih k (by simpa using hk)
      simp only [List.set_cons_succ, val, List.getD_cons_succ, Nat.pow_succ]
      grind
def canon (n : Nat) : List Nat := if h : n = 0 then [] else n % 4294967296 :: canon (n / 4294967296)
termination_by n
decreasing_by omega
theorem canon_zero : canon 0 = [] := by unfold canon; simp
theorem canon_pos {n : Nat} (h : 0 < n) : canon n = n % 4294967296 :: canon (n / 4294967296) := by
  conv => lhs; unfold canon
  rw [dif_neg (by omega)]
theorem val_canon (n : Nat) : val (canon n) = n := by
  induction n using Nat.strongRecOn with
  | ind n ih =>
    rcases Nat.eq_zero_or_pos n with rfl | h
    · rw [canon_zero]; rfl
    · rw [canon_pos h]
      simp only [val]
      rw [ih _ (by omega)]
      omega
theorem limbs_canon (n : Nat) : Limbs (canon n) := by
  induction n using Nat.strongRecOn with
  | ind n ih =>
    rcases Nat.eq_zero_or_pos n with rfl | h
    · rw [canon_zero]; exact Limbs.nil
    · rw [canon_pos h]
      exact Limbs.cons (by omega) (ih _ (by omega))
def Trim (l : List Nat) : Prop := l = [] ∨ 0 < l.getD (l.length - 1) 0
theorem trim_canon (n : Nat) : Trim (canon n) := by
  induction n using Nat.strongRecOn with
  | ind n ih =>
    rcases Nat.eq_zero_or_pos n with rfl | h
    · rw [canon_zero]; exact .inl rfl
    · refine .inr ?_
      rw [canon_pos h]
      rcases Nat.eq_zero_or_pos (n / 4294967296) with h0 | h1
      · rw [h0, canon_zero]
        simp
        omega
      · rcases ih _ (by omega : n / 4294967296 < n) with h2 | h2
        · rw [canon_pos h1] at h2; cases h2
        · have hl : 0 < (canon (n / 4294967296)).length := by rw [canon_pos h1]; simp
          rw [List.length_cons, show (canon (n / 4294967296)).length + 1 - 1 = ((canon (n / 4294967296)).length - 1) + 1 by omega, List.getD_cons_succ]
          exact h2
theorem canon_val {l : List Nat} (h : Limbs l) (ht : Trim l) : l = canon (val l) := by
  induction l with
  | nil => rw [val, canon_zero]
  | cons x l ih =>
    have hx := h x (by simp)
    have hl : Limbs l := fun y hy => h y (by simp [hy])
    have htl : Trim l := by
      rcases ht with ht | ht
      · cases ht
      · cases l with
        | nil => exact .inl rfl
        | cons y l => exact .inr (by simpa using ht)
    have hpos : 0 < val (x :: l) := by
      rcases ht with ht | ht
      · cases ht
      · cases l with
        | nil => simpa [val] using ht
        | cons y l =>
          have h1 := ih hl htl
          have : val (y :: l) ≠ 0 := fun h0 => by rw [h0, canon_zero] at h1; cases h1
          simp only [val] at this ⊢
          omega
    rw [canon_pos hpos]
    have h1 : val (x :: l) % 4294967296 = x := by simp only [val]; omega
    have h2 : val (x :: l) / 4294967296 = val l := by simp only [val]; omega
    rw [h1, h2, ← ih hl htl]
theorem canon_inj {a b : Nat} (h : canon a = canon b) : a = b := by rw [← val_canon a, h, val_canon]
theorem canon_nil {n : Nat} : canon n = [] ↔ n = 0 :=
  ⟨fun h => by rw [← val_canon n, h]; rfl, fun h => by rw [h, canon_zero]⟩
theorem canon_len_le {n k : Nat} (h : n < 4294967296 ^ k) : (canon n).length ≤ k := by
  induction k generalizing n with
  | zero =>
    have : n = 0 := by simpa using h
    rw [this, canon_zero]; simp
  | succ k ih =>
    rcases Nat.eq_zero_or_pos n with rfl | h0
    · rw [canon_zero]; simp
    · rw [canon_pos h0, List.length_cons]
      have : n / 4294967296 < 4294967296 ^ k := by
        rw [Nat.pow_succ] at h
        exact Nat.div_lt_of_lt_mul (by rw [Nat.mul_comm]; exact h)
      have := ih this
      omega
theorem canon_len_gt {n k : Nat} (h : (canon n).length ≤ k) : n < 4294967296 ^ k := by
  have h1 := val_lt (limbs_canon n)
  rw [val_canon] at h1
  have h2 : 4294967296 ^ (canon n).length ≤ 4294967296 ^ k := Nat.pow_le_pow_right (by omega) h
  omega
theorem canon_len8 (n : Nat) : (canon n).length ≤ 8 ↔ n < 2 ^ 256 := by
  constructor
  · intro h
    have := canon_len_gt h
    have e : 4294967296 ^ 8 = 2 ^ 256 := by decide
    omega
  · intro h
    refine canon_len_le ?_
    have e : 4294967296 ^ 8 = 2 ^ 256 := by decide
    omega
theorem trim_step (l : List Nat) (h : l ≠ []) (h0 : l.getD (l.length - 1) 0 = 0) : val (l.take (l.length - 1)) = val l := by
  obtain ⟨n, hn⟩ : ∃ n, l.length = n + 1 := ⟨l.length - 1, by cases l <;> simp_all⟩
  have h1 := val_take l n
  rw [hn] at h0 ⊢
  simp only [Nat.add_sub_cancel] at h0 ⊢
  rw [h0, List.take_of_length_le (by omega)] at h1
  omega

theorem val_inj : ∀ a b : List Nat, a.length = b.length → Limbs a → Limbs b → val a = val b → a = b := by
  intro a
  induction a with
  | nil => intro b hb _ _ _; exact (List.eq_nil_of_length_eq_zero hb.symm).symm
  | cons x a ih =>
    intro b hb ha hb' hv
    cases b with
    | nil => simp at hb
    | cons y b =>
      have hx := ha x (by simp)
      have hy := hb' y (by simp)
      simp only [val] at hv
      rw [ih b (by simpa using hb) (fun z hz => ha z (by simp [hz])) (fun z hz => hb' z (by simp [hz])) (by omega), show x = y by omega]
theorem take_canon {m : List Nat} (hl : Limbs m) : m.take (canon (val m)).length = canon (val m) := by
  have hk : (canon (val m)).length ≤ m.length := canon_len_le (val_lt hl)
  have h1 : val (m.take (canon (val m)).length) = val m := by
    have h2 := val_lt (limbs_canon (val m))
    rw [val_canon] at h2
    have h5 : val m = val (m.take (canon (val m)).length) + 4294967296 ^ (canon (val m)).length * val (m.drop (canon (val m)).length) := by
      have := val_app (m.take (canon (val m)).length) (m.drop (canon (val m)).length)
      rw [List.take_append_drop, List.length_take, Nat.min_eq_left (by omega)] at this
      exact this
    rcases Nat.eq_zero_or_pos (val (m.drop (canon (val m)).length)) with h6 | h6
    · rw [h6] at h5; omega
    · have : 4294967296 ^ (canon (val m)).length ≤ 4294967296 ^ (canon (val m)).length * val (m.drop (canon (val m)).length) := Nat.le_mul_of_pos_right _ h6
      omega
  exact val_inj _ _ (by rw [List.length_take]; omega) (hl.take _) (limbs_canon _) (by rw [h1, val_canon])

theorem val_lt_of_top {a b : List Nat} (ha : Limbs a) {k : Nat} (h : a.getD k 0 < b.getD k 0) : val (a.take (k + 1)) < val (b.take (k + 1)) := by
  have h1 := val_take a k
  have h2 := val_take b k
  have h3 := val_take_lt ha k
  obtain ⟨d, hd⟩ : ∃ d, b.getD k 0 = a.getD k 0 + 1 + d := ⟨b.getD k 0 - a.getD k 0 - 1, by omega⟩
  rw [h1, h2, hd, Nat.mul_add, Nat.mul_add, Nat.mul_one]
  omega
def Above (a b : List Nat) (k : Nat) : Prop := ∀ j, k ≤ j → a.getD j 0 = b.getD j 0
theorem above_lt {a b : List Nat} {k : Nat} (h : Above a b k) (hlt : val (a.take k) < val (b.take k)) : ∀ n, k ≤ n → val (a.take n) < val (b.take n) := by
  intro n hn
  induction n with
  | zero => obtain rfl : k = 0 := by omega
            exact hlt
  | succ n ih =>
    rcases Nat.lt_or_ge n k with h1 | h1
    · obtain rfl : k = n + 1 := by omega
      exact hlt
    · have := ih h1
      rw [val_take, val_take, h n h1]
      omega
theorem val_take_max (a b : List Nat) : val (a.take (max a.length b.length)) = val a := by rw [List.take_of_length_le (by omega)]
theorem lt_of_diff {a b : List Nat} (ha : Limbs a) {k : Nat} (h : Above a b (k + 1)) (hlt : a.getD k 0 < b.getD k 0) : val a < val b := by
  have h1 := above_lt h (val_lt_of_top ha hlt) (max (k + 1) (max a.length b.length)) (by omega)
  rwa [List.take_of_length_le (by omega), List.take_of_length_le (by omega)] at h1
theorem eq_of_above {a b : List Nat} (h : Above a b 0) : val a = val b := by
  have : ∀ n, val (a.take n) = val (b.take n) := by
    intro n
    induction n with
    | zero => simp
    | succ n ih => rw [val_take, val_take, ih, h n (by omega)]
  have h1 := this (max a.length b.length)
  rwa [List.take_of_length_le (by omega), List.take_of_length_le (by omega)] at h1
theorem above_of_len {a b : List Nat} : Above a b (max a.length b.length) := fun j hj => by
  simp [List.getD, show a.length ≤ j by omega, show b.length ≤ j by omega]
theorem len_lt {a b : List Nat} (ha : Limbs a) (hb : Trim b) (h : a.length < b.length) : val a < val b := by
  have h1 := val_lt ha
  obtain ⟨n, hn⟩ : ∃ n, b.length = n + 1 := ⟨b.length - 1, by omega⟩
  have h0 : 0 < b.getD n 0 := by
    rcases hb with rfl | hb
    · simp at h
    · simpa [hn] using hb
  have h2 := val_take b n
  rw [List.take_of_length_le (by omega)] at h2
  have h3 : 4294967296 ^ a.length ≤ 4294967296 ^ n := Nat.pow_le_pow_right (by omega) (by omega)
  have h4 : 4294967296 ^ n ≤ 4294967296 ^ n * b.getD n 0 := Nat.le_mul_of_pos_right _ h0
  omega

theorem plus_step {a b ds : List Nat} {i c : Nat} (ha : Limbs a) (hb : Limbs b) (hd : Limbs ds) (hl : ds.length = i) (hc : c ≤ 1) (h : val ds + 4294967296 ^ i * c = val (a.take i) + val (b.take i)) :
    Limbs (ds ++ [(c + a.getD i 0 + b.getD i 0) % 4294967296]) ∧ (c + a.getD i 0 + b.getD i 0) / 4294967296 ≤ 1 ∧
      val (ds ++ [(c + a.getD i 0 + b.getD i 0) % 4294967296]) + 4294967296 ^ (i + 1) * ((c + a.getD i 0 + b.getD i 0) / 4294967296) = val (a.take (i + 1)) + val (b.take (i + 1)) := by
  have h1 := ha.at i
  have h2 := hb.at i
  refine ⟨hd.app (Limbs.cons (by omega) Limbs.nil), by omega, ?_⟩
  rw [val_snoc, hl, val_take, val_take, Nat.pow_succ]
  generalize a.getD i 0 = x at *
  generalize b.getD i 0 = y at *
  have h3 := Nat.mod_add_div (c + x + y) 4294967296
  generalize (c + x + y) % 4294967296 = r at *
  generalize (c + x + y) / 4294967296 = q at *
  grind
theorem less_step {a b ds : List Nat} {i c d c' : Nat} (hd : Limbs ds) (hl : ds.length = i) (hd1 : d < 4294967296) (hdc : d + b.getD i 0 + c = a.getD i 0 + 4294967296 * c')
    (h : val ds + val (b.take i) = val (a.take i) + 4294967296 ^ i * c) :
    Limbs (ds ++ [d]) ∧ val (ds ++ [d]) + val (b.take (i + 1)) = val (a.take (i + 1)) + 4294967296 ^ (i + 1) * c' := by
  refine ⟨hd.app (Limbs.cons hd1 Limbs.nil), ?_⟩
  rw [val_snoc, hl, val_take, val_take, Nat.pow_succ]
  generalize a.getD i 0 = x at *
  generalize b.getD i 0 = y at *
  grind
theorem less_end {a b ds : List Nat} {c : Nat} (hb : Limbs ds) (hl : ds.length = a.length) (hle : val b ≤ val a) (hlb : b.length ≤ a.length)
    (h : val ds + val (b.take a.length) = val (a.take a.length) + 4294967296 ^ a.length * c) : val ds = val a - val b := by
  rw [List.take_of_length_le hlb, List.take_of_length_le (Nat.le_refl _)] at h
  have h1 := val_lt hb
  rw [hl] at h1
  rcases Nat.eq_zero_or_pos c with rfl | hc
  · omega
  · have : 4294967296 ^ a.length ≤ 4294967296 ^ a.length * c := Nat.le_mul_of_pos_right _ hc
    omega
theorem double_step {a ds : List Nat} {i c b0 : Nat} (ha : Limbs a) (hd : Limbs ds) (hl : ds.length = i) (hc : c ≤ 1) (h : val ds + 4294967296 ^ i * c = 2 * val (a.take i) + b0) :
    Limbs (ds ++ [2 * a.getD i 0 % 4294967296 + c]) ∧ a.getD i 0 / 2147483648 ≤ 1 ∧ val (ds ++ [2 * a.getD i 0 % 4294967296 + c]) + 4294967296 ^ (i + 1) * (a.getD i 0 / 2147483648) = 2 * val (a.take (i + 1)) + b0 := by
  have h1 := ha.at i
  refine ⟨hd.app (Limbs.cons (by omega) Limbs.nil), by omega, ?_⟩
  rw [val_snoc, hl, val_take, Nat.pow_succ]
  generalize a.getD i 0 = x at *
  have h3 : 2 * x % 4294967296 + 4294967296 * (x / 2147483648) = 2 * x := by omega
  generalize 2 * x % 4294967296 = r at *
  generalize x / 2147483648 = q at *
  grind
theorem mul_step {l l0 y : List Nat} {i k c u : Nat} (hl : Limbs l) (hy : Limbs y) (hik : i + k < l.length) (hu : u < 4294967296) (hc : c < 4294967296)
    (h : val l + 4294967296 ^ (i + k) * c = val l0 + u * (4294967296 ^ i * val (y.take k))) :
    Limbs (l.set (i + k) ((c + (u * y.getD k 0 + l.getD (i + k) 0)) % 4294967296)) ∧ (c + (u * y.getD k 0 + l.getD (i + k) 0)) / 4294967296 < 4294967296 ∧ c + (u * y.getD k 0 + l.getD (i + k) 0) < 18446744073709551616 ∧
      val (l.set (i + k) ((c + (u * y.getD k 0 + l.getD (i + k) 0)) % 4294967296)) + 4294967296 ^ (i + k + 1) * ((c + (u * y.getD k 0 + l.getD (i + k) 0)) / 4294967296) = val l0 + u * (4294967296 ^ i * val (y.take (k + 1))) := by
  have h1 := hy.at k
  have h2 := hl.at (i + k)
  have h3 : u * y.getD k 0 ≤ 4294967295 * 4294967295 := Nat.mul_le_mul (by omega) (by omega)
  have h4 := val_set l (i + k) ((c + (u * y.getD k 0 + l.getD (i + k) 0)) % 4294967296) hik
  refine ⟨hl.set _ (by omega), by omega, by omega, ?_⟩
  have h5 := val_take y k
  rw [h5, Nat.pow_succ]
  have h6 := Nat.mod_add_div (c + (u * y.getD k 0 + l.getD (i + k) 0)) 4294967296
  generalize (c + (u * y.getD k 0 + l.getD (i + k) 0)) % 4294967296 = r at *
  generalize (c + (u * y.getD k 0 + l.getD (i + k) 0)) / 4294967296 = q at *
  generalize y.getD k 0 = v at *
  generalize l.getD (i + k) 0 = z at *
  rw [Nat.pow_add] at *
  generalize val (l.set (i + k) r) = L at *
  generalize 4294967296 ^ i = p at *
  generalize 4294967296 ^ k = p' at *
  grind
theorem top32 {n : Nat} (h : n < 4294967296) : n.testBit 31 = decide (2147483648 ≤ n) := by
  rw [Nat.testBit_eq_decide_div_mod_eq]
  by_cases h1 : 2147483648 ≤ n
  · rw [decide_eq_true h1]; simp; omega
  · rw [decide_eq_false h1]; simp; omega
theorem div31 {n : Nat} (h : n < 4294967296) : n / 2147483648 = if n.testBit 31 then 1 else 0 := by
  rw [top32 h]
  by_cases h1 : 2147483648 ≤ n
  · rw [decide_eq_true h1]; simp; omega
  · rw [decide_eq_false h1]; simp; omega
theorem sub32_borrow {x y b d : Nat} (hx : x < 4294967296) (hy : y < 4294967296) (hb : b ≤ 1) (hd : d < 4294967296) (hdd : d + y + b = x + 4294967296 * (if x < y + b then 1 else 0)) :
    (((4294967295 ^^^ x) &&& y) ||| ((4294967295 ^^^ (x ^^^ y)) &&& d)) / 2147483648 = if x < y + b then 1 else 0 := by
  have h0 : (((4294967295 ^^^ x) &&& y) ||| ((4294967295 ^^^ (x ^^^ y)) &&& d)) < 4294967296 := by
    have e : 4294967296 = 2 ^ 32 := by decide
    rw [e]
    exact Nat.or_lt_two_pow (Nat.and_lt_two_pow _ (by omega)) (Nat.and_lt_two_pow _ (by omega))
  have hm : Nat.testBit 4294967295 31 = true := by decide
  rw [div31 h0, Nat.testBit_or, Nat.testBit_and, Nat.testBit_and, Nat.testBit_xor, Nat.testBit_xor, Nat.testBit_xor, hm, top32 hx, top32 hy, top32 hd]
  by_cases h1 : 2147483648 ≤ x <;> by_cases h2 : 2147483648 ≤ y <;> by_cases h3 : 2147483648 ≤ d <;> by_cases h4 : x < y + b <;> simp [h1, h2, h3, h4] at hdd ⊢ <;> omega
def subD (x y b : Nat) : Nat := (x + 4294967296 - y - b) % 4294967296
def brw (x y b : Nat) : Nat := if x < y + b then 1 else 0
theorem subD_eq {x y b : Nat} (hx : x < 4294967296) (hy : y < 4294967296) (hb : b ≤ 1) : subD x y b + y + b = x + 4294967296 * brw x y b := by
  unfold subD brw
  split <;> omega
theorem subD_lt (x y b : Nat) : subD x y b < 4294967296 := by unfold subD; omega
theorem brw_le (x y b : Nat) : brw x y b ≤ 1 := by unfold brw; split <;> omega
theorem pow_limb (n : Nat) : 4294967296 ^ (n / 32) * 2 ^ (n % 32) = 2 ^ n := by
  rw [show 4294967296 = 2 ^ 32 by decide, ← Nat.pow_mul, ← Nat.pow_add]
  congr 1
  omega
end Go.Proofs.YtjakfchffigkkaaGreatDoor
