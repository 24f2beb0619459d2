/- A part of the proofs of this seat's laws: words, lemmas or contracts of its functions. -/
set_option linter.unusedVariables false
set_option linter.unusedSimpArgs false
set_option linter.unnecessarySimpa false
namespace Go.Proofs.Ythhohfgpaihngaa.Zg

/-! Numbers as digits to a base, the lowest first. -/
def vl (b : Nat) : List Nat → Nat
  | [] => 0
  | x :: l => x + b * vl b l

def dg (b n : Nat) : List Nat := if 2 ≤ b ∧ 0 < n then n % b :: dg b (n / b) else []
termination_by n
decreasing_by
  rename_i h
  exact Nat.div_lt_self h.2 (by omega)

def Sm (b : Nat) (l : List Nat) : Prop := ∀ x ∈ l, x < b

theorem vl_nil (b : Nat) : vl b [] = 0 := rfl
theorem vl_cons (b x : Nat) (l : List Nat) : vl b (x :: l) = x + b * vl b l := rfl

theorem vl_append (b : Nat) (l m : List Nat) : vl b (l ++ m) = vl b l + b ^ l.length * vl b m := by
  induction l with
  | nil => simp [vl]
  | cons x l ih =>
    simp only [List.cons_append, vl_cons, ih, List.length_cons]
    grind

theorem vl_lt {b : Nat} : ∀ {l : List Nat}, Sm b l → vl b l < b ^ l.length
  | [], _ => by simp [vl]
  | x :: l, h => by
    have h1 : x < b := h x (.head _)
    have h2 := vl_lt (l := l) (fun y hy => h y (.tail _ hy))
    simp only [vl_cons, List.length_cons]
    have h3 : b * (vl b l + 1) ≤ b * b ^ l.length := Nat.mul_le_mul_left _ h2
    grind

theorem vl_zeros (b n : Nat) : vl b (List.replicate n 0) = 0 := by
  induction n with
  | zero => rfl
  | succ n ih => simp [List.replicate_succ, vl_cons, ih]

theorem vl_take_succ {b : Nat} {l : List Nat} {k : Nat} (h : k < l.length) : vl b (l.take (k + 1)) = vl b (l.take k) + b ^ k * l[k] := by
  rw [List.take_succ_eq_append_getElem h, vl_append]
  simp [vl, List.length_take, Nat.min_eq_left (Nat.le_of_lt h)]

theorem vl_split (b : Nat) (l : List Nat) (k : Nat) (h : k ≤ l.length) : vl b l = vl b (l.take k) + b ^ k * vl b (l.drop k) := by
  conv => lhs; rw [← List.take_append_drop k l]
  rw [vl_append, List.length_take, Nat.min_eq_left h]

theorem vl_set {b : Nat} : ∀ {l : List Nat} {k : Nat} (h : k < l.length) (x : Nat), vl b (l.set k x) + b ^ k * l[k] = vl b l + b ^ k * x
  | y :: l, 0, h, x => by simp [vl_cons]; omega
  | y :: l, k + 1, h, x => by
    have ih := vl_set (b := b) (l := l) (k := k) (by simpa using h) x
    simp only [List.set_cons_succ, vl_cons, List.getElem_cons_succ]
    grind

theorem Sm.take {b : Nat} {l : List Nat} (h : Sm b l) (k : Nat) : Sm b (l.take k) := fun x hx => h x (List.mem_of_mem_take hx)
theorem Sm.drop {b : Nat} {l : List Nat} (h : Sm b l) (k : Nat) : Sm b (l.drop k) := fun x hx => h x (List.mem_of_mem_drop hx)
theorem Sm.get {b : Nat} {l : List Nat} (h : Sm b l) {k : Nat} (hk : k < l.length) : l[k] < b := h _ (List.getElem_mem hk)
theorem Sm.set {b : Nat} {l : List Nat} (h : Sm b l) (k : Nat) {x : Nat} (hx : x < b) : Sm b (l.set k x) := fun y hy => by
  rcases List.mem_or_eq_of_mem_set hy with hy | rfl
  · exact h y hy
  · exact hx
theorem Sm.append {b : Nat} {l m : List Nat} (h : Sm b l) (k : Sm b m) : Sm b (l ++ m) := fun x hx => (List.mem_append.1 hx).elim (h x) (k x)
theorem Sm.nil (b : Nat) : Sm b [] := fun x hx => by cases hx
theorem Sm.zeros {b : Nat} (hb : 0 < b) (n : Nat) : Sm b (List.replicate n 0) := fun x hx => by rw [List.eq_of_mem_replicate hx]; exact hb
theorem Sm.cons {b x : Nat} {l : List Nat} (hx : x < b) (h : Sm b l) : Sm b (x :: l) := fun y hy => by
  rcases List.mem_cons.1 hy with rfl | hy
  · exact hx
  · exact h y hy

theorem dg_zero (b : Nat) : dg b 0 = [] := by unfold dg; simp
theorem dg_pos {b n : Nat} (hb : 2 ≤ b) (hn : 0 < n) : dg b n = n % b :: dg b (n / b) := by
  rw [dg]; simp [hb, hn]

theorem vl_dg {b : Nat} (hb : 2 ≤ b) (n : Nat) : vl b (dg b n) = n := by
  induction n using Nat.strongRecOn with
  | _ n ih =>
    by_cases hn : 0 < n
    · rw [dg_pos hb hn, vl_cons, ih (n / b) (Nat.div_lt_self hn (by omega))]
      exact Nat.mod_add_div n b
    · have : n = 0 := by omega
      subst this
      rw [dg_zero]; rfl

theorem dg_sm {b : Nat} (hb : 2 ≤ b) (n : Nat) : Sm b (dg b n) := by
  induction n using Nat.strongRecOn with
  | _ n ih =>
    by_cases hn : 0 < n
    · rw [dg_pos hb hn]
      exact .cons (Nat.mod_lt _ (by omega)) (ih (n / b) (Nat.div_lt_self hn (by omega)))
    · have : n = 0 := by omega
      subst this
      rw [dg_zero]; exact .nil b

theorem vl_eq_zero {b : Nat} {l : List Nat} (hb : 0 < b) (h : vl b l = 0) : ∀ x ∈ l, x = 0 := by
  induction l with
  | nil => simp
  | cons x l ih =>
    rw [vl_cons] at h
    have h2 : vl b l = 0 := by
      rcases Nat.eq_zero_or_pos (vl b l) with h2 | h2
      · exact h2
      · have := Nat.mul_pos hb h2; omega
    intro y hy
    rcases List.mem_cons.1 hy with rfl | hy
    · omega
    · exact ih h2 y hy

/-- The digits of a row: what stands below the noughts on top. -/
theorem dg_vl {b : Nat} (hb : 2 ≤ b) : ∀ {l : List Nat}, Sm b l → dg b (vl b l) = l.take (dg b (vl b l)).length ∧ (dg b (vl b l)).length ≤ l.length
  | [], _ => by simp [vl, dg_zero]
  | x :: l, h => by
    obtain ⟨h1, h2⟩ := dg_vl hb (l := l) (fun y hy => h y (.tail _ hy))
    have hx : x < b := h x (.head _)
    by_cases hv : 0 < vl b (x :: l)
    · have e1 : vl b (x :: l) % b = x := by rw [vl_cons, Nat.add_mul_mod_self_left, Nat.mod_eq_of_lt hx]
      have e2 : vl b (x :: l) / b = vl b l := by rw [vl_cons, Nat.add_mul_div_left _ _ (by omega), Nat.div_eq_of_lt hx]; omega
      rw [dg_pos hb hv, e1, e2]
      simp only [List.length_cons, List.take_succ_cons]
      exact ⟨by rw [← h1], by omega⟩
    · have h0 : vl b (x :: l) = 0 := by omega
      rw [h0, dg_zero]; simp

theorem dg_vl_drop {b : Nat} (hb : 2 ≤ b) {l : List Nat} (h : Sm b l) : vl b (l.drop (dg b (vl b l)).length) = 0 := by
  obtain ⟨h1, h2⟩ := dg_vl hb h
  have h3 := vl_split b l _ h2
  rw [← h1, vl_dg hb] at h3
  rcases Nat.eq_zero_or_pos (vl b (l.drop (dg b (vl b l)).length)) with h4 | h4
  · exact h4
  · have := Nat.mul_pos (Nat.pow_pos (n := (dg b (vl b l)).length) (show 0 < b by omega)) h4
    omega

theorem dg_last {b : Nat} (hb : 2 ≤ b) (n : Nat) : ∀ x, (dg b n).getLast? = some x → x ≠ 0 := by
  induction n using Nat.strongRecOn with
  | _ n ih =>
    intro x hx
    by_cases hn : 0 < n
    · rw [dg_pos hb hn] at hx
      by_cases hq : 0 < n / b
      · have hne : dg b (n / b) ≠ [] := by rw [dg_pos hb hq]; simp
        rw [List.getLast?_cons] at hx
        cases hl : (dg b (n / b)).getLast? with
        | none => rw [List.getLast?_eq_none_iff] at hl; exact absurd hl hne
        | some y =>
          rw [hl] at hx
          simp at hx
          subst hx
          exact ih (n / b) (Nat.div_lt_self hn (by omega)) y hl
      · have h0 : n / b = 0 := Nat.eq_zero_of_not_pos hq
        rw [h0, dg_zero] at hx
        simp at hx
        subst hx
        have := Nat.div_add_mod n b
        rw [h0] at this
        omega
    · have : n = 0 := by omega
      subst this
      rw [dg_zero] at hx
      cases hx

/-- A row without noughts on top is the digits of its number. -/
theorem dg_of_last {b : Nat} (hb : 2 ≤ b) {l : List Nat} (h : Sm b l) (hl : ∀ x, l.getLast? = some x → x ≠ 0) : dg b (vl b l) = l := by
  obtain ⟨h1, h2⟩ := dg_vl hb h
  have h3 := dg_vl_drop hb h
  rcases Nat.lt_or_ge (dg b (vl b l)).length l.length with h4 | h4
  · exfalso
    have hz := vl_eq_zero (by omega) h3
    have hne : l ≠ [] := fun e => by subst e; simp at h4
    have hlast := List.getLast_mem hne
    have hd : l.getLast hne ∈ l.drop (dg b (vl b l)).length := by
      have hdne : l.drop (dg b (vl b l)).length ≠ [] := by simp; omega
      rw [← List.getLast_drop hdne]
      exact List.getLast_mem hdne
    exact hl _ (List.getLast?_eq_some_getLast hne) (hz _ hd)
  · rw [h1, List.take_of_length_le h4]

theorem dg_inj {b m n : Nat} (hb : 2 ≤ b) (h : dg b m = dg b n) : m = n := by rw [← vl_dg hb m, ← vl_dg hb n, h]

theorem dg_length_le {b n k : Nat} (hb : 2 ≤ b) (h : n < b ^ k) : (dg b n).length ≤ k := by
  induction k generalizing n with
  | zero => simp at h; subst h; simp [dg_zero]
  | succ k ih =>
    by_cases hn : 0 < n
    · rw [dg_pos hb hn]
      have := ih (n := n / b) (by rw [Nat.pow_succ] at h; exact Nat.div_lt_of_lt_mul (by rw [Nat.mul_comm]; exact h))
      simp; omega
    · have : n = 0 := by omega
      subst this
      simp [dg_zero]

theorem dg_lt_pow {b : Nat} (hb : 2 ≤ b) (n : Nat) : n < b ^ (dg b n).length := by
  have := vl_lt (dg_sm hb n)
  rwa [vl_dg hb] at this

theorem dg_length_mono {b m n : Nat} (hb : 2 ≤ b) (h : m ≤ n) : (dg b m).length ≤ (dg b n).length :=
  dg_length_le hb (Nat.lt_of_le_of_lt h (dg_lt_pow hb n))

theorem dg_length_vl {b : Nat} (hb : 2 ≤ b) {l : List Nat} (h : Sm b l) : (dg b (vl b l)).length ≤ l.length := (dg_vl hb h).2

theorem pow_le_of_dg {b n : Nat} (hb : 2 ≤ b) (hn : 0 < n) : b ^ ((dg b n).length - 1) ≤ n := by
  rcases Nat.lt_or_ge n (b ^ ((dg b n).length - 1)) with h | h
  · have h1 := dg_length_le hb h
    have h2 : 0 < (dg b n).length := by rw [dg_pos hb hn]; simp
    omega
  · exact h

theorem dg_nil_iff {b n : Nat} (hb : 2 ≤ b) : dg b n = [] ↔ n = 0 := by
  constructor
  · intro h
    have := vl_dg hb n
    rw [h] at this
    exact this.symm
  · rintro rfl; exact dg_zero b

theorem dg_length_zero {b n : Nat} (hb : 2 ≤ b) : (dg b n).length = 0 ↔ n = 0 := by rw [List.length_eq_zero_iff, dg_nil_iff hb]

/-- Which of two numbers is greater, seen at their digits. -/
theorem vl_lt_of_top {b : Nat} {l m : List Nat} {k : Nat} (hl : Sm b l) (hll : k < l.length) (hml : k < m.length) (hlt : l[k] < m[k]) (htop : vl b (l.drop (k + 1)) ≤ vl b (m.drop (k + 1))) : vl b l < vl b m := by
  rw [vl_split b l (k + 1) hll, vl_split b m (k + 1) hml, vl_take_succ hll, vl_take_succ hml]
  have h1 := vl_lt (hl.take k)
  rw [List.length_take, Nat.min_eq_left (by omega)] at h1
  have h2 : b ^ k * (l[k] + 1) ≤ b ^ k * m[k] := Nat.mul_le_mul_left _ hlt
  have h3 : b ^ (k + 1) * vl b (l.drop (k + 1)) ≤ b ^ (k + 1) * vl b (m.drop (k + 1)) := Nat.mul_le_mul_left _ htop
  grind

theorem vl_drop_zero {b : Nat} {l : List Nat} {k : Nat} (h : vl b (l.drop k) = 0) (hk : k ≤ l.length) : vl b l = vl b (l.take k) := by
  rw [vl_split b l k hk, h]; simp

theorem dg_len_of {b : Nat} (hb : 2 ≤ b) {l : List Nat} (hl : Sm b l) {k : Nat} (hk : k ≤ l.length) (h : vl b (l.drop k) = 0) (ht : ∀ h : 0 < k, l[k - 1] ≠ 0) : dg b (vl b l) = l.take k := by
  rw [vl_drop_zero h hk]
  refine dg_of_last hb (hl.take k) fun x hx => ?_
  rcases Nat.eq_zero_or_pos k with h0 | h0
  · subst h0; simp at hx
  · rw [List.getLast?_eq_getElem?, List.length_take, Nat.min_eq_left hk, List.getElem?_take, if_pos (by omega), List.getElem?_eq_getElem (by omega)] at hx
    injection hx with hx
    rw [← hx]
    exact ht h0

end Go.Proofs.Ythhohfgpaihngaa.Zg
