/- canon: results are numbered anew. -/
import Derived.Test.YtnjdegjpmbdboaaGreatQS
namespace Go.Proofs.YtnjdegjpmbdboaaGreat
open Go.RowKit
set_option linter.unusedVariables false
def renum : List Opn → Nat → List Opn
  | [], _ => []
  | o :: l, k => if 0 ≤ o.res then { o with res := k } :: renum l (k + 1) else o :: renum l k
def numl : List Opn → Nat → List (Int × Value)
  | [], _ => []
  | o :: l, k => if 0 ≤ o.res then (o.res, .int .i64 k) :: numl l (k + 1) else numl l k
theorem numl_append : ∀ (a b : List Opn) (k : Nat), numl (a ++ b) k = numl a k ++ numl b (k + (numl a k).length)
  | [], b, k => by simp [numl]
  | o :: a, b, k => by
    by_cases h : 0 ≤ o.res
    · simp [numl, h, numl_append a b (k + 1)]
      congr 1; omega
    · simp [numl, h, numl_append a b k]
theorem renum_append : ∀ (a b : List Opn) (k : Nat), renum (a ++ b) k = renum a k ++ renum b (k + (numl a k).length)
  | [], b, k => by simp [numl, renum]
  | o :: a, b, k => by
    by_cases h : 0 ≤ o.res
    · simp [numl, renum, h, renum_append a b (k + 1)]
      congr 1; omega
    · simp [numl, renum, h, renum_append a b k]
theorem renum_codes : ∀ (l : List Opn) (k : Nat), (renum l k).map (fun o => (o.code, o.n)) = l.map (fun o => (o.code, o.n))
  | [], _ => rfl
  | o :: l, k => by
    by_cases h : 0 ≤ o.res <;> simp [renum, h, renum_codes l]
theorem renum_length (l : List Opn) (k : Nat) : (renum l k).length = l.length := by
  have := congrArg List.length (renum_codes l k)
  simpa using this
theorem numl_keys : ∀ (l : List Opn) (k : Nat) (p : Int × Value), p ∈ numl l k → ∃ o ∈ l, p.1 = o.res ∧ 0 ≤ o.res
  | [], _, p, h => by simp [numl] at h
  | o :: l, k, p, h => by
    by_cases h0 : 0 ≤ o.res
    · simp [numl, h0] at h
      rcases h with rfl | h
      · exact ⟨o, by simp, rfl, h0⟩
      · obtain ⟨o', h1, h2⟩ := numl_keys l _ p h
        exact ⟨o', by simp [h1], h2⟩
    · simp [numl, h0] at h
      obtain ⟨o', h1, h2⟩ := numl_keys l _ p h
      exact ⟨o', by simp [h1], h2⟩
theorem renum_mem : ∀ (l : List Opn) (k : Nat) (o : Opn), o ∈ renum l k → ∃ o' ∈ l, o.code = o'.code ∧ ((0 ≤ o'.res ∧ (k : Int) ≤ o.res) ∨ (o'.res < 0 ∧ o.res = o'.res))
  | [], _, o, h => by simp [renum] at h
  | x :: l, k, o, h => by
    by_cases h0 : 0 ≤ x.res
    · simp [renum, h0] at h
      rcases h with rfl | h
      · exact ⟨x, by simp, rfl, .inl ⟨h0, by simp⟩⟩
      · obtain ⟨o', h1, h2, h3⟩ := renum_mem l _ o h
        exact ⟨o', by simp [h1], h2, by omega⟩
    · simp [renum, h0] at h
      rcases h with rfl | h
      · exact ⟨o, by simp, rfl, .inr ⟨by omega, rfl⟩⟩
      · obtain ⟨o', h1, h2, h3⟩ := renum_mem l _ o h
        exact ⟨o', by simp [h1], h2, h3⟩
theorem renum_ok {l : List Opn} {k : Nat} (hk : 1 ≤ k) (h : ∀ o ∈ l, OkOp o) : ∀ o ∈ renum l k, OkOp o := fun o ho => by
  obtain ⟨o', h1, h2, h3⟩ := renum_mem l k o ho
  obtain ⟨a, b, c, d⟩ := h o' h1
  refine ⟨by rw [h2]; exact a, by omega, ?_, ?_⟩
  · intro hr
    rw [h2] at hr
    have := c hr
    omega
  · intro hr
    rw [h2] at hr
    have := d hr
    omega
theorem renum_inc : ∀ {l : List Opn} {k : Nat}, Inc (renum l k)
  | [], _ => List.Pairwise.nil
  | x :: l, k => by
    by_cases h0 : 0 ≤ x.res
    · simp only [renum, h0, if_true]
      refine List.Pairwise.cons (fun o ho => ?_) renum_inc
      obtain ⟨o', h1, h2, h3⟩ := renum_mem l _ o ho
      intro _ h
      simp only
      omega
    · simp only [renum, h0, if_false]
      refine List.Pairwise.cons (fun o ho => ?_) renum_inc
      intro h
      omega
/-- What the map of numbers holds behind the first q operations. -/
def nums (l : List Opn) : List (Int × Value) := (0, .int .i64 0) :: numl l 1
theorem getI_append {a b : List (Int × Value)} {r : Int} {v : Value} (h : ∀ p ∈ a, p.1 ≠ r) : getI (a ++ (r, v) :: b) r = some v := by
  unfold getI
  rw [List.find?_append, List.find?_eq_none.2 (fun p hp => by simpa using h p hp)]
  simp
theorem nums_zero (l : List Opn) : getI (nums l) 0 = some (.int .i64 0) := by simp [nums, getI]
theorem nums_fresh {l : List Opn} {q : Nat} {o : Opn} (hi : Inc l) (ho : l[q]? = some o) (hp : 0 < o.res) : ∀ p ∈ nums (l.take q), p.1 ≠ o.res := by
  intro p hpm
  unfold nums at hpm
  rcases List.mem_cons.1 hpm with rfl | hpm
  · simp; omega
  · obtain ⟨o', h1, h2, h3⟩ := numl_keys _ _ p hpm
    obtain ⟨j, hj, rfl⟩ := List.getElem_of_mem h1
    have hjq : j < q := by simp at hj; omega
    obtain ⟨hql, hqe⟩ := List.getElem?_eq_some_iff.1 ho
    have hjl : j < l.length := by omega
    have := List.pairwise_iff_getElem.1 hi j q hjl hql hjq
    rw [hqe] at this
    rw [List.getElem_take] at h2 h3
    rw [h2]
    by_cases h0 : 0 < l[j].res
    · have := this h0 hp
      omega
    · omega
theorem nums_snoc {l : List Opn} {q : Nat} {o : Opn} (hi : Inc l) (ho : l[q]? = some o) (hp : 0 < o.res) : putI (nums (l.take q)) o.res (.int .i64 ((nums (l.take q)).length : Nat)) = nums (l.take (q + 1)) := by
  have hf := nums_fresh hi ho hp
  rw [putI_new (by rw [List.any_eq_false]; intro p hpm; simpa using hf p hpm), take_snoc ho]
  unfold nums
  rw [numl_append]
  have h0 : 0 ≤ o.res := by omega
  simp [numl, h0]
  omega
theorem nums_same {l : List Opn} {q : Nat} {o : Opn} (ho : l[q]? = some o) (hp : o.res < 0) : nums (l.take (q + 1)) = nums (l.take q) := by
  rw [take_snoc ho]
  unfold nums
  rw [numl_append]
  have h0 : ¬ 0 ≤ o.res := by omega
  simp [numl, h0]
theorem nums_get {l : List Opn} {q : Nat} {o : Opn} (hi : Inc l) (ho : l[q]? = some o) (hp : 0 < o.res) : getI (nums l) o.res = some (.int .i64 ((nums (l.take q)).length : Nat)) := by
  have hf := nums_fresh hi ho hp
  have hl : l = l.take q ++ o :: l.drop (q + 1) := by
    obtain ⟨hql, hqe⟩ := List.getElem?_eq_some_iff.1 ho
    rw [← hqe, ← List.drop_eq_getElem_cons hql, List.take_append_drop]
  have h0 : 0 ≤ o.res := by omega
  have e : nums l = nums (l.take q) ++ (o.res, .int .i64 ((nums (l.take q)).length : Nat)) :: numl (l.drop (q + 1)) (1 + (numl (l.take q) 1).length + 1) := by
    conv => lhs; rw [hl]
    unfold nums
    rw [numl_append]
    simp [numl, h0]
    omega
  rw [e]
  exact getI_append hf
theorem renum_snoc {l : List Opn} {q : Nat} {o : Opn} (ho : l[q]? = some o) : renum (l.take (q + 1)) 1 = renum (l.take q) 1 ++ [if 0 ≤ o.res then { o with res := ((nums (l.take q)).length : Nat) } else o] := by
  rw [take_snoc ho, renum_append]
  by_cases h0 : 0 ≤ o.res
  · simp [renum, h0, nums]
    omega
  · simp [renum, h0]
end Go.Proofs.YtnjdegjpmbdboaaGreat
