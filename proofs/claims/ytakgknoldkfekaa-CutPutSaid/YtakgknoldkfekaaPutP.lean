/- What a pair put in turns. Plain Lean. -/
import Derived.Test.YtakgknoldkfekaaRefP
namespace Go.Proofs.Ytakgknoldkfekaa
set_option maxRecDepth 100000

theorem gotP_cons (x : Pr) (r : List Pr) (key : Int) : gotP (x :: r) key = if x.1 = key then (x.2, true) else gotP r key := by
  unfold gotP
  rw [List.find?_cons]
  by_cases h : x.1 = key
  · simp [h]
  · have hb : (x.1 == key) = false := beq_eq_false_iff_ne.2 h
    simp [h, hb]
theorem gotP_ins (l : List Pr) (p : Pr) (key : Int) : gotP (ins l p) key = if p.1 = key then (p.2, true) else gotP l key := by
  induction l with
  | nil => simp only [ins]; rw [gotP_cons]
  | cons x r ih =>
    simp only [ins]
    split
    · rw [gotP_cons]
    · split
      · rename_i h1 h2
        rw [gotP_cons, gotP_cons]
        by_cases h : p.1 = key
        · rw [if_pos h, if_pos h]
        · rw [if_neg h, if_neg h, if_neg (by omega)]
      · rename_i h1 h2
        rw [gotP_cons, ih, gotP_cons]
        by_cases h : p.1 = key
        · rw [if_pos h, if_pos h, if_neg (by omega)]
        · rw [if_neg h, if_neg h]
theorem ins_ins (l : List Pr) (p : Pr) : ins (ins l p) p = ins l p := by
  induction l with
  | nil => simp [ins]
  | cons x r ih =>
    simp only [ins]
    split
    · simp [ins]
    · split
      · simp [ins]
      · rename_i h1 h2
        simp only [ins]
        rw [if_neg h1, if_neg h2, ih]
theorem ins_length {l : List Pr} (hs : Sorted l) (p : Pr) : (ins l p).length = if (gotP l p.1).2 = true then l.length else l.length + 1 := by
  induction l with
  | nil => simp [ins, gotP]
  | cons x r ih =>
    have h := List.pairwise_cons.1 hs
    simp only [ins]
    by_cases h1 : p.1 < x.1
    · rw [if_pos h1, gotP_no (key := p.1) (fun q hq => by
        rcases List.mem_cons.1 hq with rfl | hq
        · omega
        · have := h.1 q hq; omega)]
      simp
    · rw [if_neg h1]
      by_cases h2 : p.1 = x.1
      · rw [if_pos h2, gotP_cons, if_pos h2.symm]
        simp
      · have hx : ¬ (x.1 = p.1) := fun e => h2 e.symm
        rw [if_neg h2, gotP_cons, List.length_cons, ih h.2]
        simp only [if_neg hx]
        split <;> rfl
theorem less_ins {l : List Pr} (p : Pr) (hn : ∀ y ∈ l, y.1 ≠ p.1) : less p.1 (ins l p) = l := by
  induction l with
  | nil => simp [ins, less]
  | cons x r ih =>
    have hx := hn x (List.mem_cons_self ..)
    have hr : ∀ y ∈ r, y.1 ≠ p.1 := fun y hy => hn y (List.mem_cons_of_mem _ hy)
    simp only [ins]
    by_cases h1 : p.1 < x.1
    · rw [if_pos h1]
      have := less_mid (key := p.1) [] (x :: r) p
      rw [List.nil_append, if_pos rfl] at this
      rw [this, less_all hn]
      rfl
    · rw [if_neg h1, if_neg (fun e => hx e.symm)]
      have := less_mid (key := p.1) [] (ins r p) x
      rw [List.nil_append, if_neg hx] at this
      rw [this, ih hr]
      rfl

end Go.Proofs.Ytakgknoldkfekaa
