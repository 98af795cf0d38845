/- Pairs put in, in whatever order. Plain Lean. -/
import Derived.Test.YtakgknoldkfekaaRefP
namespace Go.Proofs.Ytakgknoldkfekaa
set_option maxRecDepth 100000

theorem sorted_ext : ∀ {l m : List Pr}, Sorted l → Sorted m → (∀ p, p ∈ l ↔ p ∈ m) → l = m
  | [], [], _, _, _ => rfl
  | [], y :: m, _, _, h => absurd ((h y).2 (List.mem_cons_self ..)) (by simp)
  | x :: l, [], _, _, h => absurd ((h x).1 (List.mem_cons_self ..)) (by simp)
  | x :: l, y :: m, hl, hm, h => by
    have h1 := List.pairwise_cons.1 hl
    have h2 := List.pairwise_cons.1 hm
    have hxy : x = y := by
      rcases List.mem_cons.1 ((h x).1 (List.mem_cons_self ..)) with e | hx
      · exact e
      · rcases List.mem_cons.1 ((h y).2 (List.mem_cons_self ..)) with e | hy
        · exact e.symm
        · have a := h1.1 y hy
          have b := h2.1 x hx
          omega
    subst hxy
    rw [sorted_ext h1.2 h2.2 fun p => ⟨fun hp => by
      rcases List.mem_cons.1 ((h p).1 (List.mem_cons_of_mem _ hp)) with e | hq
      · subst e; have := h1.1 p hp; omega
      · exact hq, fun hp => by
      rcases List.mem_cons.1 ((h p).2 (List.mem_cons_of_mem _ hp)) with e | hq
      · subst e; have := h2.1 p hp; omega
      · exact hq⟩]
/-- One value for a key. -/
def OneV (l : List Pr) : Prop := ∀ x ∈ l, ∀ y ∈ l, x.1 = y.1 → x = y
theorem mem_ins {l : List Pr} {p : Pr} (h : ∀ x ∈ l, x.1 = p.1 → x = p) (x : Pr) : x ∈ ins l p ↔ x = p ∨ x ∈ l := by
  refine ⟨ins_mem, ?_⟩
  induction l with
  | nil => rintro (rfl | h0); simp [ins]; exact absurd h0 (by simp)
  | cons y r ih =>
    have ih := ih fun z hz => h z (List.mem_cons_of_mem _ hz)
    intro hx
    simp only [ins]
    split
    · simpa using hx
    · split
      · rename_i h1 h2
        have hy := h y (List.mem_cons_self ..) h2.symm
        subst hy
        rcases hx with rfl | hx
        · exact List.mem_cons_self ..
        · exact hx
      · rcases hx with rfl | hx
        · exact List.mem_cons_of_mem _ (ih (.inl rfl))
        · rcases List.mem_cons.1 hx with rfl | hx
          · exact List.mem_cons_self ..
          · exact List.mem_cons_of_mem _ (ih (.inr hx))
theorem mem_insL : ∀ {ps l : List Pr}, OneV (l ++ ps) → ∀ x, x ∈ insL l ps ↔ x ∈ l ∨ x ∈ ps
  | [], l, _, x => by simp [insL]
  | p :: r, l, h, x => by
    have hp : ∀ y ∈ l, y.1 = p.1 → y = p := fun y hy e => h y (List.mem_append.2 (.inl hy)) p (by simp) e
    have hm := mem_ins hp
    have h' : OneV (ins l p ++ r) := fun y hy z hz e => by
      refine h y ?_ z ?_ e
      · rcases List.mem_append.1 hy with hy | hy
        · rcases (hm y).1 hy with rfl | hy <;> simp_all
        · simp_all
      · rcases List.mem_append.1 hz with hz | hz
        · rcases (hm z).1 hz with rfl | hz <;> simp_all
        · simp_all
    show x ∈ insL (ins l p) r ↔ _
    rw [mem_insL h' x, hm x, List.mem_cons]
    constructor
    · rintro ((h1 | h1) | h1)
      · exact .inr (.inl h1)
      · exact .inl h1
      · exact .inr (.inr h1)
    · rintro (h1 | h1 | h1)
      · exact .inl (.inr h1)
      · exact .inl (.inl h1)
      · exact .inr h1
theorem insL_same {ps qs : List Pr} (h : OneV ps) (hm : ∀ x, x ∈ qs ↔ x ∈ ps) : insL [] qs = insL [] ps := by
  have hq : OneV qs := fun x hx y hy e => h x ((hm x).1 hx) y ((hm y).1 hy) e
  refine sorted_ext (insL_sorted (by simp [Sorted]) _) (insL_sorted (by simp [Sorted]) _) fun x => ?_
  rw [mem_insL (by simpa using hq), mem_insL (by simpa using h), hm x]
theorem insL_snoc (l ps : List Pr) (p : Pr) : insL l (ps ++ [p]) = ins (insL l ps) p := by
  induction ps generalizing l with
  | nil => rfl
  | cons x r ih => exact ih (ins l x)
theorem insL_turn {ps : List Pr} (h : OneV ps) (k : Nat) : insL [] (ps.drop k ++ ps.take k) = insL [] ps := by
  refine insL_same h fun x => ?_
  have e := List.take_append_drop k ps
  constructor
  · intro hx
    rw [← e]
    rcases List.mem_append.1 hx with h1 | h1
    · exact List.mem_append.2 (.inr h1)
    · exact List.mem_append.2 (.inl h1)
  · intro hx
    rw [← e] at hx
    rcases List.mem_append.1 hx with h1 | h1
    · exact List.mem_append.2 (.inr h1)
    · exact List.mem_append.2 (.inl h1)
theorem insL_twice {ps : List Pr} (h : OneV ps) : insL [] (ps ++ ps) = insL [] ps := insL_same h fun x => by simp
/-- The first pair of each key. -/
def fstS (out : List Pr) (x : Pr) : List Pr := if findI out x.1 < 0 then out ++ [x] else out
def firsts (l : List Pr) : List Pr := l.foldl fstS []
theorem firsts_snoc (l : List Pr) (x : Pr) : firsts (l ++ [x]) = if findI (firsts l) x.1 < 0 then firsts l ++ [x] else firsts l := by
  unfold firsts
  rw [List.foldl_append, List.foldl_cons, List.foldl_nil]
  rfl
theorem findI_neg {l : List Pr} {key : Int} (h : findI l key < 0) : ∀ p ∈ l, p.1 ≠ key := by
  induction l with
  | nil => simp
  | cons x r ih =>
    simp only [findI] at h
    split at h
    · omega
    · rename_i hx
      split at h
      · rename_i hr
        intro p hp
        rcases List.mem_cons.1 hp with rfl | hp
        · exact hx
        · exact ih hr p hp
      · omega
theorem fstS_one {out : List Pr} (h : OneV out) (x : Pr) : OneV (fstS out x) := by
  unfold fstS
  split
  · rename_i hf
    have hn := findI_neg hf
    intro y hy z hz e
    rcases List.mem_append.1 hy with h1 | h1 <;> rcases List.mem_append.1 hz with h2 | h2
    · exact h y h1 z h2 e
    · obtain rfl := List.mem_singleton.1 h2
      exact absurd e (hn y h1)
    · obtain rfl := List.mem_singleton.1 h1
      exact absurd e.symm (hn z h2)
    · rw [List.mem_singleton.1 h1, List.mem_singleton.1 h2]
  · exact h
theorem fold_one : ∀ (l : List Pr) {out : List Pr}, OneV out → OneV (l.foldl fstS out)
  | [], _, h => h
  | x :: r, _, h => fold_one r (fstS_one h x)
theorem firsts_one (l : List Pr) : OneV (firsts l) := fold_one l (fun x hx => by simp at hx)
theorem fold_len : ∀ (l out : List Pr), (l.foldl fstS out).length ≤ out.length + l.length
  | [], _ => Nat.le_refl _
  | x :: r, out => by
    have := fold_len r (fstS out x)
    have h2 : (fstS out x).length ≤ out.length + 1 := by unfold fstS; split <;> simp
    simp only [List.foldl_cons, List.length_cons]
    omega
theorem firsts_len (l : List Pr) : (firsts l).length ≤ l.length := by have := fold_len l []; simpa [firsts] using this

end Go.Proofs.Ytakgknoldkfekaa
