/- What Put, Add, Of, Cut, At, Middle, Half, Two tell of treaps of pairs whose keys rise. Plain Lean. -/
import Derived.Test.YtakgknoldkfekaaExactP
namespace Go.Proofs.Ytakgknoldkfekaa
set_option maxRecDepth 100000
open Go.Proofs.Ytakgknoldkfekaa.Mix

theorem isT_tr {a : Ar} {t : Int} {l : List Pr} (h : Tr a t l) : isT (some a) t = true := by
  unfold isT
  rcases h.arg with rfl | hn
  · simp
  · simp [hn]
/-- Full: so it is refused. -/
def Full (a a' : Ar) (n : Nat) : Prop := (a'.slots.length : Int) = a'.room ∧ a'.slots.length < a.slots.length + n
theorem Full.no {a a' : Ar} {n : Nat} (h : Full a a' n) (e : Ext a a') (hr : (a.slots.length : Int) + n ≤ a.room) : False := by
  have := e.1; have := h.1; have := h.2; omega
theorem putO_tr {a : Ar} {t : Int} {l : List Pr} (h : Tr a t l) (hs : Sorted l) (hlen : l.length < 1000000) (hf : fits a) (k v : Int) :
    ∃ a', Ext a a' ∧ fits a' ∧ a'.slots.length ≤ a.slots.length + (hgt l + 1) ∧
      ((∃ u, putO (some a) t k v = (u, (gotP l k).1, (gotP l k).2, 0, some a') ∧ Tr a' u (ins l (k, v))) ∨
       (putO (some a) t k v = (0, 0, false, 2, some a') ∧ Full a a' (hgt l + 1))) := by
  obtain ⟨a', g1, g2, g3, g4, g5⟩ := put_tr h hs hlen hf k v (fuel t) (lt_fuel t) (by unfold fuel; omega)
  refine ⟨a', g2, g3, g4, ?_⟩
  unfold putO
  rw [if_neg (by rw [isT_tr h]; decide), lgF_tr h hs k _ (lt_fuel t)]
  generalize putF (fuel t) (some a) t k v = R at g1 g5 ⊢
  obtain ⟨u, e, A⟩ := R
  simp only [] at g1 g5 ⊢
  subst g1
  rcases g5 with ⟨rfl, tu⟩ | ⟨rfl, rfl, f, c⟩
  · rw [if_pos rfl]; exact .inl ⟨u, rfl, tu⟩
  · rw [if_neg (by decide)]; exact .inr ⟨rfl, f, c⟩
theorem putO_room {a : Ar} {t : Int} {l : List Pr} (h : Tr a t l) (hs : Sorted l) (hlen : l.length < 1000000) (hf : fits a) (k v : Int) (hr : (a.slots.length : Int) + (hgt l + 1 : Nat) ≤ a.room) :
    ∃ a' u, putO (some a) t k v = (u, (gotP l k).1, (gotP l k).2, 0, some a') ∧ Tr a' u (ins l (k, v)) ∧ Ext a a' ∧ fits a' ∧ a'.slots.length ≤ a.slots.length + (hgt l + 1) := by
  obtain ⟨a', e, f, c, hh⟩ := putO_tr h hs hlen hf k v
  rcases hh with ⟨u, h1, h2⟩ | ⟨_, hF⟩
  · exact ⟨a', u, h1, h2, e, f, c⟩
  · exact (hF.no e hr).elim
theorem addO_room {a : Ar} {t : Int} {l : List Pr} (h : Tr a t l) (hs : Sorted l) (hlen : l.length < 1000000) (hf : fits a) (k v : Int) (hr : (a.slots.length : Int) + (hgt l + 1 : Nat) ≤ a.room) :
    ((gotP l k).2 = true ∧ addO (some a) t k v = (t, (gotP l k).1, true, 0, some a)) ∨
    ((gotP l k).2 = false ∧ ∃ a' u, addO (some a) t k v = (u, (gotP l k).1, false, 0, some a') ∧ Tr a' u (ins l (k, v)) ∧ Ext a a' ∧ fits a' ∧ a'.slots.length ≤ a.slots.length + (hgt l + 1)) := by
  unfold addO
  rw [if_neg (by rw [isT_tr h]; decide), lgF_tr h hs k _ (lt_fuel t)]
  cases hg : (gotP l k).2 with
  | true => exact .inl ⟨rfl, by rw [if_pos rfl]⟩
  | false =>
    rw [if_neg (by decide)]
    obtain ⟨a', u, h1, h2⟩ := putO_room h hs hlen hf k v hr
    rw [hg] at h1
    exact .inr ⟨rfl, a', u, h1, h2⟩
def insL (l : List Pr) : List Pr → List Pr
  | [] => l
  | p :: r => insL (ins l p) r
theorem insL_sorted {l : List Pr} (hs : Sorted l) : ∀ ps, Sorted (insL l ps)
  | [] => hs
  | p :: r => insL_sorted (ins_sorted (p := p) hs) r
theorem insL_len (l : List Pr) (ps : List Pr) : (insL l ps).length ≤ l.length + ps.length := by
  induction ps generalizing l with
  | nil => simp [insL]
  | cons p r ih =>
    have := ih (ins l p)
    have := ins_len l p
    simp only [insL, List.length_cons]
    omega
theorem ofL_room (C : Nat) (hC : C < 1000000) : ∀ (ps : List Pr) {a : Ar} {t : Int} {l : List Pr}, Tr a t l → Sorted l → l.length + ps.length ≤ C → fits a → (a.slots.length : Int) + (ps.length * (C + 1) : Nat) ≤ a.room →
    ∃ a' u, ofL ps (some a) t = (u, 0, some a') ∧ Tr a' u (insL l ps) ∧ Ext a a' ∧ fits a' ∧ a'.slots.length ≤ a.slots.length + ps.length * (C + 1)
  | [], a, t, l, h, _, _, hf, _ => ⟨a, t, rfl, h, Ext.refl a, hf, by simp⟩
  | p :: r, a, t, l, h, hs, hl, hf, hr => by
    have hg := hgt_le l
    simp only [List.length_cons] at hl hr ⊢
    have e1 : (r.length + 1) * (C + 1) = r.length * (C + 1) + (C + 1) := by rw [Nat.add_mul, Nat.one_mul]
    rw [e1] at hr ⊢
    obtain ⟨a1, u1, g1, g2, g3, g4, g5⟩ := putO_room h hs (by omega) hf p.1 p.2 (by omega)
    have := ins_len l (p.1, p.2)
    have := g3.1
    obtain ⟨a2, u2, k1, k2, k3, k4, k5⟩ := ofL_room C hC r g2 (ins_sorted hs) (by omega) g4 (by omega)
    refine ⟨a2, u2, ?_, k2, g3.trans k3, k4, by omega⟩
    simp only [ofL]
    rw [g1]
    simp only [if_true]
    exact k1
theorem ofO_room {a : Ar} {ps : List Pr} (C : Nat) (hC : C < 1000000) (hl : ps.length ≤ C) (hf : fits a) (hr : (a.slots.length : Int) + (ps.length * (C + 1) : Nat) ≤ a.room) :
    ∃ a' u, ofO (some a) ps = (u, 0, some a') ∧ Tr a' u (insL [] ps) ∧ Ext a a' ∧ fits a' ∧ a'.slots.length ≤ a.slots.length + ps.length * (C + 1) := by
  unfold ofO
  rw [if_pos (show (some a).isSome = true from rfl)]
  exact ofL_room C hC ps .nil List.Pairwise.nil (by simpa using hl) hf hr

theorem cutO_tr {a : Ar} {t : Int} {l : List Pr} (h : Tr a t l) (hs : Sorted l) (hlen : l.length ≤ 1000000) (hf : fits a) (key : Int) :
    ((gotP l key).2 = false ∧ cutO (some a) t key = (t, 0, false, 0, some a)) ∨
    ((gotP l key).2 = true ∧ ∃ a', Ext a a' ∧ fits a' ∧ a'.slots.length ≤ a.slots.length + 2 * hgt l ∧
      ((∃ u, cutO (some a) t key = (u, (gotP l key).1, true, 0, some a') ∧ Tr a' u (less key l)) ∨
       (cutO (some a) t key = (0, 0, false, 2, some a') ∧ Full a a' (2 * hgt l)))) := by
  unfold cutO
  rw [if_neg (by rw [isT_tr h]; decide), lgF_tr h hs key _ (lt_fuel t)]
  cases hg : (gotP l key).2 with
  | false => rw [if_pos rfl]; exact .inl ⟨rfl, rfl⟩
  | true =>
    rw [if_neg (by decide)]
    obtain ⟨a', g1, g2, g3, g4, g5⟩ := cut_tr h hs hlen hf key (fuel t) (lt_fuel t)
    refine .inr ⟨rfl, a', g2, g3, g4, ?_⟩
    generalize cutF (fuel t) (some a) t key = R at g1 g5 ⊢
    obtain ⟨u, e, A⟩ := R
    simp only [] at g1 g5 ⊢
    subst g1
    rcases g5 with ⟨rfl, tu⟩ | ⟨rfl, rfl, f, c⟩
    · rw [if_pos rfl]; exact .inl ⟨u, rfl, tu⟩
    · rw [if_neg (by decide)]; exact .inr ⟨rfl, f, c⟩
theorem cutO_room {a : Ar} {t : Int} {l : List Pr} (h : Tr a t l) (hs : Sorted l) (hlen : l.length ≤ 1000000) (hf : fits a) (key : Int) (hin : (gotP l key).2 = true) (hr : (a.slots.length : Int) + (2 * hgt l : Nat) ≤ a.room) :
    ∃ a' u, cutO (some a) t key = (u, (gotP l key).1, true, 0, some a') ∧ Tr a' u (less key l) ∧ Ext a a' ∧ fits a' ∧ a'.slots.length ≤ a.slots.length + 2 * hgt l := by
  rcases cutO_tr h hs hlen hf key with ⟨h1, _⟩ | ⟨_, a', e, f, c, hh⟩
  · rw [hin] at h1; exact absurd h1 (by decide)
  · rcases hh with ⟨u, h1, h2⟩ | ⟨_, hF⟩
    · exact ⟨a', u, h1, h2, e, f, c⟩
    · exact (hF.no e hr).elim

theorem partO_tr {a : Ar} {t : Int} {l : List Pr} (h : Tr a t l) (hs : Sorted l) (hlen : l.length ≤ 1000000) (hf : fits a) (key : Int) :
    ∃ a', Ext a a' ∧ fits a' ∧ a'.slots.length ≤ a.slots.length + hgt l ∧
      ((∃ x y, partO (some a) t key = (x, y, 0, some a') ∧ Tr a' x (lo key l) ∧ Tr a' y (hi key l)) ∨ (partO (some a) t key = (0, 0, 2, some a') ∧ Full a a' (hgt l))) := by
  obtain ⟨a', g1, g2, g3, g4, g5⟩ := parts_tr h hs hlen hf key (fuel t) (lt_fuel t)
  refine ⟨a', g2, g3, g4, ?_⟩
  unfold partO
  rw [if_neg (by rw [isT_tr h]; decide)]
  generalize partsF (fuel t) (some a) t key = R at g1 g5 ⊢
  obtain ⟨x, y, e, A⟩ := R
  simp only [] at g1 g5 ⊢
  subst g1
  rcases g5 with ⟨rfl, tu⟩ | ⟨rfl, f, c⟩
  · rw [if_pos rfl]; exact .inl ⟨x, y, rfl, tu⟩
  · rw [if_neg (by decide)]; exact .inr ⟨rfl, f, c⟩
theorem partO_room {a : Ar} {t : Int} {l : List Pr} (h : Tr a t l) (hs : Sorted l) (hlen : l.length ≤ 1000000) (hf : fits a) (key : Int) (hr : (a.slots.length : Int) + hgt l ≤ a.room) :
    ∃ a' x y, partO (some a) t key = (x, y, 0, some a') ∧ Tr a' x (lo key l) ∧ Tr a' y (hi key l) ∧ Ext a a' ∧ fits a' ∧ a'.slots.length ≤ a.slots.length + hgt l := by
  obtain ⟨a', e, f, c, hh⟩ := partO_tr h hs hlen hf key
  rcases hh with ⟨x, y, h1, h2, h3⟩ | ⟨_, hF⟩
  · exact ⟨a', x, y, h1, h2, h3, e, f, c⟩
  · exact (hF.no e hr).elim
theorem midO_tr {a : Ar} {t : Int} {l : List Pr} (h : Tr a t l) (hlen : l.length ≤ 1000000) : midO (some a) t = if hl : l.length < 2 then (0, false) else ((l[l.length / 2]'(by omega)).1, true) := by
  unfold midO
  rw [h.sizeO]
  by_cases hl : l.length < 2
  · rw [dif_pos hl, if_pos (by omega)]
  · rw [dif_neg hl, if_neg (by omega)]
    have e : ((l.length : Int).tdiv 2) = ((l.length / 2 : Nat) : Int) := by
      rw [Int.tdiv_eq_ediv_of_nonneg (by omega)]; omega
    rw [e, show Go.RowKit.wrap64 ((l.length / 2 : Nat) : Int) = ((l.length / 2 : Nat) : Int) from wrap_id (by omega) (by omega), nthO_tr h _ _ (lt_fuel t) hlen, dif_pos (by omega)]
    simp only [Int.toNat_natCast]
theorem lo_take {l : List Pr} (hs : Sorted l) {m : Nat} (hm : m < l.length) : lo (l[m]).1 l = l.take m ∧ hi (l[m]).1 l = l.drop m := by
  have e : l = l.take m ++ l[m] :: l.drop (m + 1) := by rw [List.getElem_cons_drop, List.take_append_drop]
  have ed : l.drop m = l[m] :: l.drop (m + 1) := by rw [List.getElem_cons_drop]
  obtain ⟨x, hx⟩ : ∃ x, l[m] = x := ⟨_, rfl⟩
  rw [hx] at e ed ⊢
  have hs' := hs
  rw [e] at hs'
  obtain ⟨s1, s2, s3, s4, s5⟩ := sorted_mid.1 hs'
  obtain ⟨q1, q2⟩ := mid_ge hs' (Int.le_refl x.1)
  rw [← e, lo_all s3] at q1
  rw [← e, hi_none s3, List.nil_append, ← ed] at q2
  exact ⟨q1, q2⟩
theorem halfO_room {a : Ar} {t : Int} {l : List Pr} (h : Tr a t l) (hs : Sorted l) (hlen : l.length ≤ 1000000) (hf : fits a) (hl : 2 ≤ l.length) (hr : (a.slots.length : Int) + hgt l ≤ a.room) :
    ∃ a' x y, halfO (some a) t = ((l[l.length / 2]'(by omega)).1, x, y, 0, some a') ∧ Tr a' x (l.take (l.length / 2)) ∧ Tr a' y (l.drop (l.length / 2)) ∧ Ext a a' ∧ fits a' ∧ a'.slots.length ≤ a.slots.length + hgt l := by
  have hm := midO_tr h hlen
  rw [dif_neg (by omega)] at hm
  unfold halfO
  rw [if_neg (by rw [isT_tr h]; decide), hm, if_neg (by simp)]
  simp only []
  obtain ⟨a', x, y, h1, h2, h3, h4⟩ := partO_room h hs hlen hf ((l[l.length / 2]'(by omega)).1) hr
  obtain ⟨e1, e2⟩ := lo_take hs (show l.length / 2 < l.length by omega)
  rw [e1] at h2
  rw [e2] at h3
  refine ⟨a', x, y, ?_, h2, h3, h4⟩
  rw [h1]
  simp
theorem halfO_few {a : Ar} {t : Int} {l : List Pr} (h : Tr a t l) (hlen : l.length ≤ 1000000) (hl : l.length < 2) : halfO (some a) t = (0, 0, 0, 3, some a) := by
  unfold halfO
  rw [if_neg (by rw [isT_tr h]; decide), midO_tr h hlen, dif_pos hl, if_pos rfl]

theorem max_last {a : Ar} {t : Int} {l : List Pr} (h : Tr a t l) (n : Nat) (hn : t < n) : maxF n (some a) t = match l.getLast? with | none => (0, 0, false) | some p => (p.1, p.2, true) := maxF_tr h n hn
/-- Two treaps, the keys of the one below those of the other. -/
theorem twoO_tr {a : Ar} {x y : Int} {L R : List Pr} (h1 : Tr a x L) (h2 : Tr a y R) (hs : Sorted (L ++ R)) (hlen : (L ++ R).length ≤ 1000000) (hf : fits a) : Got1 a (hgt L + hgt R) (L ++ R) (twoO (some a) x y) := by
  unfold twoO
  rw [if_neg]
  · exact merge_tr _ h1 h2 hs hlen hf (by omega)
  · rintro (h | ⟨h, h'⟩ | ⟨h, h'⟩ | ⟨h, h', h''⟩)
    · exact absurd h (by simp)
    · rcases h1.arg with rfl | hn
      · exact h rfl
      · rw [hn] at h'; exact absurd h' (by decide)
    · rcases h2.arg with rfl | hn
      · exact h rfl
      · rw [hn] at h'; exact absurd h' (by decide)
    · rw [maxF_tr h1 _ (lt_fuel x)] at h h''
      rw [minF_tr h2 _ (lt_fuel y)] at h' h''
      cases R with
      | nil => exact absurd h' (by simp)
      | cons q r =>
        cases hg : L.getLast? with
        | none => rw [hg] at h; exact absurd h (by simp)
        | some p =>
          rw [hg] at h''
          simp only [] at h''
          have := (List.pairwise_append.1 hs).2.2 p (List.mem_of_getLast? hg) q (List.mem_cons_self ..)
          omega
theorem twoO_room {a : Ar} {x y : Int} {L R : List Pr} (h1 : Tr a x L) (h2 : Tr a y R) (hs : Sorted (L ++ R)) (hlen : (L ++ R).length ≤ 1000000) (hf : fits a) (hr : (a.slots.length : Int) + (hgt L + hgt R : Nat) ≤ a.room) :
    ∃ a' u, twoO (some a) x y = (u, 0, some a') ∧ Tr a' u (L ++ R) ∧ Ext a a' ∧ fits a' ∧ a'.slots.length ≤ a.slots.length + (hgt L + hgt R) := by
  obtain ⟨a', g1, g2, g3, g4, g5, g6⟩ := (twoO_tr h1 h2 hs hlen hf).room hr
  generalize twoO (some a) x y = T at g1 g5 g6
  obtain ⟨u, e, A⟩ := T
  simp only [] at g1 g5 g6
  subst g1 g5
  exact ⟨a', u, rfl, g6, g2, g3, g4⟩
/-- The wrong way round. -/
theorem twoO_bad {a : Ar} {x y : Int} {L R : List Pr} (h1 : Tr a x L) (h2 : Tr a y R) {p q : Pr} (hp : L.getLast? = some p) (hq : R.head? = some q) (h : q.1 ≤ p.1) : twoO (some a) x y = (0, 1, some a) := by
  unfold twoO
  rw [if_pos]
  refine .inr (.inr (.inr ?_))
  rw [maxF_tr h1 _ (lt_fuel x), minF_tr h2 _ (lt_fuel y), hp]
  cases R with
  | nil => exact absurd hq (by simp)
  | cons z r =>
    obtain rfl : z = q := by simpa using hq
    exact ⟨rfl, rfl, h⟩
theorem twoO_none (x y : Int) : twoO none x y = (0, 1, none) := by unfold twoO; rw [if_pos (.inl rfl)]

end Go.Proofs.Ytakgknoldkfekaa
