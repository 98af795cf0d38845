/- The walk of All: several treaps in one. -/
import Derived.Test.YtkcfkanfdbejiaaTwoW
import Derived.Test.YtkcfkanfdbejiaaListW3
namespace Go.Proofs.Ytkcfkanfdbejiaa
set_option maxRecDepth 100000
open Go.RowKit
set_option linter.unusedSimpArgs false
set_option linter.unusedVariables false

/-- A slice of numbers beside an arena. -/
structure IK (w : World) (F : Nat → Prop) (ad : Option Addr) (c : Nat) (l : List Int) : Prop where
  at_ : l = [] ∨ ∃ b off, ad = some ⟨b, off, none⟩ ∧ ∀ j (hj : j < l.length), w.cell? ⟨b, off + j, none⟩ = some (.int .i64 l[j])
  room : l.length ≤ c
  most : c ≤ maxLen
  free : l ≠ [] → ∀ x, ad = some x → ¬ F x.block
theorem IK.grow {w w' : World} {F F' : Nat → Prop} {ad : Option Addr} {c : Nat} {l : List Int} (h : IK w F ad c l) (hg : Grow F w F' w') : IK w' F' ad c l := by
  by_cases h0 : l = []
  · exact ⟨.inl h0, h.room, h.most, fun hn => absurd h0 hn⟩
  · rcases h.at_ with h1 | ⟨b, off, rfl, hc⟩
    · exact absurd h1 h0
    · have hb : b < w.heap.size := World.block_lt_of_cell? w _ (hc 0 (List.length_pos_iff.2 h0))
      have hf := h.free h0 _ rfl
      have he := hg.1.block b hb hf
      refine ⟨.inr ⟨b, off, rfl, fun j hj => ?_⟩, h.room, h.most, fun _ x hx => ?_⟩
      · have hcell : ∀ o, w'.cell? ⟨b, o, none⟩ = w.cell? ⟨b, o, none⟩ := fun o => by simp [World.cell?, he]
        rw [hcell]; exact hc j hj
      · obtain rfl := Option.some.inj hx
        exact fun hh => (hg.2 b hh).elim hf (fun h => by omega)
theorem IK.later {w w' : World} {F : Nat → Prop} {ad : Option Addr} {c : Nat} {l : List Int} (h : IK w F ad c l) (hb : Below w.heap.size w w') : IK w' F ad c l := h.grow (.of_below hb)
theorem IK.alloc {w : World} {F : Nat → Prop} {ad : Option Addr} {c : Nat} {l : List Int} (h : IK w F ad c l) (o : Obj) : IK (w.alloc o) F ad c l := h.later ((Below.refl _ _).alloc (Nat.le_refl _) _)
theorem IK.nil (w : World) (F : Nat → Prop) : IK w F none 0 [] := ⟨.inl rfl, Nat.le_refl _, by decide, fun h => absurd rfl h⟩
theorem IK.new {w : World} {F : Nat → Prop} {b : Nat} {cs : Array Value} {t : TypeId} {fr : Nat × Nat} {l : List Int} (h : Kp w F b (.cells cs t fr)) (hcs : cs.toList = l.map (Value.int .i64)) (hm : l.length ≤ maxLen) : IK w F (some ⟨b, 0, none⟩) l.length l :=
  ⟨.inr ⟨b, 0, rfl, fun j hj => by
    rw [Nat.zero_add]
    refine h.cell ?_
    have : (l.map (Value.int .i64))[j]? = some (Value.int .i64 l[j]) := by rw [List.getElem?_map, List.getElem?_eq_getElem hj]; rfl
    rw [← hcs, Array.getElem?_toList] at this
    exact this⟩, Nat.le_refl _, hm, fun _ x hx => by obtain rfl := Option.some.inj hx; exact h.free⟩
theorem IK.cells {w : World} {F : Nat → Prop} {ad : Option Addr} {c : Nat} {l : List Int} (h : IK w F ad c l) {k : Nat} (hk : k < l.length) :
    ∃ b off, ad = some ⟨b, off, none⟩ ∧ ∀ w' F', IK w' F' ad c l → w'.cell? ⟨b, off + k, none⟩ = some (.int .i64 l[k]) := by
  rcases h.at_ with h0 | ⟨b, off, rfl, hc⟩
  · subst h0; simp at hk
  · refine ⟨b, off, rfl, fun w' F' h' => ?_⟩
    rcases h'.at_ with h0 | ⟨b', off', he, hc'⟩
    · subst h0; simp at hk
    · obtain ⟨rfl, rfl⟩ : b = b' ∧ off = off' := by simpa using he
      exact hc' k hk
theorem allL_step {l : List Int} {k : Nat} (hk : k < l.length) (A : OA) (t : Int) :
    allL (l.drop k) A t = if (twoO A t l[k]).2.1 = 0 then allL (l.drop (k + 1)) (twoO A t l[k]).2.2 (twoO A t l[k]).1 else (0, (twoO A t l[k]).2) := by
  rw [← List.getElem_cons_drop (h := hk)]
  rfl

set_option maxRecDepth 100000 in
set_option maxHeartbeats 4000000 in
theorem all_any {w : World} {po : Option Addr} {A : OA} {F : Nat → Prop} (h : OAt w po A F) {ad : Option Addr} {c : Nat} {l : List Int} (hl : IK w F ad c l) :
    Calls Try.prog 31 #[.pointer po, .slice ad l.length c] w fun e w' => e = .returned (.tuple #[.int .i64 (allO A l).1, .int .i64 (allO A l).2.1]) ∧ Made F w po (allO A l).2.2 w' := by
  have hlen : l.length ≤ 9223372036854775807 := by have := hl.room; have := hl.most; unfold maxLen at this; omega
  have HH := Lib.hid h
  have HK := Lib.hid hl
  clear hl
  rcases h with ⟨rfl, rfl, _⟩ | ⟨a, p, sv, row, rfl, rfl, _⟩
  · rw [show allO none l = (0, 1, none) from rfl]
    go_enter Try.func31, Try.ntmps31
    go_wp2_with fail
    go_ret2
    exact ⟨rfl, Made.of_below HH.out (Below.refl _ _)⟩
  · rw [show allO (some a) l = allL l (some a) 0 from rfl]
    go_enter Try.func31, Try.ntmps31
    go_wp2_with fail
    go_loopw [6, 14] (fun tv i wr => ∃ (k : Nat) (t' : Int), k ≤ l.length ∧ i = .int .i64 k ∧ tv = .int .i64 t' ∧ Hid (∃ A' F', OAt wr (some ⟨p, 0, none⟩) A' F' ∧ Grow F w F' wr ∧ allL l (some a) 0 = allL (l.drop k) A' t')) (fun _ i _ => l.length - (intOf i).toNat)
    case atStart => exact ⟨0, 0, Nat.zero_le _, rfl, rfl, Lib.hid ⟨some a, F, HH.out, Grow.refl _ _, rfl⟩⟩
    case round =>
      obtain ⟨k, t', hk, rfl, rfl, HR⟩ := hrel
      obtain ⟨A', F', o1, g1, e1⟩ := HR.out
      have HO := Lib.hid o1
      have HG := Lib.hid g1
      clear HR
      by_cases hlt : k < l.length
      · obtain ⟨b, off, rfl, hcell⟩ := HK.out.cells hlt
        have d0 := hcell wr F' (HK.out.grow g1)
        rw [allL_step hlt] at e1
        have hbl : b < wr.heap.size := World.block_lt_of_cell? wr _ d0
        generalize l[k] = x at e1 d0
        have hc := twoO_any o1 t' x
        generalize twoO A' t' x = P at hc e1
        obtain ⟨u, pe, PA⟩ := P
        simp only [] at hc e1
        have HC := Lib.hid hc
        have HE := Lib.hid e1
        clear hc e1 hcell o1 g1
        go_wp2_with fail
        refine HC.out.mono ?_
        rintro e w2 ⟨rfl, m2⟩
        obtain ⟨F2, o2, g2⟩ := Made.out m2
        have G2 := Lib.hid (HG.out.trans g2)
        have O2 := Lib.hid o2
        clear m2 o2 g2 d0
        by_cases h0 : pe = 0
        · subst h0
          have he := HE.out
          rw [if_pos rfl] at he
          have HE2 := Lib.hid he; clear he HE
          go_wp2_with fail
          go_roundw
          case rel => exact ⟨k + 1, u, by omega, by go_num, rfl, Lib.hid ⟨PA, F2, O2.out, G2.out, HE2.out⟩⟩
          case measure => simp [intOf]; omega
        · have he := HE.out
          rw [if_neg h0] at he
          have HE2 := Lib.hid he; clear he HE
          have q0 : (pe == 0) = false := beq_eq_false_iff_ne.2 h0
          have q1 : (pe != 0) = true := by rw [bne, q0]; rfl
          clear h0
          go_wp2_with fail
          go_ret2
          rw [HE2.out]
          exact ⟨rfl, Made.of_grow G2.out O2.out⟩
      · have hkl : k = l.length := by omega
        subst hkl
        rw [List.drop_length] at e1
        have HE := Lib.hid e1
        clear e1 o1 g1
        go_wp2_with fail
        go_ret2
        rw [HE.out]
        exact ⟨rfl, Made.of_grow HG.out HO.out⟩

end Go.Proofs.Ytkcfkanfdbejiaa
