/- The walk of Of: the treap of some pairs. -/
import Derived.Test.YtakgknoldkfekaaPutW2
namespace Go.Proofs.Ytakgknoldkfekaa
set_option maxRecDepth 100000
open Go.RowKit
set_option linter.unusedSimpArgs false
set_option linter.unusedVariables false

/-- Pairs that lay there already stay beside what an arena of the law's own has. -/
theorem ofL_step {l : List Pr} {k : Nat} (hk : k < l.length) (A : OA) (t : Int) :
    ofL (l.drop k) A t = if (putO A t (l[k]).1 (l[k]).2).2.2.2.1 = 0 then ofL (l.drop (k + 1)) (putO A t (l[k]).1 (l[k]).2).2.2.2.2 (putO A t (l[k]).1 (l[k]).2).1 else (0, (putO A t (l[k]).1 (l[k]).2).2.2.2) := by
  rw [← List.getElem_cons_drop (h := hk)]
  rfl

set_option maxRecDepth 100000 in
set_option maxHeartbeats 4000000 in
theorem of_any {w : World} {po : Option Addr} {A : OA} {F : Nat → Prop} (h : OAt w po A F) {ad : Option Addr} {c : Nat} {l : List Pr} (hl : PK w F ad c l) :
    Calls Try.prog 35 #[.pointer po, .slice ad l.length c] w fun e w' => e = .returned (.tuple #[.int .i64 (ofO A l).1, .int .i64 (ofO A l).2.1]) ∧ Made F w po (ofO A l).2.2 w' := by
  have hlen : l.length ≤ 9223372036854775807 := by have := hl.pin.room; have := hl.pin.most; unfold maxLen at this; omega
  have HH := Lib.hid h
  have HK := Lib.hid hl
  clear hl
  rcases h with ⟨rfl, rfl, _⟩ | ⟨a, p, sv, row, rfl, rfl, _⟩
  · rw [show ofO none l = (0, 1, none) from rfl]
    go_enter Try.func35, Try.ntmps35
    go_wp2_with fail
    go_ret2
    exact ⟨rfl, Made.of_below HH.out (Below.refl _ _)⟩
  · rw [show ofO (some a) l = ofL l (some a) 0 from rfl]
    go_enter Try.func35, Try.ntmps35
    go_wp2_with fail
    go_loopw [6, 14] (fun tv i wr => ∃ (k : Nat) (t' : Int), k ≤ l.length ∧ i = .int .i64 k ∧ tv = .int .i64 t' ∧ Hid (∃ A' F', OAt wr (some ⟨p, 0, none⟩) A' F' ∧ Grow F w F' wr ∧ ofL l (some a) 0 = ofL (l.drop k) A' t')) (fun _ i _ => l.length - (intOf i).toNat)
    case atStart => exact ⟨0, 0, Nat.zero_le _, rfl, rfl, Lib.hid ⟨some a, F, HH.out, Grow.refl _ _, rfl⟩⟩
    case round =>
      obtain ⟨k, t', hk, rfl, rfl, HR⟩ := hrel
      obtain ⟨A', F', o1, g1, e1⟩ := HR.out
      have HO := Lib.hid o1
      have HG := Lib.hid g1
      clear HR
      by_cases hlt : k < l.length
      · obtain ⟨b, off, rfl, hcell⟩ := HK.out.cells hlt
        obtain ⟨d0, d1⟩ := hcell wr F' (HK.out.grow g1)
        rw [ofL_step hlt] at e1
        have hbl : b < wr.heap.size := World.block_lt_of_cell? wr _ d0
        obtain ⟨x, hx⟩ : ∃ x, l[k] = x := ⟨_, rfl⟩
        rw [hx] at e1 d0 d1
        obtain ⟨xk, xv⟩ := x
        simp only [] at e1 d0 d1
        have hc := putO_any (HO.out.alloc (.cells #[.int .i64 xk, .int .i64 xv] 37)) t' xk xv
        generalize putO A' t' xk xv = P at hc e1
        obtain ⟨u, pv, pw, pe, PA⟩ := P
        simp only [] at hc e1
        have HC := Lib.hid hc
        have HE := Lib.hid e1
        clear hc e1 hcell hx o1 g1
        have hb1 := Lib.hid (Grow.of_below (F := F') ((Below.refl _ _).alloc (Nat.le_refl _) (.cells #[.int .i64 xk, .int .i64 xv] 37)) : Grow F' wr F' (wr.alloc (.cells #[.int .i64 xk, .int .i64 xv] 37)))
        go_wp2_with fail
        refine HC.out.mono ?_
        rintro e w2 ⟨rfl, m2⟩
        obtain ⟨F2, o2, g2⟩ := Made.out m2
        have G2 := Lib.hid (HG.out.trans (hb1.out.trans g2))
        have O2 := Lib.hid o2
        clear m2 o2 g2 d0 d1 hb1
        by_cases h0 : pe = 0
        · subst h0
          have he := HE.out
          rw [if_pos rfl] at he
          have HE2 := Lib.hid he; clear he HE
          go_wp2_with fail
          go_roundw
          case rel => exact ⟨k + 1, u, by omega, by go_num, rfl, Lib.hid ⟨PA, F2, O2.out, G2.out, HE2.out⟩⟩
          case measure => simp [intOf]; omega
        · have he := HE.out
          rw [if_neg h0] at he
          have HE2 := Lib.hid he; clear he HE
          have q0 : (pe == 0) = false := beq_eq_false_iff_ne.2 h0
          have q1 : (pe != 0) = true := by rw [bne, q0]; rfl
          clear h0
          go_wp2_with fail
          go_ret2
          rw [HE2.out]
          exact ⟨rfl, Made.of_grow G2.out O2.out⟩
      · have hkl : k = l.length := by omega
        subst hkl
        rw [List.drop_length] at e1
        have HE := Lib.hid e1
        clear e1 o1 g1
        go_wp2_with fail
        go_ret2
        rw [HE.out]
        exact ⟨rfl, Made.of_grow HG.out HO.out⟩

end Go.Proofs.Ytakgknoldkfekaa
