/- The walk of Heavy: can calls be gone through? -/
import Derived.Test.YtbndhaocohomjaaOpen2
import Derived.Test.YtbndhaocohomjaaAwake2
namespace Go.Proofs.Ytbndhaocohomjaa
set_option maxRecDepth 100000
open Go.RowKit

def Light (l : List Cl) : Prop := l.length ≤ 200 ∧ ∀ j (hj : j < l.length), (l[j]).vals.length ≤ 40
theorem cell_lt {w : World} {b i : Nat} {v : Value} (h : w.cell? ⟨b, i, none⟩ = some v) : b < w.heap.size := World.block_lt_of_cell? w _ h
theorem IntsArg.later {w w' : World} {ad : Option Addr} {c : Nat} {l : List Int} (h : IntsArg w ad c l) (hb : Below w.heap.size w w') : IntsArg w' ad c l := by
  refine ⟨?_, h.room, h.most, h.wf⟩
  by_cases h0 : l = []
  · rcases h.reads with ⟨h1, h2, h3⟩ | ⟨x, rfl, hc⟩
    · exact .inl ⟨h1, h2, h3⟩
    · exact .inr ⟨x, rfl, fun j hj => by subst h0; simp at hj⟩
  · rcases h.reads with ⟨h1, h2, h3⟩ | ⟨x, rfl, hc⟩
    · exact .inl ⟨h1, h2, h3⟩
    · refine .inr ⟨x, rfl, fun j hj => ?_⟩
      have h1 := hc j hj
      have hlt := World.block_lt_of_cell? w _ h1
      exact (hb.cell hlt).trans h1
theorem ClIn.later {w w' : World} {k : Cl} {a : Option Addr} {c : Nat} (h : ClIn w k a c) (hb : Below w.heap.size w w') : ClIn w' k a c := ⟨h.vals.later hb, h.bdo, h.bkind, h.bid, h.bold, h.bnow⟩
theorem CsIn.cell {W : World} {ad : Option Addr} {c : Nat} {l : List Cl} (h : CsIn W ad c l) {k : Nat} (hk : k < l.length) :
    ∃ b off a cc, ad = some ⟨b, off, none⟩ ∧ b < W.heap.size ∧ ClIn W l[k] a cc ∧ ∀ w, Below W.heap.size W w → w.cell? ⟨b, off + k * 6, none⟩ = some (.int .i64 (l[k]).doo) ∧ w.cell? ⟨b, off + k * 6 + 1, none⟩ = some (.int .i64 (l[k]).kind) ∧ w.cell? ⟨b, off + k * 6 + 2, none⟩ = some (.int .i64 (l[k]).id) ∧
      w.cell? ⟨b, off + k * 6 + 3, none⟩ = some (.int .i64 (l[k]).old) ∧ w.cell? ⟨b, off + k * 6 + 4, none⟩ = some (.int .i64 (l[k]).now) ∧ w.cell? ⟨b, off + k * 6 + 5, none⟩ = some (.slice a (l[k]).vals.length cc) := by
  rcases h.at_ with rfl | ⟨b, off, rfl, hc⟩
  · simp at hk
  · obtain ⟨c0, c1, c2, c3, c4, a, cc, c5, hk'⟩ := hc k hk
    have hb := cell_lt c0
    refine ⟨b, off, a, cc, rfl, hb, hk', fun w hB => ?_⟩
    have hcc : ∀ o v, W.cell? ⟨b, o, none⟩ = some v → w.cell? ⟨b, o, none⟩ = some v := fun o v h => (hB.cell (p := ⟨b, o, none⟩) hb).trans h
    exact ⟨hcc _ _ c0, hcc _ _ c1, hcc _ _ c2, hcc _ _ c3, hcc _ _ c4, hcc _ _ c5⟩

set_option maxRecDepth 100000 in
set_option maxHeartbeats 4000000 in
theorem heavy_any (W : World) {ad : Option Addr} {c : Nat} {l : List Cl} (hl : CsIn W ad c l) :
    Calls Try.prog 15 #[.slice ad l.length c] W fun e w' => (∃ h : Int, e = .returned (.int .i64 h) ∧ (0 < h ∨ h = 0 ∧ Light l)) ∧ Below W.heap.size W w' := by
  have hlen : l.length ≤ 9223372036854775807 := by have := hl.room; have := hl.most; unfold maxLen at this; omega
  have HL := Lib.hid hl; clear hl
  go_enter Try.func15, Try.ntmps15
  go_wp2_with fail
  go_loopw [7] (fun i wr => ∃ k : Nat, k ≤ l.length ∧ i = .int .i64 k ∧ k ≤ 200 ∧ Hid ((∀ j (hj : j < l.length), j < k → (l[j]).vals.length ≤ 40) ∧ Below W.heap.size W wr)) (fun i _ => l.length - (intOf i).toNat)
  case atStart => exact ⟨0, Nat.zero_le _, rfl, by omega, Lib.hid ⟨fun j hj h => absurd h (by omega), Below.refl _ _⟩⟩
  case round =>
    obtain ⟨k, hk, rfl, hk2, HR⟩ := hrel
    have hz := HR.out.2.size
    by_cases hlt : k < l.length
    · obtain ⟨b, off, a, cc, rfl, hb, hcl, hcells⟩ := HL.out.cell hlt
      obtain ⟨c0, c1, c2, c3, c4, c5⟩ := hcells wr HR.out.2
      obtain ⟨q, hq⟩ : ∃ q, l[k] = q := ⟨_, rfl⟩
      rw [hq] at c0 c1 c2 c3 c4 c5
      have HQ := Lib.hid hq
      have hbw : b < wr.heap.size := by omega
      clear hcells hcl hq
      obtain ⟨x0, x1, x2, x3, x4, vs⟩ := q
      simp only [] at c0 c1 c2 c3 c4 c5
      have hbel := Lib.hid (HR.out.2.alloc hz (.cells #[.int .i64 x0, .int .i64 x1, .int .i64 x2, .int .i64 x3, .int .i64 x4, .slice a vs.length cc] 51))
      by_cases h200 : 200 ≤ (k : Int)
      · go_wp2_with fail
        go_ret
        refine ⟨⟨_, rfl, .inl (by omega)⟩, hbel.out⟩
      · by_cases h40 : 40 < (vs.length : Int)
        · go_wp2_with fail
          go_ret
          refine ⟨⟨_, rfl, .inl (by omega)⟩, hbel.out⟩
        · go_wp2_with fail
          go_roundw
          case rel =>
            refine ⟨k + 1, by omega, by go_num, by omega, Lib.hid ⟨fun j hj hjk => ?_, hbel.out⟩⟩
            by_cases he : j = k
            · subst he; rw [HQ.out]; show vs.length ≤ 40; omega
            · exact HR.out.1 j hj (by omega)
          case measure => simp [intOf]; omega
    · have hkl : k = l.length := by omega
      subst hkl
      go_wp2_with fail
      go_ret
      exact ⟨⟨0, rfl, .inr ⟨rfl, hk2, fun j hj => HR.out.1 j hj hj⟩⟩, HR.out.2⟩

end Go.Proofs.Ytbndhaocohomjaa
