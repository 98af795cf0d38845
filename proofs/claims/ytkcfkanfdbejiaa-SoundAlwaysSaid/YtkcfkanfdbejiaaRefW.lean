/- The walks of the reference's Find, MayPairs, SamePairs, Without, Between. -/
import Derived.Test.YtkcfkanfdbejiaaRefP
import Derived.Test.YtkcfkanfdbejiaaListW3
namespace Go.Proofs.Ytkcfkanfdbejiaa
set_option maxRecDepth 100000
open Go.RowKit Go.Proofs.Ytkcfkanfdbejiaa.Mix
set_option linter.unusedSimpArgs false
set_option linter.unusedVariables false

set_option maxRecDepth 100000 in
set_option maxHeartbeats 4000000 in
theorem find_any (W : World) {ad : Option Addr} {c : Nat} {l : List Pr} (hl : PIn W ad c l) (key : Int) :
    Calls Try.prog 37 #[.slice ad l.length c, .int .i64 key] W fun e w' => e = .returned (.int .i64 (findI l key)) ∧ Below W.heap.size W w' := by
  have hlen : l.length ≤ 9223372036854775807 := by have := hl.room; have := hl.most; unfold maxLen at this; omega
  have HL := Lib.hid hl; clear hl
  go_enter Try.func37, Try.ntmps37
  go_wp2_with fail
  go_loopw [9] (fun i wr => ∃ k : Nat, k ≤ l.length ∧ i = .int .i64 k ∧ Hid ((∀ j (hj : j < k) (hj2 : j < l.length), (l[j]).1 ≠ key) ∧ Below W.heap.size W wr)) (fun i _ => l.length - (intOf i).toNat)
  case atStart => exact ⟨0, Nat.zero_le _, rfl, Lib.hid ⟨fun j hj => absurd hj (by omega), Below.refl _ _⟩⟩
  case round =>
    obtain ⟨k, hk, rfl, HR⟩ := hrel
    have hz := HR.out.2.size
    by_cases hlt : k < l.length
    · obtain ⟨b, off, rfl, d0, d1⟩ := HL.out.cell HR.out.2 HL.out.lt hlt
      have B2 := Lib.hid (HR.out.2.alloc hz (.cells #[.int .i64 (l[k]).1, .int .i64 (l[k]).2] 24))
      by_cases he : (l[k]).1 = key
      · have HF := Lib.hid (findI_at k hlt he (fun j hj => HR.out.1 j hj (by omega)))
        obtain ⟨x, hx⟩ : ∃ x, l[k] = x := ⟨_, rfl⟩
        rw [hx] at d0 d1 he B2
        clear hx
        obtain ⟨xk, xv⟩ := x
        simp only [] at d0 d1 he B2
        subst he
        have q := beq_self_eq_true xk
        go_wp2_with fail
        go_ret
        exact ⟨by rw [HF.out]; rfl, B2.out⟩
      · have HN := Lib.hid (show ∀ j (hj : j < k + 1) (hj2 : j < l.length), (l[j]).1 ≠ key from fun j hj hj2 => by
          by_cases hjk : j < k
          · exact HR.out.1 j hjk hj2
          · have : j = k := by omega
            subst this; exact he)
        have q : ((l[k]).1 == key) = false := beq_eq_false_iff_ne.2 he
        clear he
        go_wp2_with fail
        go_roundw
        case rel => exact ⟨k + 1, by omega, by go_num, Lib.hid ⟨HN.out, B2.out⟩⟩
        case measure => simp [intOf]; omega
    · have hkl : k = l.length := by omega
      subst hkl
      have HF := Lib.hid (findI_no (l := l) (key := key) (fun p hp => by obtain ⟨j, hj, rfl⟩ := List.getElem_of_mem hp; exact HR.out.1 j hj hj))
      go_wp2_with fail
      go_ret
      exact ⟨by rw [HF.out]; rfl, HR.out.2⟩

set_option maxRecDepth 100000 in
set_option maxHeartbeats 4000000 in
theorem may_any (W : World) {ad : Option Addr} {c : Nat} {l : List Pr} (hl : PIn W ad c l) (hs : Sorted l) :
    Calls Try.prog 32 #[.slice ad l.length c] W fun e w' => e = .returned (.bool true) ∧ Below W.heap.size W w' := by
  have hlen : l.length ≤ 9223372036854775807 := by have := hl.room; have := hl.most; unfold maxLen at this; omega
  have HL := Lib.hid hl; clear hl
  have HS := Lib.hid hs; clear hs
  go_enter Try.func32, Try.ntmps32
  go_wp2_with fail
  go_loopw [3] (fun i wr => ∃ k : Nat, k ≤ l.length ∧ i = .int .i64 ((k : Int) + 1) ∧ Hid (Below W.heap.size W wr)) (fun i _ => l.length + 1 - (intOf i).toNat)
  case atStart => exact ⟨0, Nat.zero_le _, rfl, Lib.hid (Below.refl _ _)⟩
  case round =>
    obtain ⟨k, hk, rfl, HR⟩ := hrel
    by_cases hlt : k + 1 < l.length
    · obtain ⟨b, off, rfl, d0, d1⟩ := HL.out.cell HR.out HL.out.lt hlt
      obtain ⟨b', off', hbb, e0, e1⟩ := HL.out.cell HR.out HL.out.lt (show k < l.length by omega)
      obtain ⟨rfl, rfl⟩ : b = b' ∧ off = off' := by simpa using hbb
      have hlt2 := HS.out.lt (show k < k + 1 by omega) hlt
      rw [keyAt_eq (by omega), keyAt_eq hlt] at hlt2
      generalize (l[k + 1]).1 = x1 at d0 hlt2
      generalize (l[k]).1 = x0 at e0 hlt2
      have i1 : ((k : Int) + 1).toNat = k + 1 := by omega
      have w1 : IntKind.i64.wrap ((k : Int) + 1 - 1) = (k : Int) := IntWalk.i64_in _ (by omega) |>.trans (by omega)
      have w2 : IntKind.i64.wrap (k : Int) = (k : Int) := IntWalk.i64_in _ (by omega)
      have l1 : (0 : Int) ≤ (k : Int) + 1 := by omega
      have l2 : (k : Int) + 1 < (l.length : Int) := by omega
      have l3 : k < l.length := by omega
      have n1 : ¬ (x1 ≤ x0) := by omega
      clear d1 e1 hbb hlt2
      go_wp2_with fail
      go_quiet (fail)
      go_wp2_with fail
      go_roundw
      case rel => exact ⟨k + 1, by omega, by go_num, Lib.hid (HR.out.trans (by exact ⟨rfl, rfl, rfl, Nat.le_refl _, fun _ _ => rfl⟩))⟩
      case measure => simp [intOf]; omega
    · have l2 : ¬ ((k : Int) + 1 < (l.length : Int)) := by omega
      go_wp2_with fail
      go_ret
      exact ⟨rfl, HR.out⟩

set_option maxRecDepth 100000 in
set_option maxHeartbeats 4000000 in
theorem same_any (W : World) {ad ad2 : Option Addr} {c c2 : Nat} {l m : List Pr} (hl : PIn W ad c l) (hm : PIn W ad2 c2 m) :
    Calls Try.prog 17 #[.slice ad l.length c, .slice ad2 m.length c2] W fun e w' => e = .returned (.bool (decide (l = m))) ∧ Below W.heap.size W w' := by
  have hlen : l.length ≤ 9223372036854775807 := by have := hl.room; have := hl.most; unfold maxLen at this; omega
  have hlen2 : m.length ≤ 9223372036854775807 := by have := hm.room; have := hm.most; unfold maxLen at this; omega
  have HL := Lib.hid hl; clear hl
  have HM := Lib.hid hm; clear hm
  by_cases he : l.length = m.length
  · have q : ((l.length : Int) != (m.length : Int)) = false := by rw [he]; simp
    have HE := Lib.hid he; clear he
    go_enter Try.func17, Try.ntmps17
    go_wp2_with fail
    go_loopw [13] (fun i wr => ∃ k : Nat, k ≤ l.length ∧ i = .int .i64 k ∧ Hid ((∀ j (hj : j < k) (h1 : j < l.length) (h2 : j < m.length), l[j] = m[j]) ∧ Below W.heap.size W wr)) (fun i _ => l.length - (intOf i).toNat)
    case atStart => exact ⟨0, Nat.zero_le _, rfl, Lib.hid ⟨fun j hj => absurd hj (by omega), Below.refl _ _⟩⟩
    case round =>
      obtain ⟨k, hk, rfl, HR⟩ := hrel
      by_cases hlt : k < l.length
      · have hlt2 : k < m.length := by have := HE.out; omega
        obtain ⟨b, off, rfl, d0, d1⟩ := HL.out.cell HR.out.2 HL.out.lt hlt
        obtain ⟨b2, off2, rfl, e0, e1⟩ := HM.out.cell HR.out.2 HM.out.lt hlt2
        by_cases hx : l[k] = m[k]
        · have HN := Lib.hid (show ∀ j (hj : j < k + 1) (h1 : j < l.length) (h2 : j < m.length), l[j] = m[j] from fun j hj h1 h2 => by
            by_cases hjk : j < k
            · exact HR.out.1 j hjk h1 h2
            · have : j = k := by omega
              subst this; exact hx)
          rw [← hx] at e0 e1
          generalize l[k] = x at d0 d1 e0 e1
          clear hx
          obtain ⟨xk, xv⟩ := x
          simp only [] at d0 d1 e0 e1
          have q1 := beq_self_eq_true xk
          have q2 := beq_self_eq_true xv
          have q3 : (xk != xk) = false := by simp
          have q4 : (xv != xv) = false := by simp
          go_wp2_with fail
          go_quiet (fail)
          go_wp2_with fail
          go_roundw
          case rel => exact ⟨k + 1, by omega, by go_num, Lib.hid ⟨HN.out, HR.out.2.trans (by exact ⟨rfl, rfl, rfl, Nat.le_refl _, fun _ _ => rfl⟩)⟩⟩
          case measure => simp [intOf]; omega
        · have HN := Lib.hid (show decide (l = m) = false from decide_eq_false (fun e => hx (by subst e; rfl)))
          have hx' : (l[k]).1 ≠ (m[k]).1 ∨ ((l[k]).1 = (m[k]).1 ∧ (l[k]).2 ≠ (m[k]).2) := by
            by_cases h1 : (l[k]).1 = (m[k]).1
            · exact .inr ⟨h1, fun h2 => hx (Prod.ext h1 h2)⟩
            · exact .inl h1
          generalize l[k] = x at d0 d1 hx'
          generalize m[k] = y at e0 e1 hx'
          clear hx
          obtain ⟨xk, xv⟩ := x
          obtain ⟨yk, yv⟩ := y
          simp only [] at d0 d1 e0 e1 hx'
          rcases hx' with h1 | ⟨rfl, h1⟩
          · have q1 : (xk == yk) = false := beq_eq_false_iff_ne.2 h1
            clear h1
            go_wp2_with fail
            go_quiet (fail)
            go_wp2_with fail
            go_ret
            exact ⟨by rw [HN.out]; rfl, HR.out.2.trans (by exact ⟨rfl, rfl, rfl, Nat.le_refl _, fun _ _ => rfl⟩)⟩
          · have q0 := beq_self_eq_true xk
            have q1 : (xv == yv) = false := beq_eq_false_iff_ne.2 h1
            clear h1
            go_wp2_with fail
            go_quiet (fail)
            go_wp2_with fail
            go_ret
            exact ⟨by rw [HN.out]; rfl, HR.out.2.trans (by exact ⟨rfl, rfl, rfl, Nat.le_refl _, fun _ _ => rfl⟩)⟩
      · have hkl : k = l.length := by omega
        subst hkl
        have HN := Lib.hid (show decide (l = m) = true from decide_eq_true (List.ext_getElem HE.out (fun j h1 h2 => HR.out.1 j h1 h1 h2)))
        go_wp2_with fail
        go_ret
        exact ⟨by rw [HN.out]; rfl, HR.out.2⟩
  · have q : ((l.length : Int) != (m.length : Int)) = true := by simp; omega
    have HN := Lib.hid (show decide (l = m) = false from decide_eq_false (fun e => he (by rw [e])))
    clear he
    go_enter Try.func17, Try.ntmps17
    go_wp2_with fail
    go_ret
    exact ⟨by rw [HN.out]; rfl, Below.refl _ _⟩

/-- Pairs gathered in a row of the call's own. -/
structure FRel (B : Nat) (wr : World) (v : Value) (out : List Pr) : Prop where
  own : wr.ownsRow B 24 2 v out.length (cellsP out)
  le : B ≤ wr.heap.size
theorem FRel.ne {B : Nat} {wr : World} {v : Value} {out : List Pr} (h : FRel B wr v out) (k : Nat) (hk : wr.heap.size ≤ k) : some k ≠ v.ownBlock := fun e => by have := (h.own.lt k e.symm).2; omega
theorem FRel.alloc {B : Nat} {wr : World} {v : Value} {out : List Pr} (h : FRel B wr v out) (o : Obj) : FRel B (wr.alloc o) v out :=
  ⟨h.own.alloc o, by have := h.le; simp; omega⟩
theorem FRel.start (W : World) : FRel W.heap.size W (.slice none 0 0) [] := ⟨World.ownsRow_nil _ _ _ _, Nat.le_refl _⟩
theorem FRel.gives {B : Nat} {wr : World} {v : Value} {out : List Pr} (h : FRel B wr v out) : ∃ ad c, v = .slice ad out.length c ∧ PIn wr ad c out ∧ (∀ x, ad = some x → B ≤ x.block) := by
  rcases h.own.2 with ⟨rfl, h2⟩ | ⟨g, cap, cur, rfl, hb, hg, hc, hm, _⟩
  · have : out = [] := List.eq_nil_of_length_eq_zero h2
    subst this
    exact ⟨none, 0, rfl, ⟨.inl rfl, Nat.le_refl _, by decide⟩, by simp⟩
  · refine ⟨_, cap, rfl, ⟨.inr ⟨g, 0, rfl, fun j hj => ?_⟩, hc, hm⟩, fun x hx => by obtain rfl := Option.some.inj hx; exact hb⟩
    obtain ⟨h1, h2⟩ := cellsP_at out j hj
    rw [Nat.zero_add, h.own.cellAt _ (by omega), h.own.cellAt _ (by omega)]
    exact ⟨h1, h2⟩
theorem wp_appr {P' : Array Oper} {rest : List Oper} {o : Oper} {a : Act} {Q : Exit → Act → World → Prop} {B : Nat} {w : World} {y : Pr} {v : Value} {out : List Pr} {g : Nat} (hgd : o.guard = none) (s x : Operand)
    (ho : o.op = .call { callee := .builtin .append, args := #[s, x], argTypes := #[22, 22] }) (hs : a.eval s = v) (hx : a.eval x = .slice (some ⟨g, 0, none⟩) 1 1) (R : FRel B w v out)
    (hg : w.heap[g]? = some (.cells #[.int .i64 y.1, .int .i64 y.2] 24 (0, 0))) (hlen : out.length ≤ 1000001)
    (h : ∀ v' w', FRel B w' v' (out ++ [y]) → w.grownBy w' v.ownBlock → wpList Try.prog P' Q rest (a.put o.dst v') w') :
    wpList Try.prog P' Q (o :: rest) a w := by
  obtain ⟨i0, hi, hz0, hz1, hz2⟩ := info_parts info_pair
  refine wpList_append_own w hgd s x 22 ho B 24 i0 (.agg #[.int .i64 0, .int .i64 0]) 2 16 Try.underlying22 hi hz0 hz1 hz2 rfl (by decide) v out.length (cellsP out) hs R.own ⟨g, 0, none⟩ 1 1 [.int .i64 y.1, .int .i64 y.2] hx rfl ?_ ?_ (by unfold maxLen; omega) (by omega) R.le ?_
  · intro j u hu
    have hadd : (⟨g, 0, none⟩ : Addr).add j = ⟨g, j, none⟩ := by unfold Addr.add; split <;> simp_all
    rw [hadd]
    exact cell_blk hg (by simpa using hu)
  · intro u hu
    simp at hu
    rcases hu with rfl | rfl <;> rfl
  · intro v' w' hown hgrow _
    refine h v' w' ⟨by rw [cellsP_snoc, List.length_append, List.length_singleton]; exact hown, Nat.le_trans R.le hgrow.size⟩ hgrow
theorem Below.grow {B : Nat} {W wr w' : World} {v : Value} {out : List Pr} (h : Below W.heap.size W wr) (R : FRel B wr v out) (hB : W.heap.size ≤ B) (hg : wr.grownBy w' v.ownBlock) : Below W.heap.size W w' :=
  h.grown hg (Nat.le_trans hB R.le) (fun k hk => by have := (R.own.lt k hk).1; omega)

theorem less_snoc (key : Int) (l : List Pr) (x : Pr) : less key (l ++ [x]) = if x.1 = key then less key l else less key l ++ [x] := by
  unfold less
  rw [List.filter_append, List.filter_cons]
  by_cases h : x.1 = key <;> simp [h]
set_option maxRecDepth 100000 in
set_option maxHeartbeats 4000000 in
theorem without_any (W : World) {ad : Option Addr} {c : Nat} {l : List Pr} (hl : PIn W ad c l) (hbig : l.length ≤ 1000000) (key : Int) :
    Calls Try.prog 39 #[.slice ad l.length c, .int .i64 key] W fun e w' => ∃ ad' c', e = .returned (.slice ad' (less key l).length c') ∧ PIn w' ad' c' (less key l) ∧ (∀ x, ad' = some x → W.heap.size ≤ x.block) ∧ Below W.heap.size W w' := by
  have hlen : l.length ≤ 9223372036854775807 := by omega
  have HL := Lib.hid hl; clear hl
  go_enter Try.func39, Try.ntmps39
  go_wp2_with fail
  go_loopw [5, 10] (fun v i wr => ∃ k : Nat, k ≤ l.length ∧ i = .int .i64 k ∧ Hid (FRel W.heap.size wr v (less key (l.take k)) ∧ Below W.heap.size W wr)) (fun _ i _ => l.length - (intOf i).toNat)
  case atStart => exact ⟨0, Nat.zero_le _, rfl, Lib.hid ⟨FRel.start W, Below.refl _ _⟩⟩
  case round =>
    obtain ⟨k, hk, rfl, HR⟩ := hrel
    have hz := HR.out.1.le
    by_cases hlt : k < l.length
    · obtain ⟨b, off, rfl, d0, d1⟩ := HL.out.cell HR.out.2 HL.out.lt hlt
      have hsn : less key (l.take (k + 1)) = if (l[k]).1 = key then less key (l.take k) else less key (l.take k) ++ [l[k]] := by
        rw [List.take_succ_eq_append_getElem hlt, less_snoc]
      have hol : (less key (l.take k)).length ≤ 1000001 := by have := sub_len (less_sub key (l.take k)); rw [List.length_take] at this; omega
      generalize less key (l.take k) = out at HR hsn hol
      generalize l[k] = x at hsn d0 d1
      obtain ⟨xk, xv⟩ := x
      simp only [] at d0 d1 hsn
      have hbl : b < wr.heap.size := World.block_lt_of_cell? wr _ d0
      by_cases he : xk = key
      · subst he
        rw [if_pos rfl] at hsn
        have q3 : (xk != xk) = false := by simp
        have E2 := Lib.hid hsn; clear hsn
        have R1 := Lib.hid (HR.out.1.alloc (.cells #[.int .i64 xk, .int .i64 xv] 24))
        have B1 := Lib.hid (HR.out.2.alloc hz (.cells #[.int .i64 xk, .int .i64 xv] 24))
        go_wp2_with fail
        go_roundw
        case rel => exact ⟨k + 1, by omega, by go_num, Lib.hid ⟨by rw [E2.out]; exact R1.out, B1.out⟩⟩
        case measure => simp [intOf]; omega
      · rw [if_neg he] at hsn
        have he1 : (xk == key) = false := beq_eq_false_iff_ne.2 he
        have he2 : (xk != key) = true := by rw [bne, he1]; rfl
        have E2 := Lib.hid hsn; clear hsn he
        have hg2 : ((wr.alloc (.cells #[.int .i64 xk, .int .i64 xv] 24)).alloc (.cells #[.int .i64 xk, .int .i64 xv] 24)).heap[wr.heap.size + 1]? = some (.cells #[.int .i64 xk, .int .i64 xv] 24 (0, 0)) := by
          have := heap_alloc_new (wr.alloc (.cells #[.int .i64 xk, .int .i64 xv] 24)) (.cells #[.int .i64 xk, .int .i64 xv] 24)
          simpa using this
        have G2 := Lib.hid hg2; clear hg2
        have R2 := Lib.hid ((HR.out.1.alloc (.cells #[.int .i64 xk, .int .i64 xv] 24)).alloc (.cells #[.int .i64 xk, .int .i64 xv] 24))
        have B2 := Lib.hid ((HR.out.2.alloc hz (.cells #[.int .i64 xk, .int .i64 xv] 24)).alloc (by simp; omega) (.cells #[.int .i64 xk, .int .i64 xv] 24))
        go_wp2_with (at_builtin; refine wp_appr (y := (xk, xv)) rfl (.tmp 18) (.tmp 20) rfl rfl rfl R2.out G2.out hol ?_; intro v1 w1 r1 g1; have R3 := Lib.hid r1; have B3 := Lib.hid (Below.grow B2.out R2.out (Nat.le_refl _) g1); clear r1 g1)
        go_roundw
        case rel => exact ⟨k + 1, by omega, by go_num, Lib.hid ⟨by rw [E2.out]; exact R3.out, B3.out⟩⟩
        case measure => simp [intOf]; omega
    · have hkl : k = l.length := by omega
      subst hkl
      rw [List.take_length] at HR
      go_wp2_with fail
      go_ret
      obtain ⟨ad', c', rfl, h1, h2⟩ := HR.out.1.gives
      exact ⟨ad', c', rfl, h1, h2, HR.out.2⟩


end Go.Proofs.Ytkcfkanfdbejiaa
