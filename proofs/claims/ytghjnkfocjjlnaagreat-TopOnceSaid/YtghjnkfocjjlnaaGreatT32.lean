/- What a clean script is made of. -/
import Derived.Test.YtghjnkfocjjlnaaGreatT31
set_option linter.unusedSimpArgs false
set_option linter.unusedVariables false
namespace Go.Proofs.YtghjnkfocjjlnaaGreat
set_option maxRecDepth 100000
open Go.RowKit Go.Proofs.YtghjnkfocjjlnaaGreatW.PrintWords Go.Proofs.YtghjnkfocjjlnaaGreatW.PrintLast
set_option linter.unusedVariables false
set_option linter.unusedSimpArgs false
/-- A slice of operations that is read. -/
def OpIn (w : World) (ad : Option Addr) (c : Nat) (l : List OpR) : Prop :=
  l.length ≤ c ∧ ((ad = none ∧ c = 0) ∨ ∃ b off, ad = some ⟨b, off, none⟩ ∧ ∀ j, j < l.length → ∀ k, k < 4 → w.cell? ⟨b, off + j * 4 + k, none⟩ = (opL (l.getD j op0))[k]?)
theorem OpIn.later {w w' : World} {ad : Option Addr} {c : Nat} {l : List OpR} (h : OpIn w ad c l) (hb : Below w.heap.size w w') : OpIn w' ad c l := by
  refine ⟨h.1, h.2.imp id (fun ⟨b, off, h1, h2⟩ => ⟨b, off, h1, fun j hj k hk => ?_⟩)⟩
  have h3 := h2 j hj k hk
  rw [← h3]
  have h4 : ∃ u, w.cell? ⟨b, off + j * 4 + k, none⟩ = some u := by rw [h3]; exact ⟨_, opL_at _ k hk⟩
  obtain ⟨u, hu⟩ := h4
  rw [hu]
  exact hb.cell (World.block_lt_of_cell? w _ hu) |>.trans hu
theorem opL_flat (l : List OpR) {j k : Nat} (hj : j < l.length) (hk : k < 4) : (l.flatMap opL)[j * 4 + k]? = (opL (l.getD j op0))[k]? := by
  induction l generalizing j with
  | nil => simp at hj
  | cons x r ih =>
    rw [List.flatMap_cons]
    cases j with
    | zero =>
      rw [List.getElem?_append_left (by simp [opL]; omega)]
      simp
    | succ j =>
      rw [List.getElem?_append_right (by simp [opL]; omega)]
      rw [show (j + 1) * 4 + k - (opL x).length = j * 4 + k by simp [opL]; omega, ih (by simpa using hj)]
      simp
theorem opL_len (l : List OpR) : (l.flatMap opL).length = l.length * 4 := by
  induction l with
  | nil => rfl
  | cons x r ih => rw [List.flatMap_cons, List.length_append, ih]; simp [opL]; omega
theorem opL_one {o : OpR} {u : Value} (h : u ∈ opL o) : u.oneCell' = true := by
  simp only [opL, List.mem_cons, List.not_mem_nil, or_false] at h
  rcases h with rfl | rfl | rfl | rfl <;> rfl
/-- A row of operations that somebody owns is read. -/
theorem OpIn.own {w : World} {B : Nat} {ad : Option Addr} {c : Nat} {l : List OpR} (h : w.ownsRow B 32 4 (.slice ad l.length c) l.length (l.flatMap opL)) : OpIn w ad c l := by
  rcases h.2 with ⟨h1, h2⟩ | ⟨g, cap, cur, h1, _, _, h4, _⟩
  · injection h1 with h1 h3 h4
    exact ⟨by omega, .inl ⟨h1, h4⟩⟩
  · injection h1 with h1 h3 h5
    subst h1; subst h5
    refine ⟨h4, .inr ⟨g, 0, rfl, fun j hj k hk => ?_⟩⟩
    rw [Nat.zero_add, h.cellAt _ (by omega), opL_flat l hj hk]
theorem LeftAt.own {w : World} {o2 : Nat → Option Po} {B : Nat} {v : Value} {l : List OpR} (h : w.ownsRow B 32 4 v l.length (l.flatMap opL)) (ho : ∀ b, v.ownBlock = some b → o2 b = some .ro) : LeftAt w o2 v l := by
  rcases h.2 with ⟨rfl, h2⟩ | ⟨g, cap, cur, rfl, _, h3, h4, h5, h6, h7⟩
  · exact .inl ⟨rfl, List.eq_nil_of_length_eq_zero h2⟩
  · refine .inr ⟨g, 0, cap, cur, cur.toList.drop (l.length * 4), rfl, h4, h5, ho g rfl, h3, ?_⟩
    rw [List.drop_zero, ← h7, List.take_append_drop]
set_option maxRecDepth 100000 in
set_option maxHeartbeats 4000000 in
theorem xcloneO_any {w : World} {ad : Option Addr} {c : Nat} {l : List OpR} (h : OpIn w ad c l) (hl : l.length ≤ 1000000) :
    Calls Tryz.prog 20 #[.slice ad l.length c] w fun e w' => ∃ ad' c', e = .returned (.slice ad' l.length c') ∧ w'.ownsRow 0 32 4 (.slice ad' l.length c') l.length (l.flatMap opL) ∧ Below w.heap.size w w' ∧ ∀ b, (Value.slice ad' l.length c').ownBlock = some b → w.heap.size ≤ b := by
  obtain ⟨i0, hi, hz0, hz1, hz2⟩ := info_parts info_op
  have hq : ∀ (w : World) (a : Option Addr) (n c n' c' : Nat), (binOp .eql 33 (.slice a n c) (.slice none n' c')).run Tryz.prog w = .ok (.bool a.isNone) w := fun w a n c n' c' => Lib.run_eql_slice_nil w _ _ a n c n' c' Tryz.underlying33
  rcases h.2 with ⟨rfl, rfl⟩ | ⟨b, off, rfl, hc⟩
  · have hl0 : l = [] := List.eq_nil_of_length_eq_zero (by have := h.1; omega)
    subst hl0
    go_enter Tryz.func20, Tryz.ntmps20
    go_wp2_with fail
    go_ret
    exact ⟨none, 0, rfl, World.ownsRow_nil _ _ _ _, Below.refl _ _, by simp [Value.ownBlock]⟩
  · have hnews : ∀ j u, (l.flatMap opL)[j]? = some u → (w.alloc (.cells #[] 32)).cell? ((⟨b, off, none⟩ : Addr).add j) = some u := by
      intro j u hu
      have hj : j < l.length * 4 := by rw [← opL_len]; exact (List.getElem?_eq_some_iff.1 hu).1
      have h3 := hc (j / 4) (by omega) (j % 4) (by omega)
      rw [← opL_flat l (by omega) (by omega), show j / 4 * 4 + j % 4 = j by omega, hu, show off + j / 4 * 4 + j % 4 = off + j by omega] at h3
      have hadd : (⟨b, off, none⟩ : Addr).add j = ⟨b, off + j, none⟩ := by unfold Addr.add; split <;> simp_all
      rw [hadd]
      exact (((Below.refl w.heap.size w).alloc (Nat.le_refl _) _).cell (World.block_lt_of_cell? w _ h3)).trans h3
    have hm : (w.alloc (.cells #[] 32)).ownsRow w.heap.size 32 4 (.slice (some ⟨w.heap.size, 0, none⟩) 0 0) 0 [] := World.ownsRow_made w #[] 0 (Nat.le_refl _) (by decide) rfl
    have H1 := Lib.hid hnews; clear hnews
    have H2 := Lib.hid hm; clear hm
    have HC := Lib.hid hc; clear hc h
    obtain ⟨n, hn⟩ : ∃ n, n = l.length := ⟨_, rfl⟩
    have HN := Lib.hid hn
    rw [← hn] at hl ⊢
    clear hn
    go_enter Tryz.func20, Tryz.ntmps20
    go_wp2_with (at_builtin; refine wpList_append_own _ rfl _ _ 33 rfl w.heap.size 32 i0 (.agg #[.int .i64 0, .int .i64 0, .int .i64 0, .int .i64 0]) 4 32 Tryz.underlying33 hi hz0 hz1 hz2 rfl (by decide) (.slice (some ⟨w.heap.size, 0, none⟩) 0 0) _ _ rfl H2.out (⟨b, off, none⟩ : Addr) n c (l.flatMap opL) rfl (by rw [opL_len, HN.out]) H1.out ?c2 ?c3 ?c4 ?c5 ?_)
    case c2 => intro u hu; obtain ⟨x, _, hx⟩ := List.mem_flatMap.1 hu; exact opL_one hx
    case c3 => unfold maxLen; omega
    case c4 => omega
    case c5 => simp
    intro v' w' hown hgrow _
    go_wp2
    go_ret
    have hb : Below w.heap.size w w' := (((Below.refl w.heap.size w).alloc (Nat.le_refl _) _).grown hgrow (by simp) (by intro k hk; simp [Value.ownBlock] at hk; omega))
    have hown : w'.ownsRow w.heap.size 32 4 v' n (l.flatMap opL) := by have h9 := hown; simpa using h9
    have hfm : ∃ ad' c', v' = .slice ad' n c' := by
      rcases hown.2 with ⟨rfl, h2⟩ | ⟨g, cap, cur, rfl, _⟩
      · exact ⟨none, 0, by rw [h2]⟩
      · exact ⟨_, _, rfl⟩
    obtain ⟨ad', c', rfl⟩ := hfm
    exact ⟨ad', c', rfl, ⟨hown.1, hown.2.imp id (fun ⟨g, cap, cur, a1, _, a3⟩ => ⟨g, cap, cur, a1, Nat.zero_le _, a3⟩)⟩, hb, fun b hb => (hown.lt b hb).1⟩
set_option maxRecDepth 100000 in
set_option maxHeartbeats 4000000 in
theorem xnotop_no (op : OpR) (hk : OpK op) (w : World) :
    Calls Tryz.prog 21 #[.agg #[.int .i64 op.kind, .int .i64 op.key, .int .i64 op.hi, .int .i64 op.val]] w fun e w' => e = .returned (.bool false) ∧ Below w.heap.size w w' := by
  have E0 := Lib.hid (heap_alloc_new w (.cells #[.int .i64 op.kind, .int .i64 op.key, .int .i64 op.hi, .int .i64 op.val] 32))
  have B0 := Lib.hid ((Below.refl w.heap.size w).alloc (Nat.le_refl _) (.cells #[.int .i64 op.kind, .int .i64 op.key, .int .i64 op.hi, .int .i64 op.val] 32))
  have MO := Lib.hid (xmayop_yes op hk (w.alloc (.cells #[.int .i64 op.kind, .int .i64 op.key, .int .i64 op.hi, .int .i64 op.val] 32)))
  have c0 := cell_blk (i := 0) E0.out rfl
  have c1 := cell_blk (i := 1) E0.out rfl
  have c2 := cell_blk (i := 2) E0.out rfl
  have c3 := cell_blk (i := 3) E0.out rfl
  go_enter Tryz.func21, Tryz.ntmps21
  go_wp2_with fail
  refine MO.out.mono ?_
  rintro e w2 ⟨rfl, b2⟩
  clear c0 c1 c2 c3
  go_wp2_with fail
  go_ret
  exact ⟨rfl, B0.out.trans (b2.mono B0.out.size)⟩
set_option maxRecDepth 100000 in
set_option maxHeartbeats 4000000 in
theorem xindexO_no {w : World} {ad : Option Addr} {c : Nat} {l : List OpR} (h : OpIn w ad c l) (hl : l.length ≤ 1000000) (hk : ∀ o ∈ l, OpK o) :
    Calls Tryz.prog 40 #[.slice ad l.length c, .func (.func 21) #[] #[]] w fun e w' => e = .returned (.int .i64 (-1)) ∧ Below w.heap.size w w' := by
  have HI := Lib.hid h
  have HK := Lib.hid hk
  clear h hk
  obtain ⟨n, hn⟩ : ∃ n, n = l.length := ⟨_, rfl⟩
  have HN := Lib.hid hn
  rw [← hn] at hl ⊢
  clear hn
  go_enter Tryz.func40, Tryz.ntmps40
  go_wp2_with fail
  go_loopw [8] (fun i wr => ∃ k : Nat, k ≤ n ∧ i = .int .i64 k ∧ Hid (Below w.heap.size w wr)) (fun i _ => n - (intOf i).toNat)
  case atStart => exact ⟨0, Nat.zero_le _, rfl, Lib.hid (Below.refl _ _)⟩
  case round =>
    obtain ⟨k, hk, rfl, HB⟩ := hrel
    by_cases hlt : k < n
    · have hin := HI.out.later HB.out
      obtain ⟨b, off, rfl, hc⟩ : ∃ b off, ad = some ⟨b, off, none⟩ ∧ ∀ j, j < l.length → ∀ k, k < 4 → wr.cell? ⟨b, off + j * 4 + k, none⟩ = (opL (l.getD j op0))[k]? := by
        rcases hin.2 with ⟨_, h2⟩ | h2
        · have := hin.1; have := HN.out; omega
        · exact h2
      obtain ⟨op, hop⟩ : ∃ op, op = l.getD k op0 := ⟨_, rfl⟩
      have hko : OpK op := by rw [hop, List.getD_eq_getElem?_getD, List.getElem?_eq_getElem (by rw [← HN.out]; exact hlt)]; exact HK.out _ (List.getElem_mem _)
      have c0 : wr.cell? ⟨b, off + k * 4, none⟩ = some (.int .i64 op.kind) := by have h3 := hc k (by rw [← HN.out]; exact hlt) 0 (by omega); rw [← hop] at h3; exact h3
      have c1 : wr.cell? ⟨b, off + k * 4 + 1, none⟩ = some (.int .i64 op.key) := by have h3 := hc k (by rw [← HN.out]; exact hlt) 1 (by omega); rw [← hop] at h3; exact h3
      have c2 : wr.cell? ⟨b, off + k * 4 + 2, none⟩ = some (.int .i64 op.hi) := by have h3 := hc k (by rw [← HN.out]; exact hlt) 2 (by omega); rw [← hop] at h3; exact h3
      have c3 : wr.cell? ⟨b, off + k * 4 + 3, none⟩ = some (.int .i64 op.val) := by have h3 := hc k (by rw [← HN.out]; exact hlt) 3 (by omega); rw [← hop] at h3; exact h3
      have NO := Lib.hid (xnotop_no op hko wr)
      have q0 : ¬ ((k : Int) < 0) := by omega
      have q1 : ¬ ((n : Int) ≤ (k : Int)) := by omega
      clear hin hc hop hko
      go_wp2_with fail
      refine NO.out.mono ?_
      rintro e w2 ⟨rfl, b2⟩
      have B2 := Lib.hid (HB.out.trans (b2.mono HB.out.size))
      clear c0 c1 c2 c3 b2
      go_wp2_with fail
      go_roundw
      case rel => exact ⟨k + 1, by omega, by go_num, B2⟩
      case measure => simp [intOf]; omega
    · go_wp2_with fail
      go_ret
      exact ⟨rfl, HB.out⟩
set_option maxRecDepth 100000 in
set_option maxHeartbeats 4000000 in
theorem xdeleteO_no {w : World} {ad : Option Addr} {c : Nat} {l : List OpR} (h : OpIn w ad c l) (hl : l.length ≤ 1000000) (hk : ∀ o ∈ l, OpK o) :
    Calls Tryz.prog 19 #[.slice ad l.length c, .func (.func 21) #[] #[]] w fun e w' => e = .returned (.slice ad l.length c) ∧ Below w.heap.size w w' := by
  have IX := Lib.hid (xindexO_no h hl hk)
  obtain ⟨n, hn⟩ : ∃ n, n = l.length := ⟨_, rfl⟩
  rw [← hn] at IX ⊢
  clear h hk hl hn
  go_enter Tryz.func19, Tryz.ntmps19
  go_wp2_with fail
  refine IX.out.mono ?_
  rintro e w2 ⟨rfl, b2⟩
  have B2 := Lib.hid b2
  clear b2
  go_wp2_with fail
  go_ret
  exact ⟨rfl, B2.out⟩
set_option maxRecDepth 100000 in
set_option maxHeartbeats 4000000 in
theorem xfirstO_all {w : World} {ad : Option Addr} {n c m : Nat} (hn : n ≤ m) (hm : m ≤ 1000000) (hc : n ≤ c) :
    Calls Tryz.prog 18 #[.slice ad n c, .int .i64 (m : Int)] w fun e w' => e = .returned (.slice ad n c) ∧ w = w' := by
  have q0 : ¬ ((m : Int) < (n : Int)) := by omega
  have q1 : ¬ ((n : Int) < 0) := by omega
  have q2 : min (m : Int) (n : Int) = n := by omega
  have q3 : ¬ ((c : Int) < (n : Int)) := by omega
  go_enter Tryz.func18, Tryz.ntmps18
  go_wp2_with fail
  · go_ret
    exact ⟨rfl, rfl⟩
  · have e : n = m := by omega
    subst e
    go_ret
    exact ⟨rfl, rfl⟩
set_option maxRecDepth 100000 in
set_option maxHeartbeats 4000000 in
theorem xfirstI_all {w : World} {ad : Option Addr} {n c m : Nat} (hn : n ≤ m) (hm : m ≤ 1000000) (hc : n ≤ c) :
    Calls Tryz.prog 22 #[.slice ad n c, .int .i64 (m : Int)] w fun e w' => e = .returned (.slice ad n c) ∧ w = w' := by
  have q0 : ¬ ((m : Int) < (n : Int)) := by omega
  have q1 : ¬ ((n : Int) < 0) := by omega
  have q2 : min (m : Int) (n : Int) = n := by omega
  have q3 : ¬ ((c : Int) < (n : Int)) := by omega
  go_enter Tryz.func22, Tryz.ntmps22
  go_wp2_with fail
  · go_ret
    exact ⟨rfl, rfl⟩
  · have e : n = m := by omega
    subst e
    go_ret
    exact ⟨rfl, rfl⟩
set_option maxRecDepth 100000 in
set_option maxHeartbeats 4000000 in
theorem xfirstP_all {w : World} {ad : Option Addr} {n c m : Nat} (hn : n ≤ m) (hm : m ≤ 1000000) (hc : n ≤ c) :
    Calls Tryz.prog 15 #[.slice ad n c, .int .i64 (m : Int)] w fun e w' => e = .returned (.slice ad n c) ∧ w = w' := by
  have q0 : ¬ ((m : Int) < (n : Int)) := by omega
  have q1 : ¬ ((n : Int) < 0) := by omega
  have q2 : min (m : Int) (n : Int) = n := by omega
  have q3 : ¬ ((c : Int) < (n : Int)) := by omega
  go_enter Tryz.func15, Tryz.ntmps15
  go_wp2_with fail
  · go_ret
    exact ⟨rfl, rfl⟩
  · have e : n = m := by omega
    subst e
    go_ret
    exact ⟨rfl, rfl⟩
theorem modulo_eq (a : Int) (n : Nat) (hn : 1 ≤ n) (hn2 : n ≤ 1000) : (wrap64 (a.tmod n + n)).tmod n = (((a % (n : Int)).toNat : Nat) : Int) := by
  have h1 : a.tmod n = a - n * a.tdiv n := by have := Int.tmod_add_mul_tdiv a n; omega
  have h2 : a.tmod n < n := Int.tmod_lt_of_pos a (by omega)
  have h3 : -(n : Int) < a.tmod n := by
    have := Int.tmod_lt_of_pos (-a) (show (0 : Int) < n by omega)
    rw [Int.neg_tmod] at this
    omega
  have h4 : wrap64 (a.tmod n + n) = a.tmod n + n := by
    generalize a.tmod n = x at h2 h3
    unfold wrap64; omega
  rw [h4, Int.tmod_eq_emod_of_nonneg (by omega)]
  have h5 : (a.tmod n + n) % (n : Int) = a % n := by
    rw [h1, Int.add_emod_right, Int.sub_mul_emod_self_left]
  rw [h5]
  have := Int.emod_nonneg a (show (n : Int) ≠ 0 by omega)
  omega
set_option maxRecDepth 100000 in
set_option maxHeartbeats 4000000 in
theorem xmodulo_any (w : World) (a : Int) (n : Nat) (hn : 1 ≤ n) (hn2 : n ≤ 1000) (ha : -9223372036854775808 ≤ a ∧ a ≤ 9223372036854775807) :
    Calls Tryz.prog 23 #[.int .i64 a, .int .i64 (n : Int)] w fun e w' => e = .returned (.int .i64 (((a % (n : Int)).toNat : Nat) : Int)) ∧ w = w' := by
  have q0 : ((n : Int) == 0) = false := by rw [beq_eq_false_iff_ne]; omega
  have q1 : ¬ ((n : Int) = 0) := by omega
  go_enter Tryz.func23, Tryz.ntmps23
  go_wp2_with fail
  go_ret
  exact ⟨congrArg (fun x => Ending.returned (Value.int .i64 x)) (modulo_eq a n hn hn2), rfl⟩
end Go.Proofs.YtghjnkfocjjlnaaGreat
