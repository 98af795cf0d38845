/- The walks of High, With and Pairs. -/
import Derived.Test.YtkcfkanfdbejiaaListW
import Derived.Test.YtkcfkanfdbejiaaWMore
namespace Go.Proofs.Ytkcfkanfdbejiaa
set_option maxRecDepth 100000
open Go.RowKit Go.Proofs.Ytkcfkanfdbejiaa.Mix Go.Proofs.YtkcfkanfdbejiaaW.PrintWords Go.Proofs.YtkcfkanfdbejiaaW.PrintLast
set_option linter.unusedSimpArgs false
set_option linter.unusedVariables false

theorem info_pair : (Try.prog.info? 24).map (fun i => (i.zero, i.size, i.bytes)) = some (some (.agg #[.int .i64 0, .int .i64 0]), 2, 16) := by kernel_rfl
theorem cutP_to (A : Option Addr) (n c m : Nat) (hm : m ≤ n) (hc : n ≤ c) : ∀ W : World, (Instr.slice 22 (.slice A n c) none (some (.int .i64 (m : Int))) none).run Try.prog W = .ok (.slice A m c) W := by
  obtain ⟨i0, hi, _, _, _⟩ := info_parts info_pair
  have := cut_to (P := Try.prog) 22 24 .i64 Try.underlying22 hi A n c (m : Int) (by omega) (by omega) hc
  rw [Int.toNat_natCast] at this
  exact this
theorem cutP_from (A : Option Addr) (n c m : Nat) (hm : m ≤ n) : ∀ W : World, (Instr.slice 22 (.slice A n c) (some (.int .i64 (m : Int))) none none).run Try.prog W = .ok (.slice (if c = m then A else A.map (·.add (m * 2))) (n - m) (c - m)) W := by
  obtain ⟨i0, hi, _, hsz, _⟩ := info_parts info_pair
  have := cut_from (P := Try.prog) 22 24 .i64 Try.underlying22 hi 2 hsz A n c (m : Int) (by omega) (by omega)
  rw [Int.toNat_natCast] at this
  exact this
theorem PIn.take {w : World} {ad : Option Addr} {c : Nat} {l : List Pr} (h : PIn w ad c l) (m : Nat) : PIn w ad c (l.take m) := by
  refine ⟨?_, by rw [List.length_take]; have := h.room; omega, h.most⟩
  rcases h.at_ with rfl | ⟨b, off, rfl, hc⟩
  · exact .inl (by simp)
  · refine .inr ⟨b, off, rfl, fun j hj => ?_⟩
    rw [List.length_take] at hj
    rw [List.getElem_take]
    exact hc j (by omega)
theorem PIn.drop {w : World} {ad : Option Addr} {c : Nat} {l : List Pr} (h : PIn w ad c l) (m : Nat) (hm : m ≤ l.length) : PIn w (if c = m then ad else ad.map (·.add (m * 2))) (c - m) (l.drop m) := by
  have hr := h.room
  refine ⟨?_, by rw [List.length_drop]; omega, by have := h.most; omega⟩
  by_cases e : c = m
  · exact .inl (List.drop_of_length_le (by omega))
  · rw [if_neg e]
    rcases h.at_ with rfl | ⟨b, off, rfl, hc⟩
    · exact .inl (by simp)
    · refine .inr ⟨b, off + m * 2, ?_, fun j hj => ?_⟩
      · have : (⟨b, off, none⟩ : Addr).add (m * 2) = ⟨b, off + m * 2, none⟩ := by unfold Addr.add; split <;> simp_all
        simp [this]
      · rw [List.length_drop] at hj
        rw [List.getElem_drop]
        obtain ⟨h1, h2⟩ := hc (m + j) (by omega)
        rw [show off + m * 2 + j * 2 = off + (m + j) * 2 by omega]
        exact ⟨h1, h2⟩

theorem sub_from {ad : Option Addr} {c : Nat} {l : List Pr} (m : Nat) (hm : m ≤ l.length) : ∃ A2 c2 n2, n2 = (l.drop m).length ∧
    (∀ W : World, (Instr.slice 22 (.slice ad l.length c) (some (.int .i64 (m : Int))) none none).run Try.prog W = .ok (.slice A2 n2 c2) W) ∧ ∀ w, PIn w ad c l → PIn w A2 c2 (l.drop m) :=
  ⟨_, _, _, rfl, fun W => by rw [cutP_from ad l.length c m hm W, List.length_drop], fun w h => h.drop m hm⟩

set_option maxRecDepth 100000 in
set_option maxHeartbeats 4000000 in
theorem high_any (n : Nat) : ∀ (W : World) (ad : Option Addr) (c : Nat) (l : List Pr), l.length ≤ n → l.length ≤ 1000000 → PIn W ad c l →
    Calls Try.prog 26 #[.slice ad l.length c] W fun e w' => e = .returned (.int .i64 (hgt l)) ∧ Below W.heap.size W w' := by
  induction n with
  | zero =>
    intro W ad c l hn _ hl
    have h0 : l = [] := List.eq_nil_of_length_eq_zero (by omega)
    subst h0
    have ht := top_any W hl
    rw [show top ([] : List Pr) = -1 from rfl] at ht
    rw [show hgt ([] : List Pr) = 0 from rfl]
    have HT := Lib.hid ht; clear ht hl
    go_enter Try.func26, Try.ntmps26
    go_wp2_with fail
    refine HT.out.mono ?_
    rintro e w1 ⟨rfl, b1⟩
    have B1 := Lib.hid b1; clear b1
    go_wp2_with fail
    go_ret
    exact ⟨rfl, B1.out⟩
  | succ n ih =>
    intro W ad c l hn hbig hl
    by_cases h0 : l = []
    · subst h0
      exact ih W ad c [] (by simp) (by simp) hl
    · have hpos : 0 < l.length := List.length_pos_iff.2 h0
      obtain ⟨t1, t2, t3⟩ := top_bd l
      obtain ⟨m, hm⟩ : ∃ m : Nat, top l = m := ⟨(top l).toNat, by have := t3 hpos; omega⟩
      have hml : m < l.length := by omega
      have ht := top_any W hl
      have hroom := hl.room
      have hh : hgt l = 1 + max (hgt (l.take m)) (hgt (l.drop (m + 1))) := by
        rw [hgt_eq, hm, if_neg (by omega), Int.toNat_natCast]
      rw [hm] at ht
      have hc1 : ∀ (w1 : World), Below W.heap.size W w1 → Calls Try.prog 26 #[.slice ad m c] w1 fun e w' => e = .returned (.int .i64 (hgt (l.take m))) ∧ Below w1.heap.size w1 w' := fun w1 hb => by
        have := ih w1 ad c (l.take m) (by rw [List.length_take]; omega) (by rw [List.length_take]; omega) ((hl.later hb).take m)
        rw [show (l.take m).length = m by rw [List.length_take]; omega] at this
        exact this
      obtain ⟨A2, c2, n2, hn2, hcut2, hP2⟩ := sub_from (ad := ad) (c := c) (m + 1) (show m + 1 ≤ l.length by omega)
      have hc2 : ∀ (w1 : World), Below W.heap.size W w1 → Calls Try.prog 26 #[.slice A2 n2 c2] w1 fun e w' => e = .returned (.int .i64 (hgt (l.drop (m + 1)))) ∧ Below w1.heap.size w1 w' := fun w1 hb => by
        have := ih w1 _ _ (l.drop (m + 1)) (by rw [List.length_drop]; omega) (by rw [List.length_drop]; omega) (hP2 _ (hl.later hb))
        rw [← hn2] at this
        exact this
      have hb1 := hgt_le (l.take m)
      have hb2 := hgt_le (l.drop (m + 1))
      rw [List.length_take] at hb1
      rw [List.length_drop] at hb2
      generalize hgt (l.take m) = x at hh hc1 hb1
      generalize hgt (l.drop (m + 1)) = y at hh hc2 hb2
      have hx : x ≤ 1000000 := by omega
      have hy : y ≤ 1000000 := by omega
      have hcut1 := cutP_to ad l.length c m (by omega) hroom
      have e1 : ((m + 1 : Nat) : Int) = (m : Int) + 1 := by omega
      rw [e1] at hcut2
      rw [hh]
      clear hh hm t1 t2 t3 hb1 hb2 h0 e1 hn2 hP2
      have HT := Lib.hid ht; clear ht hl
      have w64 : IntKind.i64.wrap ((m : Int) + 1) = (m : Int) + 1 := IntWalk.i64_in _ (by omega)
      rcases Nat.lt_or_ge x y with hlt | hge
      · have hmx : ((1 + max x y : Nat) : Int) = 1 + (y : Int) := by omega
        rw [hmx]
        have hxy : (x : Int) < (y : Int) := by omega
        have w65 : IntKind.i64.wrap (1 + (y : Int)) = 1 + (y : Int) := IntWalk.i64_in _ (by omega)
        have W66 := Lib.hid (show wrap64 (1 + (y : Int)) = 1 + (y : Int) by unfold wrap64; omega)
        clear hmx hlt
        go_enter Try.func26, Try.ntmps26
        go_wp2_with fail
        refine HT.out.mono ?_
        rintro e w1 ⟨rfl, b1⟩
        have HC1 := Lib.hid (fun (w2 : World) (hb : Below w1.heap.size w1 w2) => hc1 w2 (b1.trans (hb.mono b1.size)))
        have HC2 := Lib.hid (fun (w2 : World) (hb : Below w1.heap.size w1 w2) => hc2 w2 (b1.trans (hb.mono b1.size)))
        have B1 := Lib.hid b1; clear b1 hc1 hc2 ih
        go_wp2_with fail
        refine start_ (n := 12) (S := fun w' => True) (ds := []) #[false, false, false, false, false, false, false, false, false, false, false, false] (by kernel_rfl) rfl rfl trivial (fun hHeld => ?_)
        refine pure_ (i := 0) (N := some 8) (v := ?_) (a' := ?_) #[true, false, false, false, false, false, false, false, false, false, false, false] rfl rfl (by kernel_rfl) (fun _ _ _ h => h) (Or.inl ⟨by rfl, ?_⟩) ?_ ?_
        rotate_left
        · intro w'
          go_simp
          with_reducible rfl
        rotate_left
        · simp only [Act.put, List.setIfInBounds_toArray, List.set_cons_zero, List.set_cons_succ, i64_w, i32_w]
          rfl
        refine pure_ (i := 1) (N := some 9) (v := ?_) (a' := ?_) #[true, true, false, false, false, false, false, false, false, false, false, false] rfl rfl (by kernel_rfl) (fun _ _ _ h => h) (Or.inl ⟨by rfl, ?_⟩) ?_ ?_
        rotate_left
        · intro w'
          go_simp
          with_reducible rfl
        rotate_left
        · simp only [Act.put, List.setIfInBounds_toArray, List.set_cons_zero, List.set_cons_succ, i64_w, i32_w]
          rfl
        refine pure_ (i := 2) (N := some 10) (v := ?_) (a' := ?_) #[true, true, true, false, false, false, false, false, false, false, false, false] rfl rfl (by kernel_rfl) (fun _ _ _ h => h) (Or.inl ⟨by rfl, ?_⟩) ?_ ?_
        rotate_left
        · intro w'
          go_simp
          with_reducible rfl
        rotate_left
        · simp only [Act.put, List.setIfInBounds_toArray, List.set_cons_zero, List.set_cons_succ, i64_w, i32_w]
          rfl
        refine pure_ (i := 4) (N := some 12) (v := ?_) (a' := ?_) #[true, true, true, false, true, false, false, false, false, false, false, false] rfl rfl (by kernel_rfl) (fun _ _ _ h => h) (Or.inl ⟨by rfl, ?_⟩) ?_ ?_
        rotate_left
        · intro w'
          go_simp
          with_reducible rfl
        rotate_left
        · simp only [Act.put, List.setIfInBounds_toArray, List.set_cons_zero, List.set_cons_succ, i64_w, i32_w]
          rfl
        refine pure_ (i := 5) (N := some 13) (v := ?_) (a' := ?_) #[true, true, true, false, true, true, false, false, false, false, false, false] rfl rfl (by kernel_rfl) (fun _ _ _ h => h) (Or.inl ⟨by rfl, ?_⟩) ?_ ?_
        rotate_left
        · intro w'
          go_simp
          with_reducible rfl
        rotate_left
        · simp only [Act.put, List.setIfInBounds_toArray, List.set_cons_zero, List.set_cons_succ, i64_w, i32_w]
          rfl
        refine pure_ (i := 6) (N := some 14) (v := ?_) (a' := ?_) #[true, true, true, false, true, true, true, false, false, false, false, false] rfl rfl (by kernel_rfl) (fun _ _ _ h => h) (Or.inl ⟨by rfl, ?_⟩) ?_ ?_
        rotate_left
        · intro w'
          go_simp
          with_reducible rfl
        rotate_left
        · simp only [Act.put, List.setIfInBounds_toArray, List.set_cons_zero, List.set_cons_succ, i64_w, i32_w]
          rfl
        refine pure_ (i := 7) (N := some 15) (v := ?_) (a' := ?_) #[true, true, true, false, true, true, true, true, false, false, false, false] rfl rfl (by kernel_rfl) (fun _ _ _ h => h) (Or.inl ⟨by rfl, ?_⟩) ?_ ?_
        rotate_left
        · intro w'
          go_simp
          with_reducible rfl
        rotate_left
        · simp only [Act.put, List.setIfInBounds_toArray, List.set_cons_zero, List.set_cons_succ, i64_w, i32_w]
          rfl
        refine one_ (i := 3) (N := some 11) #[true, true, true, true, true, true, true, true, false, false, false, false] rfl rfl (by kernel_rfl) (by decide) (fun K hK => ?_)
        refine goes_ Try.func26 (by kernel_rfl) rfl #[.slice ad m c] (by rfl) rfl rfl (by simp only [List.map_toArray, List.map_cons, List.map_nil]; rfl) ?_
        with_reducible refine (HC1.out _ ((Below.refl _ _).drew)).mono ?_
        rintro e w5 ⟨rfl, b5⟩
        refine ⟨_, rfl, ?_⟩
        have B5 := Lib.hid (((Below.refl w1.heap.size w1).drew).trans b5); clear b5
        refine hK.out _ _ trivial (fun hHeld => ?_)
        clear hK K
        refine norm_ (a' := ?_) ?_ ?_
        rotate_left
        · show Act.put _ (some 11) _ = _
          simp only [Act.put, List.setIfInBounds_toArray, List.set_cons_zero, List.set_cons_succ, i64_w, i32_w]
          rfl
        refine one_ (i := 8) (N := some 16) #[true, true, true, true, true, true, true, true, true, false, false, false] rfl rfl (by kernel_rfl) (by decide) (fun K hK => ?_)
        refine goes_ Try.func26 (by kernel_rfl) rfl #[.slice A2 n2 c2] (by rfl) rfl rfl (by simp only [List.map_toArray, List.map_cons, List.map_nil]; rfl) ?_
        with_reducible refine (HC2.out _ B5.out).mono ?_
        rintro e w6 ⟨rfl, b6⟩
        refine ⟨_, rfl, ?_⟩
        have B6 := Lib.hid (B5.out.trans (b6.mono B5.out.size)); clear b6
        refine hK.out _ _ trivial (fun hHeld => ?_)
        clear hK K
        refine norm_ (a' := ?_) ?_ ?_
        rotate_left
        · show Act.put _ (some 16) _ = _
          simp only [Act.put, List.setIfInBounds_toArray, List.set_cons_zero, List.set_cons_succ, i64_w, i32_w]
          rfl
        refine pure_ (i := 9) (N := some 17) (v := ?_) (a' := ?_) #[true, true, true, true, true, true, true, true, true, true, false, false] rfl rfl (by kernel_rfl) (fun _ _ _ h => h) (Or.inl ⟨by rfl, ?_⟩) ?_ ?_
        rotate_left
        · intro w'
          go_simp
          with_reducible rfl
        rotate_left
        · simp only [Act.put, List.setIfInBounds_toArray, List.set_cons_zero, List.set_cons_succ, i64_w, i32_w]
          rfl
        refine pure_ (i := 10) (N := some 18) (v := ?_) (a' := ?_) #[true, true, true, true, true, true, true, true, true, true, true, false] rfl rfl (by kernel_rfl) (fun _ _ _ h => h) (Or.inl ⟨by rfl, ?_⟩) ?_ ?_
        rotate_left
        · intro w'
          go_simp
          with_reducible rfl
        rotate_left
        · simp only [Act.put, List.setIfInBounds_toArray, List.set_cons_zero, List.set_cons_succ, i64_w, i32_w]
          rfl
        refine pure_ (i := 11) (N := some 2) (v := ?_) (a' := ?_) #[true, true, true, true, true, true, true, true, true, true, true, true] rfl rfl (by kernel_rfl) (fun _ _ _ h => h) (Or.inl ⟨by rfl, ?_⟩) ?_ ?_
        rotate_left
        · intro w'
          go_simp
          with_reducible rfl
        rotate_left
        · simp only [Act.put, List.setIfInBounds_toArray, List.set_cons_zero, List.set_cons_succ, i64_w, i32_w]
          rfl
        refine done_ (by kernel_rfl) ?_
        go_wp2
        go_ret
        exact ⟨by first | rfl | exact congrArg (fun n => Ending.returned (Value.int .i64 n)) W66.out, B1.out.trans (B6.out.mono B1.out.size)⟩
      · have hmx : ((1 + max x y : Nat) : Int) = 1 + (x : Int) := by omega
        rw [hmx]
        have hxy : ¬ (x : Int) < (y : Int) := by omega
        have w65 : IntKind.i64.wrap (1 + (x : Int)) = 1 + (x : Int) := IntWalk.i64_in _ (by omega)
        have W66 := Lib.hid (show wrap64 (1 + (x : Int)) = 1 + (x : Int) by unfold wrap64; omega)
        clear hmx hge
        go_enter Try.func26, Try.ntmps26
        go_wp2_with fail
        refine HT.out.mono ?_
        rintro e w1 ⟨rfl, b1⟩
        have HC1 := Lib.hid (fun (w2 : World) (hb : Below w1.heap.size w1 w2) => hc1 w2 (b1.trans (hb.mono b1.size)))
        have HC2 := Lib.hid (fun (w2 : World) (hb : Below w1.heap.size w1 w2) => hc2 w2 (b1.trans (hb.mono b1.size)))
        have B1 := Lib.hid b1; clear b1 hc1 hc2 ih
        go_wp2_with fail
        refine start_ (n := 12) (S := fun w' => True) (ds := []) #[false, false, false, false, false, false, false, false, false, false, false, false] (by kernel_rfl) rfl rfl trivial (fun hHeld => ?_)
        refine pure_ (i := 0) (N := some 8) (v := ?_) (a' := ?_) #[true, false, false, false, false, false, false, false, false, false, false, false] rfl rfl (by kernel_rfl) (fun _ _ _ h => h) (Or.inl ⟨by rfl, ?_⟩) ?_ ?_
        rotate_left
        · intro w'
          go_simp
          with_reducible rfl
        rotate_left
        · simp only [Act.put, List.setIfInBounds_toArray, List.set_cons_zero, List.set_cons_succ, i64_w, i32_w]
          rfl
        refine pure_ (i := 1) (N := some 9) (v := ?_) (a' := ?_) #[true, true, false, false, false, false, false, false, false, false, false, false] rfl rfl (by kernel_rfl) (fun _ _ _ h => h) (Or.inl ⟨by rfl, ?_⟩) ?_ ?_
        rotate_left
        · intro w'
          go_simp
          with_reducible rfl
        rotate_left
        · simp only [Act.put, List.setIfInBounds_toArray, List.set_cons_zero, List.set_cons_succ, i64_w, i32_w]
          rfl
        refine pure_ (i := 2) (N := some 10) (v := ?_) (a' := ?_) #[true, true, true, false, false, false, false, false, false, false, false, false] rfl rfl (by kernel_rfl) (fun _ _ _ h => h) (Or.inl ⟨by rfl, ?_⟩) ?_ ?_
        rotate_left
        · intro w'
          go_simp
          with_reducible rfl
        rotate_left
        · simp only [Act.put, List.setIfInBounds_toArray, List.set_cons_zero, List.set_cons_succ, i64_w, i32_w]
          rfl
        refine pure_ (i := 4) (N := some 12) (v := ?_) (a' := ?_) #[true, true, true, false, true, false, false, false, false, false, false, false] rfl rfl (by kernel_rfl) (fun _ _ _ h => h) (Or.inl ⟨by rfl, ?_⟩) ?_ ?_
        rotate_left
        · intro w'
          go_simp
          with_reducible rfl
        rotate_left
        · simp only [Act.put, List.setIfInBounds_toArray, List.set_cons_zero, List.set_cons_succ, i64_w, i32_w]
          rfl
        refine pure_ (i := 5) (N := some 13) (v := ?_) (a' := ?_) #[true, true, true, false, true, true, false, false, false, false, false, false] rfl rfl (by kernel_rfl) (fun _ _ _ h => h) (Or.inl ⟨by rfl, ?_⟩) ?_ ?_
        rotate_left
        · intro w'
          go_simp
          with_reducible rfl
        rotate_left
        · simp only [Act.put, List.setIfInBounds_toArray, List.set_cons_zero, List.set_cons_succ, i64_w, i32_w]
          rfl
        refine pure_ (i := 6) (N := some 14) (v := ?_) (a' := ?_) #[true, true, true, false, true, true, true, false, false, false, false, false] rfl rfl (by kernel_rfl) (fun _ _ _ h => h) (Or.inl ⟨by rfl, ?_⟩) ?_ ?_
        rotate_left
        · intro w'
          go_simp
          with_reducible rfl
        rotate_left
        · simp only [Act.put, List.setIfInBounds_toArray, List.set_cons_zero, List.set_cons_succ, i64_w, i32_w]
          rfl
        refine pure_ (i := 7) (N := some 15) (v := ?_) (a' := ?_) #[true, true, true, false, true, true, true, true, false, false, false, false] rfl rfl (by kernel_rfl) (fun _ _ _ h => h) (Or.inl ⟨by rfl, ?_⟩) ?_ ?_
        rotate_left
        · intro w'
          go_simp
          with_reducible rfl
        rotate_left
        · simp only [Act.put, List.setIfInBounds_toArray, List.set_cons_zero, List.set_cons_succ, i64_w, i32_w]
          rfl
        refine one_ (i := 3) (N := some 11) #[true, true, true, true, true, true, true, true, false, false, false, false] rfl rfl (by kernel_rfl) (by decide) (fun K hK => ?_)
        refine goes_ Try.func26 (by kernel_rfl) rfl #[.slice ad m c] (by rfl) rfl rfl (by simp only [List.map_toArray, List.map_cons, List.map_nil]; rfl) ?_
        with_reducible refine (HC1.out _ ((Below.refl _ _).drew)).mono ?_
        rintro e w5 ⟨rfl, b5⟩
        refine ⟨_, rfl, ?_⟩
        have B5 := Lib.hid (((Below.refl w1.heap.size w1).drew).trans b5); clear b5
        refine hK.out _ _ trivial (fun hHeld => ?_)
        clear hK K
        refine norm_ (a' := ?_) ?_ ?_
        rotate_left
        · show Act.put _ (some 11) _ = _
          simp only [Act.put, List.setIfInBounds_toArray, List.set_cons_zero, List.set_cons_succ, i64_w, i32_w]
          rfl
        refine one_ (i := 8) (N := some 16) #[true, true, true, true, true, true, true, true, true, false, false, false] rfl rfl (by kernel_rfl) (by decide) (fun K hK => ?_)
        refine goes_ Try.func26 (by kernel_rfl) rfl #[.slice A2 n2 c2] (by rfl) rfl rfl (by simp only [List.map_toArray, List.map_cons, List.map_nil]; rfl) ?_
        with_reducible refine (HC2.out _ B5.out).mono ?_
        rintro e w6 ⟨rfl, b6⟩
        refine ⟨_, rfl, ?_⟩
        have B6 := Lib.hid (B5.out.trans (b6.mono B5.out.size)); clear b6
        refine hK.out _ _ trivial (fun hHeld => ?_)
        clear hK K
        refine norm_ (a' := ?_) ?_ ?_
        rotate_left
        · show Act.put _ (some 16) _ = _
          simp only [Act.put, List.setIfInBounds_toArray, List.set_cons_zero, List.set_cons_succ, i64_w, i32_w]
          rfl
        refine pure_ (i := 9) (N := some 17) (v := ?_) (a' := ?_) #[true, true, true, true, true, true, true, true, true, true, false, false] rfl rfl (by kernel_rfl) (fun _ _ _ h => h) (Or.inl ⟨by rfl, ?_⟩) ?_ ?_
        rotate_left
        · intro w'
          go_simp
          with_reducible rfl
        rotate_left
        · simp only [Act.put, List.setIfInBounds_toArray, List.set_cons_zero, List.set_cons_succ, i64_w, i32_w]
          rfl
        refine pure_ (i := 10) (N := some 18) (v := ?_) (a' := ?_) #[true, true, true, true, true, true, true, true, true, true, true, false] rfl rfl (by kernel_rfl) (fun _ _ _ h => h) (Or.inl ⟨by rfl, ?_⟩) ?_ ?_
        rotate_left
        · intro w'
          go_simp
          with_reducible rfl
        rotate_left
        · simp only [Act.put, List.setIfInBounds_toArray, List.set_cons_zero, List.set_cons_succ, i64_w, i32_w]
          rfl
        refine pure_ (i := 11) (N := some 2) (v := ?_) (a' := ?_) #[true, true, true, true, true, true, true, true, true, true, true, true] rfl rfl (by kernel_rfl) (fun _ _ _ h => h) (Or.inl ⟨by rfl, ?_⟩) ?_ ?_
        rotate_left
        · intro w'
          go_simp
          with_reducible rfl
        rotate_left
        · simp only [Act.put, List.setIfInBounds_toArray, List.set_cons_zero, List.set_cons_succ, i64_w, i32_w]
          rfl
        refine done_ (by kernel_rfl) ?_
        go_wp2
        go_ret
        exact ⟨by first | rfl | exact congrArg (fun n => Ending.returned (Value.int .i64 n)) W66.out, B1.out.trans (B6.out.mono B1.out.size)⟩

def cellsP (l : List Pr) : List Value := l.flatMap fun x => [.int .i64 x.1, .int .i64 x.2]
theorem cellsP_snoc (l : List Pr) (x : Pr) : cellsP (l ++ [x]) = cellsP l ++ [.int .i64 x.1, .int .i64 x.2] := by simp [cellsP]
theorem cellsP_at : ∀ (l : List Pr) (j : Nat) (hj : j < l.length), (cellsP l)[j * 2]? = some (.int .i64 (l[j]).1) ∧ (cellsP l)[j * 2 + 1]? = some (.int .i64 (l[j]).2)
  | x :: r, 0, _ => by simp [cellsP]
  | x :: r, j + 1, hj => by
    have h := cellsP_at r j (by simpa using hj)
    have e : cellsP (x :: r) = .int .i64 x.1 :: .int .i64 x.2 :: cellsP r := by simp [cellsP]
    rw [e, show (j + 1) * 2 = j * 2 + 1 + 1 by omega]
    simpa using h

/-- What With's loop keeps: the pairs gathered, in a row of its own; the pair's own box. -/
structure WRel (W wr : World) (p : Pr) (v : Value) (out : List Pr) : Prop where
  own : wr.ownsRow (W.heap.size + 1) 24 2 v out.length (cellsP out)
  box : wr.heap[W.heap.size]? = some (.cells #[.int .i64 p.1, .int .i64 p.2] 24 (0, 0))
  below : Below W.heap.size W wr
theorem WRel.lt {W wr : World} {p : Pr} {v : Value} {out : List Pr} (h : WRel W wr p v out) : W.heap.size < wr.heap.size := (Array.getElem?_eq_some_iff.1 h.box).1
theorem WRel.ne {W wr : World} {p : Pr} {v : Value} {out : List Pr} (h : WRel W wr p v out) (k : Nat) (hk : wr.heap.size ≤ k) : some k ≠ v.ownBlock := fun e => by have := (h.own.lt k e.symm).2; omega
theorem WRel.alloc {W wr : World} {p : Pr} {v : Value} {out : List Pr} (h : WRel W wr p v out) (o : Obj) : WRel W (wr.alloc o) p v out :=
  ⟨h.own.alloc o, (heap_alloc_old wr o h.lt).trans h.box, h.below.alloc (Nat.le_of_lt h.lt) o⟩
theorem WRel.grown {W wr w' : World} {p : Pr} {v v' : Value} {out : List Pr} (x : Pr) (h : WRel W wr p v out) (hg : wr.grownBy w' v.ownBlock)
    (ho : w'.ownsRow (W.heap.size + 1) 24 2 v' (out.length + 1) (cellsP out ++ [.int .i64 x.1, .int .i64 x.2])) : WRel W w' p v' (out ++ [x]) := by
  refine ⟨by rw [cellsP_snoc, List.length_append, List.length_singleton]; exact ho, ?_, h.below.grown hg (Nat.le_of_lt h.lt) (fun k hk => by have := (h.own.lt k hk).1; omega)⟩
  rw [hg.block _ h.lt (fun e => by have := (h.own.lt _ e.symm).1; omega)]
  exact h.box
theorem WRel.start (W : World) (p : Pr) : WRel W (W.alloc (.cells #[.int .i64 p.1, .int .i64 p.2] 24)) p (.slice none 0 0) [] :=
  ⟨World.ownsRow_nil _ _ _ _, heap_alloc_new W _, (Below.refl _ _).alloc (Nat.le_refl _) _⟩
/-- What is gathered, as a slice of pairs in new memory. -/
theorem WRel.gives {W wr : World} {p : Pr} {v : Value} {out : List Pr} (h : WRel W wr p v out) : ∃ ad c, v = .slice ad out.length c ∧ PIn wr ad c out ∧ (∀ x, ad = some x → W.heap.size ≤ x.block) := by
  rcases h.own.2 with ⟨rfl, h2⟩ | ⟨g, cap, cur, rfl, hb, hg, hc, hm, _⟩
  · have : out = [] := List.eq_nil_of_length_eq_zero h2
    subst this
    exact ⟨none, 0, rfl, ⟨.inl rfl, Nat.le_refl _, by decide⟩, by simp⟩
  · refine ⟨_, cap, rfl, ⟨.inr ⟨g, 0, rfl, fun j hj => ?_⟩, hc, hm⟩, fun x hx => by obtain rfl := Option.some.inj hx; show W.heap.size ≤ g; omega⟩
    obtain ⟨h1, h2⟩ := cellsP_at out j hj
    rw [Nat.zero_add, h.own.cellAt _ (by omega), h.own.cellAt _ (by omega)]
    exact ⟨h1, h2⟩
theorem news_pair (w : World) (x y : Int) : ∀ j u, [Value.int .i64 x, Value.int .i64 y][j]? = some u → (w.alloc (.cells #[.int .i64 x, .int .i64 y] 24)).cell? ((⟨w.heap.size, 0, none⟩ : Addr).add j) = some u := fun j u hu => by
  have hadd : (⟨w.heap.size, 0, none⟩ : Addr).add j = ⟨w.heap.size, j, none⟩ := by unfold Addr.add; split <;> simp_all
  rw [hadd]
  exact cell_blk (heap_alloc_new w _) (by simpa using hu)

theorem wp_app {P' : Array Oper} {rest : List Oper} {o : Oper} {a : Act} {Q : Exit → Act → World → Prop} {W w : World} {p y : Pr} {v : Value} {out : List Pr} {g : Nat} (hgd : o.guard = none) (s x : Operand)
    (ho : o.op = .call { callee := .builtin .append, args := #[s, x], argTypes := #[22, 22] }) (hs : a.eval s = v) (hx : a.eval x = .slice (some ⟨g, 0, none⟩) 1 1) (R : WRel W w p v out)
    (hg : w.heap[g]? = some (.cells #[.int .i64 y.1, .int .i64 y.2] 24 (0, 0))) (hlen : out.length ≤ 1000001)
    (h : ∀ v' w', WRel W w' p v' (out ++ [y]) → (∀ k o, w.heap[k]? = some o → some k ≠ v.ownBlock → w'.heap[k]? = some o) → w.heap.size ≤ w'.heap.size → wpList Try.prog P' Q rest (a.put o.dst v') w') :
    wpList Try.prog P' Q (o :: rest) a w := by
  obtain ⟨i0, hi, hz0, hz1, hz2⟩ := info_parts info_pair
  refine wpList_append_own w hgd s x 22 ho (W.heap.size + 1) 24 i0 (.agg #[.int .i64 0, .int .i64 0]) 2 16 Try.underlying22 hi hz0 hz1 hz2 rfl (by decide) v out.length (cellsP out) hs R.own ⟨g, 0, none⟩ 1 1 [.int .i64 y.1, .int .i64 y.2] hx rfl ?_ ?_ (by unfold maxLen; omega) (by omega) (Nat.succ_le_of_lt R.lt) ?_
  · intro j u hu
    have hadd : (⟨g, 0, none⟩ : Addr).add j = ⟨g, j, none⟩ := by unfold Addr.add; split <;> simp_all
    rw [hadd]
    exact cell_blk hg (by simpa using hu)
  · intro u hu
    simp at hu
    rcases hu with rfl | rfl <;> rfl
  · intro v' w' hown hgrow _
    exact h v' w' (R.grown y hgrow hown) (fun k o hk hne => (hgrow.block k (Array.getElem?_eq_some_iff.1 hk).1 hne).trans hk) hgrow.size

set_option maxRecDepth 100000 in
set_option maxHeartbeats 4000000 in
theorem with_any (W : World) {ad : Option Addr} {c : Nat} {l : List Pr} (hl : PIn W ad c l) (hbig : l.length ≤ 1000000) (p : Pr) :
    Calls Try.prog 35 #[.slice ad l.length c, .agg #[.int .i64 p.1, .int .i64 p.2]] W fun e w' => ∃ ad' c', e = .returned (.slice ad' (withP l p).length c') ∧ PIn w' ad' c' (withP l p) ∧ (∀ x, ad' = some x → W.heap.size ≤ x.block) ∧ Below W.heap.size W w' := by
  obtain ⟨i0, hi, hz0, hz1, hz2⟩ := info_parts info_pair
  have hlen : l.length ≤ 9223372036854775807 := by omega
  have HL := Lib.hid hl; clear hl
  have R0 := Lib.hid (WRel.start W p)
  obtain ⟨px, py⟩ := p
  go_enter Try.func35, Try.ntmps35
  go_wp2_with fail
  go_loopw [5, 6, 11] (fun hv d i wr => ∃ k : Nat, k ≤ l.length ∧ i = .int .i64 k ∧ d = .bool (withS (px, py) (l.take k)).2 ∧ Hid (WRel W wr (px, py) hv (withS (px, py) (l.take k)).1)) (fun _ _ i _ => l.length - (intOf i).toNat)
  case atStart => exact ⟨0, Nat.zero_le _, rfl, rfl, R0⟩
  case round =>
    obtain ⟨k, hk, rfl, rfl, HR⟩ := hrel
    have hz := HR.out.lt
    by_cases hlt : k < l.length
    · obtain ⟨b, off, rfl, d0, d1⟩ := HL.out.cell HR.out.below HL.out.lt hlt
      have hsn : withS (px, py) (l.take (k + 1)) = stepW (px, py) (withS (px, py) (l.take k)) l[k] := by
        rw [List.take_succ_eq_append_getElem hlt, withS_snoc]
      have hol := withS_len (px, py) (l.take k)
      rw [List.length_take] at hol
      generalize hx : l[k] = x at hsn d0 d1
      generalize hs : withS (px, py) (l.take k) = s at HR hsn hol ⊢
      obtain ⟨out, d⟩ := s
      obtain ⟨xk, xv⟩ := x
      simp only [] at d0 d1 hol HR ⊢
      have hbl : b < wr.heap.size := World.block_lt_of_cell? wr _ d0
      have bx0 := cell_blk (i := 0) HR.out.box rfl
      have bx1 := cell_blk (i := 1) HR.out.box rfl
      have hol2 : out.length ≤ 1000001 := by omega
      have hg1 : ((wr.alloc (.cells #[.int .i64 xk, .int .i64 xv] 24)).alloc (.cells #[.int .i64 px, .int .i64 py] 24)).heap[wr.heap.size + 1]? = some (.cells #[.int .i64 px, .int .i64 py] 24 (0, 0)) := by
        have := heap_alloc_new (wr.alloc (.cells #[.int .i64 xk, .int .i64 xv] 24)) (.cells #[.int .i64 px, .int .i64 py] 24)
        simpa using this
      have hg2 : ((wr.alloc (.cells #[.int .i64 xk, .int .i64 xv] 24)).alloc (.cells #[.int .i64 xk, .int .i64 xv] 24)).heap[wr.heap.size + 1]? = some (.cells #[.int .i64 xk, .int .i64 xv] 24 (0, 0)) := by
        have := heap_alloc_new (wr.alloc (.cells #[.int .i64 xk, .int .i64 xv] 24)) (.cells #[.int .i64 xk, .int .i64 xv] 24)
        simpa using this
      have hxb : ((wr.alloc (.cells #[.int .i64 xk, .int .i64 xv] 24)).alloc (.cells #[.int .i64 px, .int .i64 py] 24)).heap[wr.heap.size]? = some (.cells #[.int .i64 xk, .int .i64 xv] 24 (0, 0)) :=
        (heap_alloc_old (wr.alloc (.cells #[.int .i64 xk, .int .i64 xv] 24)) _ (by simp)).trans (heap_alloc_new wr _)
      have hvb := HR.out.ne wr.heap.size (Nat.le_refl _)
      have G1 := Lib.hid hg1; clear hg1
      have G2 := Lib.hid hg2; clear hg2
      have XB := Lib.hid hxb; clear hxb
      have VB := Lib.hid hvb; clear hvb
      have HX := Lib.hid hx; clear hx
      have HSN := Lib.hid hsn; clear hsn
      have HSS := Lib.hid hs; clear hs
      by_cases he : xk = px
      · subst he
        cases d with
        | false =>
          have E2 := Lib.hid (show withS (xk, py) (l.take (k + 1)) = (out ++ [(xk, py)], true) by rw [HSN.out]; simp [stepW])
          clear HSN
          go_wp2_with (at_builtin; refine wp_app (y := (xk, py)) rfl (.tmp 24) (.tmp 26) rfl rfl rfl ((HR.out.alloc _).alloc _) G1.out hol2 ?_; intro v1 w1 r1 k1 z1; have R1 := Lib.hid r1; clear r1; have c0 := cell_blk (i := 0) R1.out.box rfl; have c1 := cell_blk (i := 1) R1.out.box rfl; have xb1 := k1 _ _ XB.out VB.out; have y0 := cell_blk (i := 0) xb1 rfl; have y1 := cell_blk (i := 1) xb1 rfl; clear xb1 k1)
          go_roundw
          case rel => exact ⟨k + 1, by omega, by go_num, by rw [E2.out], by rw [E2.out]; exact R1⟩
          case measure => simp [intOf]; omega
        | true =>
          have E2 := Lib.hid (show withS (xk, py) (l.take (k + 1)) = (out, true) by rw [HSN.out]; simp [stepW])
          clear HSN
          have R1 := Lib.hid (HR.out.alloc (.cells #[.int .i64 xk, .int .i64 xv] 24))
          go_wp2_with fail
          go_roundw
          case rel => exact ⟨k + 1, by omega, by go_num, by rw [E2.out], by rw [E2.out]; exact R1⟩
          case measure => simp [intOf]; omega
      · have he1 : (xk == px) = false := beq_eq_false_iff_ne.2 he
        have he2 : (xk != px) = true := by rw [bne, he1]; rfl
        cases d with
        | true =>
          have E2 := Lib.hid (show withS (px, py) (l.take (k + 1)) = (out ++ [(xk, xv)], true) by rw [HSN.out]; simp [stepW, he])
          clear HSN he
          go_wp2_with (at_builtin; refine wp_app (y := (xk, xv)) rfl (.tmp 33) (.tmp 35) rfl rfl rfl ((HR.out.alloc _).alloc _) G2.out hol2 ?_; intro v1 w1 r1 k1 z1; have R1 := Lib.hid r1; clear r1 k1)
          go_roundw
          case rel => exact ⟨k + 1, by omega, by go_num, by rw [E2.out], by rw [E2.out]; exact R1⟩
          case measure => simp [intOf]; omega
        | false =>
          by_cases hle : px ≤ xk
          · have E2 := Lib.hid (show withS (px, py) (l.take (k + 1)) = (out ++ [(px, py)] ++ [(xk, xv)], true) by rw [HSN.out]; simp [stepW, he, hle])
            have hol3 : (out ++ [(px, py)]).length ≤ 1000001 := by
              have e1 : owes false = 1 := rfl
              rw [e1] at hol
              rw [List.length_append, List.length_singleton]; omega
            clear HSN he
            have HO3 := Lib.hid hol3; clear hol3
            go_wp2_with (first | (at_builtin; refine wp_app (y := (px, py)) rfl (.tmp 24) (.tmp 26) rfl rfl rfl ((HR.out.alloc _).alloc _) G1.out hol2 ?_; intro v1 w1 r1 k1 z1; have R1 := Lib.hid r1; clear r1; have c0 := cell_blk (i := 0) R1.out.box rfl; have c1 := cell_blk (i := 1) R1.out.box rfl; have xb1 := k1 _ _ XB.out VB.out; have y0 := cell_blk (i := 0) xb1 rfl; have y1 := cell_blk (i := 1) xb1 rfl; clear xb1 k1) | (at_builtin; refine wp_app (y := (xk, xv)) rfl (.tmp 33) (.tmp 35) rfl rfl rfl (R1.out.alloc _) (heap_alloc_new w1 (.cells #[.int .i64 xk, .int .i64 xv] 24)) HO3.out ?_; intro v2 w2 r2 k2 z2; have R2 := Lib.hid r2; clear r2 k2))
            go_roundw
            case rel => exact ⟨k + 1, by omega, by go_num, by rw [E2.out], by rw [E2.out]; exact R2⟩
            case measure => simp [intOf]; omega
          · have E2 := Lib.hid (show withS (px, py) (l.take (k + 1)) = (out ++ [(xk, xv)], false) by rw [HSN.out]; simp [stepW, he, hle])
            clear HSN he
            go_wp2_with (at_builtin; refine wp_app (y := (xk, xv)) rfl (.tmp 33) (.tmp 35) rfl rfl rfl ((HR.out.alloc _).alloc _) G2.out hol2 ?_; intro v1 w1 r1 k1 z1; have R1 := Lib.hid r1; clear r1 k1)
            go_roundw
            case rel => exact ⟨k + 1, by omega, by go_num, by rw [E2.out], by rw [E2.out]; exact R1⟩
            case measure => simp [intOf]; omega
    · have hkl : k = l.length := by omega
      subst hkl
      rw [List.take_length] at HR ⊢
      have hol := withS_len (px, py) l
      have hw : withP l (px, py) = if (withS (px, py) l).2 = true then (withS (px, py) l).1 else (withS (px, py) l).1 ++ [(px, py)] := rfl
      generalize hs : withS (px, py) l = s at HR hol hw ⊢
      obtain ⟨out, d⟩ := s
      simp only [] at hol hw HR ⊢
      have hol2 : out.length ≤ 1000001 := by omega
      have bx0 := cell_blk (i := 0) HR.out.box rfl
      have bx1 := cell_blk (i := 1) HR.out.box rfl
      have HSS := Lib.hid hs; clear hs
      cases d with
      | true =>
        have HW := Lib.hid (show withP l (px, py) = out by rw [hw]; rfl); clear hw
        go_wp2_with fail
        go_ret
        obtain ⟨ad', c', rfl, h1, h2⟩ := HR.out.gives
        exact ⟨ad', c', by rw [HW.out]; rfl, by rw [HW.out]; exact h1, h2, HR.out.below⟩
      | false =>
        have HW := Lib.hid (show withP l (px, py) = out ++ [(px, py)] by rw [hw]; rfl); clear hw
        go_wp2_with (at_builtin; refine wp_app (y := (px, py)) rfl (.tmp 40) (.tmp 42) rfl rfl rfl (HR.out.alloc _) (heap_alloc_new wr (.cells #[.int .i64 px, .int .i64 py] 24)) hol2 ?_; intro v1 w1 r1 k1 z1; have R1 := Lib.hid r1; clear r1 k1)
        go_ret
        obtain ⟨ad', c', rfl, h1, h2⟩ := R1.out.gives
        exact ⟨ad', c', by rw [HW.out]; rfl, by rw [HW.out]; exact h1, h2, R1.out.below⟩

end Go.Proofs.Ytkcfkanfdbejiaa
