/- The walk of sound.same and sound.Same, of treaps. -/
import Derived.Test.YtkcfkanfdbejiaaSameA
import Derived.Test.YtkcfkanfdbejiaaSameB
namespace Go.Proofs.Ytkcfkanfdbejiaa
set_option maxRecDepth 100000
open Go.RowKit Go.Proofs.Ytkcfkanfdbejiaa.Mix Go.Proofs.YtkcfkanfdbejiaaW.PrintWords Go.Proofs.YtkcfkanfdbejiaaW.PrintLast
set_option linter.unusedSimpArgs false
set_option linter.unusedVariables false

set_option maxHeartbeats 1000000 in
theorem samet_any {a : Ar} (ha : a.slots.length ≤ 60000) {t : Int} {l : List Pr} (ht : Tr a t l) : ∀ (u : Int) (m : List Pr), Tr a u m → ∀ (w : World) (p : Nat) (F : Nat → Prop) (mb n : Nat) (D : DU), OAt w (some ⟨p, 0, none⟩) (some a) F → MapOf w mb n D → ¬ F mb → MInv a D → n + (4 * l.length + 2) ≤ 1000000 →
    Calls Try.prog 42 #[.pointer (some ⟨p, 0, none⟩), .agg #[.int .i64 t, .int .i64 u], .map (some mb)] w (SamePost a w mb (n + (4 * l.length + 2)) l m) := by
  have key : ∀ {t u : Int} {l m : List Pr}, Tr a t l → Tr a u m → ∃ kl, keyP t u = some kl := fun {t u l m} h1 h2 => by
    have := h1.le; have := h2.le
    exact keyOf_pr (wf64 (by omega) (by omega)) (wf64 (by omega) (by omega))
  have look : ∀ {t u : Int} {kl : Lit} {w : World} {mb n : Nat} {D : DU}, MapOf w mb n D → keyP t u = some kl → ∃ c, (Instr.lookup 81 (.map (some mb)) (.agg #[.int .i64 t, .int .i64 u]) false).run Try.prog w = .ok (.int .i64 c) w ∧ D.atKey kl zeroD = .lit (.int .i64 c) :=
    fun {t u kl w mb n D} hm hk => by
      obtain ⟨c, h1, h2, _⟩ := World.ownsMap.lookup_int hm snd_law Try.underlying81 Try.underlying3 (snd_zero _) hk
      exact ⟨c, h1, h2⟩
  induction ht with
  | nil =>
    intro u m hu w p F mb n D ho hm hck hi hb
    by_cases htu : (0 : Int) = u
    · subst htu
      refine (same_eq ho hm hi 0 (Tr.nil.uniq hu)).mono fun e w' h => h.more (by omega)
    · obtain ⟨kl, hkl⟩ := key .nil hu
      obtain ⟨c, hrun, hat⟩ := look (MapOf.below hm ((Below.refl w.heap.size w).alloc (Nat.le_refl _) (.cells #[.int .i64 0, .int .i64 u] 80))) hkl
      by_cases hc : c = 0
      · subst hc
        have hne : ([] : List Pr) ≠ m := fun e => by subst e; exact htu hu.none_.symm
        exact (same_not1 ho hm hi htu .nil hu kl hkl hrun (by omega) (isN_zero a) hne).mono fun e w' h => h.more (by omega)
      · exact (same_known ho hm hi htu .nil hu kl hkl c hc hat hrun).mono fun e w' h => h.more (by omega)
  | node t k v x y l1 l2 hn hg htop hx hy h1 h2 i1 i2 =>
    intro u m hu w p F mb n D ho hm hck hi hb
    have htr : Tr a t (l1 ++ (k, v) :: l2) := .node t k v x y l1 l2 hn hg htop hx hy h1 h2
    have hlen : (l1 ++ (k, v) :: l2).length = l1.length + l2.length + 1 := by simp; omega
    by_cases htu : t = u
    · subst htu
      refine (same_eq ho hm hi t (htr.uniq hu)).mono fun e w' h => h.more (by omega)
    · obtain ⟨kl, hkl⟩ := key htr hu
      obtain ⟨c, hrun, hat⟩ := look (MapOf.below hm ((Below.refl w.heap.size w).alloc (Nat.le_refl _) (.cells #[.int .i64 t, .int .i64 u] 80))) hkl
      by_cases hc : c = 0
      · subst hc
        cases hu with
        | nil =>
          exact (same_not2 ho hm hi htu htr .nil kl hkl hrun (by omega) hn (isN_zero a) (by simp)).mono fun e w' h => h.more (by omega)
        | node _ k2 v2 x2 y2 m1 m2 hn2 hg2 htop2 hx2 hy2 h12 h22 =>
          have hur : Tr a u (m1 ++ (k2, v2) :: m2) := .node u k2 v2 x2 y2 m1 m2 hn2 hg2 htop2 hx2 hy2 h12 h22
          by_cases hk : k = k2
          · by_cases hv : v = v2
            · subst hk hv
              have j1 := i1 x2 m1 h12
              have j2 := i2 y2 m2 h22
              have hs := split_eq htop htop2
              cases hd1 : decide (l1 = m1) with
              | false =>
                exact (same_f ho hm hi htu htr hur kl hkl hrun hn hn2 hg hg2 h1 h2 h12 h22 hx hy hx2 hy2 j1 j2 hck (by omega) hd1 (fun e => absurd (hs.1 e).1 (of_decide_eq_false hd1))).mono fun e w' h => h.more (by omega)
              | true =>
                cases hd2 : decide (l2 = m2) with
                | false => exact (same_tf ho hm hi htu htr hur kl hkl hrun hn hn2 hg hg2 h1 h2 h12 h22 hx hy hx2 hy2 j1 j2 hck (by omega) hd1 hd2 (fun e => absurd (hs.1 e).2 (of_decide_eq_false hd2))).mono fun e w' h => h.more (by omega)
                | true => exact (same_tt ho hm hi htu htr hur kl hkl hrun hn hn2 hg hg2 h1 h2 h12 h22 hx hy hx2 hy2 j1 j2 hck (by omega) hd1 hd2 (hs.2 ⟨of_decide_eq_true hd1, of_decide_eq_true hd2⟩)).mono fun e w' h => h.more (by omega)
            · exact (same_difv ho hm hi htu htr hur kl hkl hrun (by omega) hn hn2 hg hg2 hk hv (root_ne htop htop2 (fun e => hv (congrArg Prod.snd e)))).mono fun e w' h => h.more (by omega)
          · exact (same_difk ho hm hi htu htr hur kl hkl hrun (by omega) hn hn2 hg hg2 hk (root_ne htop htop2 (fun e => hk (congrArg Prod.fst e)))).mono fun e w' h => h.more (by omega)
      · exact (same_known ho hm hi htu htr hu kl hkl c hc hat hrun).mono fun e w' h => h.more (by omega)

set_option maxRecDepth 100000 in
set_option maxHeartbeats 4000000 in
theorem sameO_any {w : World} {p : Nat} {a : Ar} {F : Nat → Prop} (ho : OAt w (some ⟨p, 0, none⟩) (some a) F) {t u : Int} {l m : List Pr} (ht : Tr a t l) (hu : Tr a u m) (hl : l.length ≤ 1000) :
    Calls Try.prog 16 #[.pointer (some ⟨p, 0, none⟩), .int .i64 t, .int .i64 u] w fun e w' => e = .returned (.bool (decide (l = m))) ∧ Below w.heap.size w w' := by
  have ha : a.slots.length ≤ 60000 := by
    rcases ho with ⟨_, h1, _⟩ | ⟨a', p', sv, row, h1, _, h2⟩
    · cases h1
    · obtain rfl := Option.some.inj h1
      have h3 := h2.ok.fits; have h4 := h2.ok.most; omega
  have hmk := @run_makeMap Try.prog
  have HO := Lib.hid ho; clear ho
  have HT := Lib.hid ht; have HU := Lib.hid hu
  have ta := ht.arg; have ua := hu.arg
  have cs : ∀ (w' : World) (n : Nat), w'.heap.size = n → Below w.heap.size w w' → Calls Try.prog 42 #[.pointer (some ⟨p, 0, none⟩), .agg #[.int .i64 t, .int .i64 u], .map (some n)] (w'.alloc (.map #[] 0)) (SamePost a (w'.alloc (.map #[] 0)) n (0 + (4 * l.length + 2)) l m) := by
    intro w' n hn hb
    subst hn
    exact samet_any ha ht u m hu (w'.alloc (.map #[] 0)) p F w'.heap.size 0 (.map []) (HO.out.below (hb.alloc hb.size _)) (World.ownsMap_made w' _ _ _) (fun hf => by have := HO.out.lt _ hf; have := hb.size; omega) (MInv.start a) (by omega)
  have CS := Lib.hid cs; clear cs ha ht hu
  have fin : ∀ (w' w2 : World), Below w.heap.size w w' → Frame (Only w'.heap.size) (w'.alloc (.map #[] 0)) w2 → Below w.heap.size w w2 := fun w' w2 hb fr =>
    (hb.alloc hb.size (.map #[] 0)).trans (fr.below (B := w.heap.size) (fun x hx => by rw [hx]; exact hb.size) (by have := hb.size; simp; omega))
  have FIN := Lib.hid fin; clear fin
  rcases ta with h1 | h1
  · rcases ua with h2 | h2
    · skip
      subst h1
      subst h2
      have hg1 := get_any HO.out 0
      rw [isN_zero a, getN_no (isN_zero a)] at hg1
      have hg2 := fun (w' : World) (hb : Below w.heap.size w w') => get_any (HO.out.below hb) 0
      rw [isN_zero a, getN_no (isN_zero a)] at hg2
      have G1 := Lib.hid hg1; have G2 := Lib.hid hg2; clear hg1 hg2
      go_enter Try.func16, Try.ntmps16
      go_wp2_with fail
      refine G1.out.mono ?_
      rintro e w1 ⟨rfl, b1⟩
      have z1 := b1.size
      have B1 := Lib.hid (b1.alloc z1 (.cells #[.int .i64 0, .int .i64 0, .int .i64 0, .int .i64 0, .int .i64 0, .int .i64 0] 41))
      clear b1
      go_wp2_with fail
      refine (G2.out _ B1.out).mono ?_
      rintro e w2 ⟨rfl, b2⟩
      have z2 := b2.size
      simp at z2
      have B2 := Lib.hid ((B1.out.trans (b2.mono B1.out.size)).alloc (by omega) (.cells #[.int .i64 0, .int .i64 0, .int .i64 0, .int .i64 0, .int .i64 0, .int .i64 0] 41))
      clear b2
      go_wp2_with fail
      refine (CS.out _ (w2.heap.size + 1) (by simp) B2.out).mono ?_
      intro e w3 h3
      unfold SamePost at h3
      obtain ⟨rfl, _, fr⟩ := h3
      have B3 := Lib.hid (FIN.out _ _ B2.out (by simpa using fr))
      clear fr
      go_wp2_with fail
      go_ret
      exact ⟨rfl, B3.out⟩
    · skip
      subst h1
      have q2 : (u == 0) = false := beq_eq_false_iff_ne.2 (by have := isN_pos h2; omega)
      have q2b : (u != 0) = true := by rw [bne, q2]; rfl
      have hg1 := get_any HO.out 0
      rw [isN_zero a, getN_no (isN_zero a)] at hg1
      have hg2 := fun (w' : World) (hb : Below w.heap.size w w') => get_any (HO.out.below hb) u
      rw [h2] at hg2
      generalize getN (some a) u = nd2 at hg2
      clear h2
      have G1 := Lib.hid hg1; have G2 := Lib.hid hg2; clear hg1 hg2
      go_enter Try.func16, Try.ntmps16
      go_wp2_with fail
      refine G1.out.mono ?_
      rintro e w1 ⟨rfl, b1⟩
      have z1 := b1.size
      have B1 := Lib.hid (b1.alloc z1 (.cells #[.int .i64 0, .int .i64 0, .int .i64 0, .int .i64 0, .int .i64 0, .int .i64 0] 41))
      clear b1
      go_wp2_with fail
      refine (G2.out _ B1.out).mono ?_
      rintro e w2 ⟨rfl, b2⟩
      have z2 := b2.size
      simp at z2
      have B2 := Lib.hid ((B1.out.trans (b2.mono B1.out.size)).alloc (by omega) (.cells #[.int .i64 nd2.key, .int .i64 nd2.val, .int .i64 nd2.left, .int .i64 nd2.right, .int .i64 nd2.size, .int .i64 nd2.high] 41))
      clear b2
      go_wp2_with fail
      refine (CS.out _ (w2.heap.size + 1) (by simp) B2.out).mono ?_
      intro e w3 h3
      unfold SamePost at h3
      obtain ⟨rfl, _, fr⟩ := h3
      have B3 := Lib.hid (FIN.out _ _ B2.out (by simpa using fr))
      clear fr
      go_wp2_with fail
      go_ret
      exact ⟨rfl, B3.out⟩
  · rcases ua with h2 | h2
    · skip
      have q1 : (t == 0) = false := beq_eq_false_iff_ne.2 (by have := isN_pos h1; omega)
      have q1b : (t != 0) = true := by rw [bne, q1]; rfl
      subst h2
      have hg1 := get_any HO.out t
      rw [h1] at hg1
      have hg2 := fun (w' : World) (hb : Below w.heap.size w w') => get_any (HO.out.below hb) 0
      rw [isN_zero a, getN_no (isN_zero a)] at hg2
      generalize getN (some a) t = nd1 at hg1
      clear h1
      have G1 := Lib.hid hg1; have G2 := Lib.hid hg2; clear hg1 hg2
      go_enter Try.func16, Try.ntmps16
      go_wp2_with fail
      refine G1.out.mono ?_
      rintro e w1 ⟨rfl, b1⟩
      have z1 := b1.size
      have B1 := Lib.hid (b1.alloc z1 (.cells #[.int .i64 nd1.key, .int .i64 nd1.val, .int .i64 nd1.left, .int .i64 nd1.right, .int .i64 nd1.size, .int .i64 nd1.high] 41))
      clear b1
      go_wp2_with fail
      refine (G2.out _ B1.out).mono ?_
      rintro e w2 ⟨rfl, b2⟩
      have z2 := b2.size
      simp at z2
      have B2 := Lib.hid ((B1.out.trans (b2.mono B1.out.size)).alloc (by omega) (.cells #[.int .i64 0, .int .i64 0, .int .i64 0, .int .i64 0, .int .i64 0, .int .i64 0] 41))
      clear b2
      go_wp2_with fail
      refine (CS.out _ (w2.heap.size + 1) (by simp) B2.out).mono ?_
      intro e w3 h3
      unfold SamePost at h3
      obtain ⟨rfl, _, fr⟩ := h3
      have B3 := Lib.hid (FIN.out _ _ B2.out (by simpa using fr))
      clear fr
      go_wp2_with fail
      go_ret
      exact ⟨rfl, B3.out⟩
    · skip
      have q1 : (t == 0) = false := beq_eq_false_iff_ne.2 (by have := isN_pos h1; omega)
      have q1b : (t != 0) = true := by rw [bne, q1]; rfl
      have q2 : (u == 0) = false := beq_eq_false_iff_ne.2 (by have := isN_pos h2; omega)
      have q2b : (u != 0) = true := by rw [bne, q2]; rfl
      have hg1 := get_any HO.out t
      rw [h1] at hg1
      have hg2 := fun (w' : World) (hb : Below w.heap.size w w') => get_any (HO.out.below hb) u
      rw [h2] at hg2
      generalize getN (some a) t = nd1 at hg1
      clear h1
      generalize getN (some a) u = nd2 at hg2
      clear h2
      have G1 := Lib.hid hg1; have G2 := Lib.hid hg2; clear hg1 hg2
      go_enter Try.func16, Try.ntmps16
      go_wp2_with fail
      refine G1.out.mono ?_
      rintro e w1 ⟨rfl, b1⟩
      have z1 := b1.size
      have B1 := Lib.hid (b1.alloc z1 (.cells #[.int .i64 nd1.key, .int .i64 nd1.val, .int .i64 nd1.left, .int .i64 nd1.right, .int .i64 nd1.size, .int .i64 nd1.high] 41))
      clear b1
      go_wp2_with fail
      refine (G2.out _ B1.out).mono ?_
      rintro e w2 ⟨rfl, b2⟩
      have z2 := b2.size
      simp at z2
      have B2 := Lib.hid ((B1.out.trans (b2.mono B1.out.size)).alloc (by omega) (.cells #[.int .i64 nd2.key, .int .i64 nd2.val, .int .i64 nd2.left, .int .i64 nd2.right, .int .i64 nd2.size, .int .i64 nd2.high] 41))
      clear b2
      go_wp2_with fail
      refine (CS.out _ (w2.heap.size + 1) (by simp) B2.out).mono ?_
      intro e w3 h3
      unfold SamePost at h3
      obtain ⟨rfl, _, fr⟩ := h3
      have B3 := Lib.hid (FIN.out _ _ B2.out (by simpa using fr))
      clear fr
      go_wp2_with fail
      go_ret
      exact ⟨rfl, B3.out⟩

end Go.Proofs.Ytkcfkanfdbejiaa
