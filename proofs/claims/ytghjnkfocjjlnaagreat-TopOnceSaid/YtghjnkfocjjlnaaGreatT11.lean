/- A call takes effect, a call ends; a base as its record says. -/
/- What records say; answers. -/
/- Stats and policies; a look that is over. -/
import Derived.Test.YtghjnkfocjjlnaaGreatT10
import Derived.Test.YtghjnkfocjjlnaaGreatT00
set_option linter.unusedSimpArgs false
set_option linter.unusedVariables false
section
namespace Go.Proofs.YtghjnkfocjjlnaaGreat
set_option maxRecDepth 100000
open Go.RowKit Go.Proofs.YtghjnkfocjjlnaaGreatW.PrintWords Go.Proofs.YtghjnkfocjjlnaaGreatW.PrintLast
set_option linter.unusedVariables false
set_option linter.unusedSimpArgs false
theorem ThAt.keep2 {w w' : World} {own own' : Own} {px i pt : Nat} {t : Th} {nv pv : Value} (h : ThAt w own px i pt t nv pv) (hb : w'.heap[pt]? = w.heap[pt]?) (hK : Keeps i w own w' own') : ThAt w' own' px i pt t nv pv :=
  ⟨hb.trans h.blk, h.rep.keep hK, h.ps.keep hK⟩
/-- The order grows by one: the append, and the store of its slice. -/
theorem Run.order {W w0 w : World} {P : Pl} {own0 own : Own} {S : Ix} (h : Run W P w0 own0 S w own) {tv ov : Value} (hx : XAt w own P S tv ov) {c : Int} {v' : Value} {w2 : World} (hown : w2.ownsRow 0 3 1 v' (S.order.length + 1) (intsV (S.order ++ [c])))
    (hg : w.grownBy w2 ov.ownBlock) (hl : ∀ b, v'.ownBlock = some b → ov.ownBlock = some b ∨ b = w.heap.size) (i : Nat) :
    ∃ own', Run W P w0 own0 (S.took c) (w2.setCell ⟨P.px, 9, none⟩ v') own' ∧ KA i w own (w2.setCell ⟨P.px, 9, none⟩ v') own' := by
  have hI := h.is
  have hlt2 : ∀ b, v'.ownBlock = some b → b < w2.heap.size := fun b hb => (hown.lt b hb).2
  have hcase : ∀ b, v'.ownBlock = some b → own b = some .ord ∨ (own b = none ∧ b = w.heap.size) := fun b hb => (hl b hb).imp (hx.ordo b) (fun e => ⟨hI.none_new (by omega), e⟩)
  have hkeep : ∀ b o, own b = some o → o ≠ .ord → o ≠ .ix → (w2.setCell ⟨P.px, 9, none⟩ v').heap[b]? = w.heap[b]? := fun b o ho h1 h2 => by
    rw [setCell_other _ (by rintro rfl; rw [hI.ownix] at ho; exact h2 (Option.some.inj ho).symm)]
    exact hg.block b (hI.mine b o ho).2 (fun e => by have := hx.ordo b e.symm; rw [ho] at this; exact h1 (Option.some.inj this))
  have hpx : w2.heap[P.px]? = some (.cells (ixC P.pa S tv ov) 97 (0, 0)) := by
    rw [hg.block P.px hI.px_lt (fun e => by have := hx.ordo _ e.symm; rw [hI.ownix] at this; cases this)]; exact hx.blk
  have hsz : (w2.setCell ⟨P.px, 9, none⟩ v').heap.size = w2.heap.size := by simp [World.setCell]
  let own' : Own := fun b => if v'.ownBlock = some b then some .ord else if own b = some .ord then none else own b
  have ho' : ∀ b o, own b = some o → o ≠ .ord → own' b = some o := fun b o ho h1 => by
    have n1 : ¬ v'.ownBlock = some b := fun e => by
      rcases hcase b e with h2 | ⟨h2, _⟩ <;> rw [ho] at h2
      · exact h1 (Option.some.inj h2)
      · cases h2
    show (if v'.ownBlock = some b then some Ow.ord else if own b = some .ord then none else own b) = _
    rw [if_neg n1, if_neg (by rw [ho]; simpa using h1), ho]
  have hn' : ∀ b, own b = none → b < w.heap.size → own' b = none ∧ (w2.setCell ⟨P.px, 9, none⟩ v').heap[b]? = w.heap[b]? := fun b ho hb => by
    have n1 : ¬ v'.ownBlock = some b := fun e => by
      rcases hcase b e with h2 | ⟨_, h2⟩
      · rw [ho] at h2; cases h2
      · omega
    refine ⟨?_, ?_⟩
    · show (if v'.ownBlock = some b then some Ow.ord else if own b = some .ord then none else own b) = _
      rw [if_neg n1, if_neg (by rw [ho]; simp), ho]
    · rw [setCell_other _ (by rintro rfl; rw [hI.ownix] at ho; cases ho)]
      exact hg.block b hb (fun e => by have := hx.ordo b e.symm; rw [ho] at this; cases this)
  have hK : ∀ j, Keeps j w own (w2.setCell ⟨P.px, 9, none⟩ v') own' := fun j b hb => by
    rcases hb with hb | hb
    · exact ⟨(ho' b _ hb (by decide)).trans hb.symm, hkeep b _ hb (by decide) (by decide)⟩
    · exact ⟨(ho' b _ hb (by simp)).trans hb.symm, hkeep b _ hb (by simp) (by simp)⟩
  have hFK : FK w own (w2.setCell ⟨P.px, 9, none⟩ v') own' := ⟨by rw [hsz]; exact hg.size, fun b hb ho => hn' b ho hb⟩
  refine ⟨own', ⟨⟨?_, ?_, ?_, ⟨tv, v', ?_, ?_, ?_, ?_, ?_⟩, ho' _ _ hI.ownix (by decide), fun p hp => ho' _ _ (hI.ownth p hp) (by decide), hI.len, hI.nodup, ?_⟩, h.fk.trans hFK⟩, hK i, hFK⟩
  · have e : (fun b => own' b = some Ow.ar) = fun b => own b = some .ar := by
      funext b
      by_cases ha : own b = some .ar
      · rw [ho' b _ ha (by decide), ha]
      · have : own' b ≠ some .ar := by
          show (if v'.ownBlock = some b then some Ow.ord else if own b = some .ord then none else own b) ≠ _
          split
          · simp
          · split
            · simp
            · exact ha
        simp [ha, this]
    rw [e]
    exact hI.arena.same (fun b hb => hkeep b _ hb (by decide) (by decide)) (by rw [hsz]; exact hg.size)
  · exact (hI.below.grown hg hI.below.size (fun k hk => (hI.mine k _ (hx.ordo k hk)).1)).setCell (hI.mine P.px _ hI.ownix).1 _
  · intro b o ho
    have ho : (if v'.ownBlock = some b then some Ow.ord else if own b = some .ord then none else own b) = some o := ho
    rw [hsz]
    by_cases n1 : v'.ownBlock = some b
    · refine ⟨?_, hlt2 b n1⟩
      rcases hcase b n1 with h2 | ⟨_, h2⟩
      · exact (hI.mine b _ h2).1
      · rw [h2]; exact hI.below.size
    · rw [if_neg n1] at ho
      by_cases n2 : own b = some .ord
      · rw [if_pos n2] at ho; cases ho
      · rw [if_neg n2] at ho; exact ⟨(hI.mine b o ho).1, Nat.lt_of_lt_of_le (hI.mine b o ho).2 hg.size⟩
  · rw [heap_setCell_same _ P.px 9 _ _ v' hpx]; rfl
  · exact ownsRow_same hx.row (fun b hb => hkeep b _ (hx.rowo b hb) (by decide) (by decide))
  · exact fun b hb => ho' b _ (hx.rowo b hb) (by decide)
  · show (w2.setCell ⟨P.px, 9, none⟩ v').ownsRow 0 3 1 v' (S.order ++ [c]).length _
    rw [List.length_append]
    refine ownsRow_same hown (fun b hb => setCell_other _ ?_)
    rintro rfl
    rcases hcase _ hb with h2 | ⟨h2, _⟩ <;> rw [hI.ownix] at h2 <;> cases h2
  · exact fun b hb => by
      show (if v'.ownBlock = some b then some Ow.ord else if own b = some .ord then none else own b) = _
      rw [if_pos hb]
  · intro j q hq
    obtain ⟨nv, pv, ht⟩ := hI.ths j q hq
    exact ⟨nv, pv, ht.keep2 (hkeep q _ (hI.own_th hq) (by decide) (by decide)) (hK j)⟩
theorem info_intX : (Tryz.prog.info? 3).map (fun i => (i.zero, i.size, i.bytes)) = some (some (.int .i64 0), 1, 8) := by kernel_rfl
theorem wp_one {P' : Array Oper} {rest : List Oper} {o : Oper} {a : Act} {Q : Exit → Act → World → Prop} {w : World} {y : Int} {v : Value} {out : List Int} {g : Nat} (hgd : o.guard = none) (s x : Operand)
    (ho : o.op = .call { callee := .builtin .append, args := #[s, x], argTypes := #[22, 22] }) (hs : a.eval s = v) (hx : a.eval x = .slice (some ⟨g, 0, none⟩) 1 1) (R : w.ownsRow 0 3 1 v out.length (intsV out))
    (hg : w.heap[g]? = some (.cells #[.int .i64 y] 3 (0, 0))) (hlen : out.length ≤ 1000001)
    (h : ∀ ad n c w', w'.ownsRow 0 3 1 (.slice ad n c) (out.length + 1) (intsV (out ++ [y])) → w.grownBy w' v.ownBlock → (∀ b, (Value.slice ad n c).ownBlock = some b → v.ownBlock = some b ∨ b = w.heap.size) → wpList Tryz.prog P' Q rest (a.put o.dst (.slice ad n c)) w') :
    wpList Tryz.prog P' Q (o :: rest) a w := by
  obtain ⟨i0, hi, hz0, hz1, hz2⟩ := info_parts info_intX
  refine wpList_append_lies (P := Tryz.prog) w hgd s x 22 ho 0 3 i0 (.int .i64 0) 1 8 Tryz.underlying22 hi hz0 hz1 hz2 rfl (by decide) v out.length (intsV out) hs R ⟨g, 0, none⟩ 1 1 [.int .i64 y] hx rfl ?_ (fun u hu => by simp at hu; subst hu; rfl) (by decide) (by unfold maxLen; omega) (by omega) (Nat.zero_le _) _ rfl ?_
  · intro j u hu
    have hadd : (⟨g, 0, none⟩ : Addr).add j = ⟨g, j, none⟩ := by unfold Addr.add; split <;> simp_all
    rw [hadd]
    exact cell_blk hg (by simpa using hu)
  · intro g' cap w' hown hgrow hlie _
    refine h _ _ _ w' (by rw [intsV, List.map_append]; exact hown) hgrow (fun b hb => ?_)
    obtain rfl : g' = b := by simpa [Value.ownBlock] using hb
    exact hlie
set_option maxRecDepth 100000 in
set_option maxHeartbeats 4000000 in
theorem xtook_any {W w : World} {P : Pl} {own : Own} {S : Ix} (h : IS W w P own S) (c : Int) (hlen : S.order.length ≤ 1000000) (i : Nat) :
    Calls Tryz.prog 82 #[pt_ P.px, .int .i64 c] w fun e w' => e = .returned (.tuple #[]) ∧ ∃ own', Run W P w own (S.took c) w' own' ∧ KA i w own w' own' := by
  obtain ⟨tv, ov, hx⟩ := h.ix
  have R0 := Lib.hid (Run.begin h)
  have hsl : ∃ ad n c, ov = .slice ad n c := by
    rcases hx.ord.2 with ⟨rfl, _⟩ | ⟨g, cap, cur, rfl, _⟩
    · exact ⟨_, _, _, rfl⟩
    · exact ⟨_, _, _, rfl⟩
  obtain ⟨oad, on, oc, rfl⟩ := hsl
  have HX := Lib.hid hx
  have R1 := Lib.hid (R0.out.alloc (.cells #[.int .i64 c] 3))
  have K1 := Lib.hid (R0.out.alloc_ka (.cells #[.int .i64 c] 3) i)
  have HX1 := Lib.hid (hx.keep (w' := w.alloc (.cells #[.int .i64 c] 3)) h.ownix (fun b o ho _ => ⟨ho, ((Below.refl w.heap.size w).alloc (Nat.le_refl _) _).block b (h.mine b o ho).2⟩))
  have HN := Lib.hid (heap_alloc_new w (.cells #[.int .i64 c] 3))
  have c9 := cell_blk (i := 9) hx.blk rfl
  have hpl := h.px_lt
  have LEN := Lib.hid hlen
  clear h hx hlen
  go_enter Tryz.func82, Tryz.ntmps82
  go_wp2_with (at_builtin; refine wp_one (y := c) (out := S.order) rfl (.tmp 8) (.tmp 10) rfl rfl rfl HX1.out.ord HN.out (by have := LEN.out; omega) ?_; intro nad nn nc w2 hown hg hl; have HG := Lib.hid hg; have HW := Lib.hid hown; have HL := Lib.hid hl; have f9 := (show w2.frozen? ⟨P.px, 9, none⟩ = false from free_blk (i := 9) ((hg.block P.px R1.out.is.px_lt (fun e => by have := HX1.out.ordo _ e.symm; rw [R1.out.is.ownix] at this; cases this)).trans HX1.out.blk)); have g9 := (show ∃ v, w2.cell? ⟨P.px, 9, none⟩ = some v from ⟨_, cell_blk (i := 9) ((hg.block P.px R1.out.is.px_lt (fun e => by have := HX1.out.ordo _ e.symm; rw [R1.out.is.ownix] at this; cases this)).trans HX1.out.blk) rfl⟩); obtain ⟨v9, g9⟩ := g9; clear hown hg hl)
  go_end0
  obtain ⟨own', r, k⟩ := R1.out.order HX1.out HW.out HG.out HL.out i
  exact ⟨rfl, own', r, K1.out.trans k⟩
end Go.Proofs.YtghjnkfocjjlnaaGreat
end
section
namespace Go.Proofs.YtghjnkfocjjlnaaGreat
set_option maxRecDepth 100000
open Go.RowKit Go.Proofs.YtghjnkfocjjlnaaGreatW.PrintWords Go.Proofs.YtghjnkfocjjlnaaGreatW.PrintLast
set_option linter.unusedVariables false
set_option linter.unusedSimpArgs false
set_option maxRecDepth 100000 in
set_option maxHeartbeats 4000000 in
theorem xhad_true (key v : Int) (w : World) :
    Calls Tryz.prog 92 #[.int .i64 key, .int .i64 v, .bool true] w fun e w' => e = .returned (.agg #[.int .i64 0, .bool true, .int .i64 key, .int .i64 v, .int .i64 0, .slice none 0 0]) ∧ Below w.heap.size w w' := by
  go_enter Tryz.func92, Tryz.ntmps92
  go_wp2_with fail
  refine bodyPost_ret (v := .agg #[.int .i64 0, .bool true, .int .i64 key, .int .i64 v, .int .i64 0, .slice none 0 0]) (by simp [results, Tryz.results92, go_sem]) rfl ⟨rfl, ?_⟩
  exact (Below.refl _ _).alloc (Nat.le_refl _) _
set_option maxRecDepth 100000 in
set_option maxHeartbeats 4000000 in
theorem xhad_false (key v : Int) (w : World) :
    Calls Tryz.prog 92 #[.int .i64 key, .int .i64 v, .bool false] w fun e w' => e = .returned (.agg #[.int .i64 0, .bool false, .int .i64 0, .int .i64 0, .int .i64 0, .slice none 0 0]) ∧ Below w.heap.size w w' := by
  go_enter Tryz.func92, Tryz.ntmps92
  go_wp2_with fail
  refine bodyPost_ret (v := .agg #[.int .i64 0, .bool false, .int .i64 0, .int .i64 0, .int .i64 0, .slice none 0 0]) (by simp [results, Tryz.results92, go_sem]) rfl ⟨rfl, ?_⟩
  exact (Below.refl _ _).alloc (Nat.le_refl _) _
theorem xhad_any (key v : Int) (ok : Bool) (w : World) :
    Calls Tryz.prog 92 #[.int .i64 key, .int .i64 v, .bool ok] w fun e w' => e = .returned (.agg #[.int .i64 (had key v ok).err, .bool (had key v ok).ok, .int .i64 (had key v ok).key, .int .i64 (had key v ok).val, .int .i64 (had key v ok).n, .slice none 0 0]) ∧ Below w.heap.size w w' := by
  cases ok
  · exact xhad_false key v w
  · exact xhad_true key v w
set_option maxRecDepth 100000 in
set_option maxHeartbeats 4000000 in
theorem xfull_any {W w : World} {P : Pl} {own : Own} {S : Ix} (h : IS W w P own S) {i p : Nat} (hp : P.pts[i]? = some p) :
    Calls Tryz.prog 79 #[pt_ p] w fun e w' => e = .returned (.tuple #[]) ∧ Ends W P w own (S.full i) w' := by
  have R0 := Lib.hid (Run.begin h)
  clear h
  go_enter Tryz.func79, Tryz.ntmps79
  go_wp2_with fail
  refine (xreturns_any R0.out.is hp (a := ⟨2, false, 0, 0, 0, []⟩) (pv := .slice none 0 0) (PV.nil _ _)).mono ?_
  rintro e w1 ⟨rfl, e1⟩
  go_wp2_with fail
  go_end0
  exact ⟨rfl, R0.out.then_ e1⟩
set_option maxRecDepth 100000 in
set_option maxHeartbeats 4000000 in
theorem xbase_any {W w : World} {P : Pl} {own : Own} {S : Ix} (h : IS W w P own S) (id : Int) :
    Calls Tryz.prog 84 #[pt_ P.px, .int .i64 id] w fun e w' => e = .returned (.agg #[.int .i64 (S.base id).id, .int .i64 (S.base id).kind, .int .i64 (S.base id).treap, .int .i64 (S.base id).stat, .int .i64 (S.base id).home]) ∧ Below w.heap.size w w' := by
  have R0 := Lib.hid (Run.begin h)
  clear h
  have R1 := Lib.hid (R0.out.alloc (.cells #[.int .i64 0, .int .i64 0, .int .i64 0, .int .i64 0, .int .i64 0] 120))
  have K1 := Lib.hid (R0.out.alloc_ka (.cells #[.int .i64 0, .int .i64 0, .int .i64 0, .int .i64 0, .int .i64 0] 120) 0)
  have HZ := Lib.hid (R0.out.alloc_fx (b := w.heap.size) rfl #[.int .i64 0, .int .i64 0, .int .i64 0, .int .i64 0, .int .i64 0] 120)
  go_enter Tryz.func84, Tryz.ntmps84
  go_wp2_with fail
  have R2 := Lib.hid R1.out.drew
  have K2 := Lib.hid (R1.out.drew_ka 0)
  refine start_ (n := 27) (S := fun w' => w'.cell? ⟨P.px, 0, none⟩ = some (pt_ P.pa)) (ds := [26]) (bz 27 0).toArray (by kernel_rfl) rfl rfl ((R2.out.is.xa)) (fun hHeld => ?_)
  refine pure_ (i := 0) (N := some 5) (v := ?_) (a' := ?_) (bz 27 1).toArray rfl rfl (by kernel_rfl) (fun _ _ _ h => h) (Or.inl ⟨by rfl, ?_⟩) ?_ ?_
  rotate_left
  · intro w'
    go_simp
    with_reducible rfl
  rotate_left
  · simp only [Act.put, sqA, sqZ, sqS, i64_w, i32_w]
    rfl
  refine pure_ (i := 1) (N := some 6) (v := ?_) (a' := ?_) (bz 27 3).toArray rfl rfl (by kernel_rfl) (fun _ _ _ h => h) (Or.inl ⟨by rfl, ?_⟩) ?_ ?_
  rotate_left
  · intro w'
    go_simp
    with_reducible rfl
  rotate_left
  · simp only [Act.put, sqA, sqZ, sqS, i64_w, i32_w]
    rfl
  refine pure_ (i := 2) (N := some 7) (v := ?_) (a' := ?_) (bz 27 7).toArray rfl rfl (by kernel_rfl) (fun _ _ _ h => h) (Or.inl ⟨by rfl, ?_⟩) ?_ ?_
  rotate_left
  · intro w'
    go_simp
    with_reducible rfl
  rotate_left
  · simp only [Act.put, sqA, sqZ, sqS, i64_w, i32_w]
    rfl
  refine pure_ (i := 3) (N := some 8) (v := ?_) (a' := ?_) (bz 27 15).toArray rfl rfl (by kernel_rfl) (fun _ _ _ h => h) (Or.inl ⟨by rfl, ?_⟩) ?_ ?_
  rotate_left
  · intro w'
    go_simp
    with_reducible rfl
  rotate_left
  · simp only [Act.put, sqA, sqZ, sqS, i64_w, i32_w]
    rfl
  refine pure_ (i := 5) (N := some 10) (v := ?_) (a' := ?_) (bz 27 47).toArray rfl rfl (by kernel_rfl) (fun _ _ _ h => h) (Or.inl ⟨by rfl, ?_⟩) ?_ ?_
  rotate_left
  · intro w'
    go_simp
    with_reducible rfl
  rotate_left
  · simp only [Act.put, sqA, sqZ, sqS, i64_w, i32_w]
    rfl
  refine pure_ (i := 7) (N := some 12) (v := ?_) (a' := ?_) (bz 27 175).toArray rfl rfl (by kernel_rfl) (fun _ _ _ h => h) (Or.inl ⟨by rfl, ?_⟩) ?_ ?_
  rotate_left
  · intro w'
    go_simp
    with_reducible rfl
  rotate_left
  · simp only [Act.put, sqA, sqZ, sqS, i64_w, i32_w]
    rfl
  refine pure_ (i := 8) (N := some 13) (v := ?_) (a' := ?_) (bz 27 431).toArray rfl rfl (by kernel_rfl) (fun _ _ _ h => h) (Or.inl ⟨by rfl, ?_⟩) ?_ ?_
  rotate_left
  · intro w'
    go_simp
    with_reducible rfl
  rotate_left
  · simp only [Act.put, sqA, sqZ, sqS, i64_w, i32_w]
    rfl
  refine pure_ (i := 9) (N := some 14) (v := ?_) (a' := ?_) (bz 27 943).toArray rfl rfl (by kernel_rfl) (fun _ _ _ h => h) (Or.inl ⟨by rfl, ?_⟩) ?_ ?_
  rotate_left
  · intro w'
    go_simp
    with_reducible rfl
  rotate_left
  · simp only [Act.put, sqA, sqZ, sqS, i64_w, i32_w]
    rfl
  refine pure_ (i := 11) (N := some 16) (v := ?_) (a' := ?_) (bz 27 2991).toArray rfl rfl (by kernel_rfl) (fun _ _ _ h => h) (Or.inl ⟨by rfl, ?_⟩) ?_ ?_
  rotate_left
  · intro w'
    go_simp
    with_reducible rfl
  rotate_left
  · simp only [Act.put, sqA, sqZ, sqS, i64_w, i32_w]
    rfl
  refine pure_ (i := 13) (N := some 18) (v := ?_) (a' := ?_) (bz 27 11183).toArray rfl rfl (by kernel_rfl) (fun _ _ _ h => h) (Or.inl ⟨by rfl, ?_⟩) ?_ ?_
  rotate_left
  · intro w'
    go_simp
    with_reducible rfl
  rotate_left
  · simp only [Act.put, sqA, sqZ, sqS, i64_w, i32_w]
    rfl
  refine pure_ (i := 14) (N := some 19) (v := ?_) (a' := ?_) (bz 27 27567).toArray rfl rfl (by kernel_rfl) (fun _ _ _ h => h) (Or.inl ⟨by rfl, ?_⟩) ?_ ?_
  rotate_left
  · intro w'
    go_simp
    with_reducible rfl
  rotate_left
  · simp only [Act.put, sqA, sqZ, sqS, i64_w, i32_w]
    rfl
  refine pure_ (i := 15) (N := some 20) (v := ?_) (a' := ?_) (bz 27 60335).toArray rfl rfl (by kernel_rfl) (fun _ _ _ h => h) (Or.inl ⟨by rfl, ?_⟩) ?_ ?_
  rotate_left
  · intro w'
    go_simp
    with_reducible rfl
  rotate_left
  · simp only [Act.put, sqA, sqZ, sqS, i64_w, i32_w]
    rfl
  refine pure_ (i := 17) (N := some 22) (v := ?_) (a' := ?_) (bz 27 191407).toArray rfl rfl (by kernel_rfl) (fun _ _ _ h => h) (Or.inl ⟨by rfl, ?_⟩) ?_ ?_
  rotate_left
  · intro w'
    go_simp
    with_reducible rfl
  rotate_left
  · simp only [Act.put, sqA, sqZ, sqS, i64_w, i32_w]
    rfl
  refine pure_ (i := 19) (N := some 24) (v := ?_) (a' := ?_) (bz 27 715695).toArray rfl rfl (by kernel_rfl) (fun _ _ _ h => h) (Or.inl ⟨by rfl, ?_⟩) ?_ ?_
  rotate_left
  · intro w'
    go_simp
    with_reducible rfl
  rotate_left
  · simp only [Act.put, sqA, sqZ, sqS, i64_w, i32_w]
    rfl
  refine pure_ (i := 20) (N := some 25) (v := ?_) (a' := ?_) (bz 27 1764271).toArray rfl rfl (by kernel_rfl) (fun _ _ _ h => h) (Or.inl ⟨by rfl, ?_⟩) ?_ ?_
  rotate_left
  · intro w'
    go_simp
    with_reducible rfl
  rotate_left
  · simp only [Act.put, sqA, sqZ, sqS, i64_w, i32_w]
    rfl
  refine pure_ (i := 21) (N := some 26) (v := ?_) (a' := ?_) (bz 27 3861423).toArray rfl rfl (by kernel_rfl) (fun _ _ _ h => h) (Or.inl ⟨by rfl, ?_⟩) ?_ ?_
  rotate_left
  · intro w'
    go_simp
    with_reducible rfl
  rotate_left
  · simp only [Act.put, sqA, sqZ, sqS, i64_w, i32_w]
    rfl
  refine pure_ (i := 23) (N := some 28) (v := ?_) (a' := ?_) (bz 27 12250031).toArray rfl rfl (by kernel_rfl) (fun _ _ _ h => h) (Or.inl ⟨by rfl, ?_⟩) ?_ ?_
  rotate_left
  · intro w'
    go_simp
    with_reducible rfl
  rotate_left
  · simp only [Act.put, sqA, sqZ, sqS, i64_w, i32_w]
    rfl
  refine take_ (i := 4) (N := some 9) (v := ?_) (a' := ?_) (bz 27 12250047).toArray rfl rfl (by kernel_rfl) (fun _ _ _ h => h) (Or.inl ⟨by rfl, ?_⟩) hHeld ?_ ?_
  rotate_left
  · intro w' s0
    go_simp
    with_reducible rfl
  rotate_left
  · simp only [Act.put, sqA, sqZ, sqS, i64_w, i32_w]
    rfl
  refine take_ (i := 10) (N := some 15) (v := ?_) (a' := ?_) (bz 27 12251071).toArray rfl rfl (by kernel_rfl) (fun _ _ _ h => h) (Or.inl ⟨by rfl, ?_⟩) hHeld ?_ ?_
  rotate_left
  · intro w' s0
    go_simp
    with_reducible rfl
  rotate_left
  · simp only [Act.put, sqA, sqZ, sqS, i64_w, i32_w]
    rfl
  refine take_ (i := 16) (N := some 21) (v := ?_) (a' := ?_) (bz 27 12316607).toArray rfl rfl (by kernel_rfl) (fun _ _ _ h => h) (Or.inl ⟨by rfl, ?_⟩) hHeld ?_ ?_
  rotate_left
  · intro w' s0
    go_simp
    with_reducible rfl
  rotate_left
  · simp only [Act.put, sqA, sqZ, sqS, i64_w, i32_w]
    rfl
  refine take_ (i := 22) (N := some 27) (v := ?_) (a' := ?_) (bz 27 16510911).toArray rfl rfl (by kernel_rfl) (fun _ _ _ h => h) (Or.inl ⟨by rfl, ?_⟩) hHeld ?_ ?_
  rotate_left
  · intro w' s0
    go_simp
    with_reducible rfl
  rotate_left
  · simp only [Act.put, sqA, sqZ, sqS, i64_w, i32_w]
    rfl
  refine one_ (i := 6) (N := some 11) (bz 27 16510975).toArray rfl rfl (by kernel_rfl) (by decide) (fun K hK => ?_)
  refine goes_ Tryz.func59 (by kernel_rfl) rfl #[pt_ P.pa, .int .i64 id] (by rfl) rfl rfl (by simp only [List.map_toArray, List.map_cons, List.map_nil]; rfl) ?_
  with_reducible refine (kind_any R2.out.is.arena id).mono ?_
  rintro e w9 ⟨rfl, rfl⟩
  refine ⟨_, rfl, ?_⟩
  refine hK.out _ _ ((R2.out.is.xa)) (fun hHeld => ?_)
  clear hK K
  refine norm_ (a' := ?_) ?_ ?_
  rotate_left
  · show Act.put _ (some 11) _ = _
    simp only [Act.put, sqA, sqZ, sqS, i64_w, i32_w]
    rfl
  refine one_ (i := 12) (N := some 17) (bz 27 16515071).toArray rfl rfl (by kernel_rfl) (by decide) (fun K hK => ?_)
  refine goes_ Tryz.func101 (by kernel_rfl) rfl #[pt_ P.pa, .int .i64 id, .int .i64 0] (by rfl) rfl rfl (by simp only [List.map_toArray, List.map_cons, List.map_nil]; rfl) ?_
  with_reducible refine (val_any R2.out.is.arena id 0).mono ?_
  rintro e w9 ⟨rfl, rfl⟩
  refine ⟨_, rfl, ?_⟩
  refine hK.out _ _ ((R2.out.is.xa)) (fun hHeld => ?_)
  clear hK K
  refine norm_ (a' := ?_) ?_ ?_
  rotate_left
  · show Act.put _ (some 17) _ = _
    simp only [Act.put, sqA, sqZ, sqS, i64_w, i32_w]
    rfl
  refine one_ (i := 18) (N := some 23) (bz 27 16777215).toArray rfl rfl (by kernel_rfl) (by decide) (fun K hK => ?_)
  refine goes_ Tryz.func101 (by kernel_rfl) rfl #[pt_ P.pa, .int .i64 id, .int .i64 1] (by rfl) rfl rfl (by simp only [List.map_toArray, List.map_cons, List.map_nil]; rfl) ?_
  with_reducible refine (val_any R2.out.is.arena id 1).mono ?_
  rintro e w9 ⟨rfl, rfl⟩
  refine ⟨_, rfl, ?_⟩
  refine hK.out _ _ ((R2.out.is.xa)) (fun hHeld => ?_)
  clear hK K
  refine norm_ (a' := ?_) ?_ ?_
  rotate_left
  · show Act.put _ (some 23) _ = _
    simp only [Act.put, sqA, sqZ, sqS, i64_w, i32_w]
    rfl
  refine one_ (i := 24) (N := some 29) (bz 27 33554431).toArray rfl rfl (by kernel_rfl) (by decide) (fun K hK => ?_)
  refine goes_ Tryz.func101 (by kernel_rfl) rfl #[pt_ P.pa, .int .i64 id, .int .i64 2] (by rfl) rfl rfl (by simp only [List.map_toArray, List.map_cons, List.map_nil]; rfl) ?_
  with_reducible refine (val_any R2.out.is.arena id 2).mono ?_
  rintro e w9 ⟨rfl, rfl⟩
  refine ⟨_, rfl, ?_⟩
  refine hK.out _ _ ((R2.out.is.xa)) (fun hHeld => ?_)
  clear hK K
  refine norm_ (a' := ?_) ?_ ?_
  rotate_left
  · show Act.put _ (some 29) _ = _
    simp only [Act.put, sqA, sqZ, sqS, i64_w, i32_w]
    rfl
  refine pure_ (i := 25) (N := some 30) (v := ?_) (a' := ?_) (bz 27 67108863).toArray rfl rfl (by kernel_rfl) (fun _ _ _ h => h) (Or.inl ⟨by rfl, ?_⟩) ?_ ?_
  rotate_left
  · intro w'
    go_simp
    with_reducible rfl
  rotate_left
  · simp only [Act.put, sqA, sqZ, sqS, i64_w, i32_w]
    rfl
  refine last_ (i := 26) (N := none) (bz 27 134217727).toArray rfl rfl (by kernel_rfl) (by decide) (fun K hK => ?_)
  refine skip_ (w1 := ?_) (by rfl) rfl ?_ ?_
  rotate_left
  · go_simp
    rfl
  refine hK.out _ _ ?_
  clear hK K
  refine done_ (by kernel_rfl) ?_
  go_wp2_with fail
  refine bodyPost_ret (v := .agg #[.int .i64 id, .int .i64 (kindO (some S.a) id), .int .i64 (valO (some S.a) id 0), .int .i64 (valO (some S.a) id 1), .int .i64 (valO (some S.a) id 2)]) (by simp [results, Tryz.results84, go_sem]) rfl ⟨rfl, ?_⟩
  exact (((Below.refl _ _).alloc (Nat.le_refl _) _).drew)
end Go.Proofs.YtghjnkfocjjlnaaGreat
end
section
namespace Go.Proofs.YtghjnkfocjjlnaaGreat
set_option maxRecDepth 100000
open Go.RowKit Go.Proofs.YtghjnkfocjjlnaaGreatW.PrintWords Go.Proofs.YtghjnkfocjjlnaaGreatW.PrintLast
set_option linter.unusedVariables false
set_option linter.unusedSimpArgs false
theorem ret_i {a b : Int} (h : a = b) : Ending.returned (.int .i64 a) = .returned (.int .i64 b) := by rw [h]
set_option maxRecDepth 100000 in
set_option maxHeartbeats 4000000 in
theorem xheldS_any (n : Int) (w : World) : Calls Tryz.prog 165 #[.int .i64 n] w fun e w' => e = .returned (.int .i64 (heldS n)) ∧ w = w' := by
  go_enter Tryz.func165, Tryz.ntmps165
  go_wp2_with fail
  all_goals (go_ret; exact ⟨ret_i (by unfold heldS; omega), rfl⟩)
set_option maxRecDepth 100000 in
set_option maxHeartbeats 4000000 in
theorem xheldP_any (n a b : Int) (w : World) : Calls Tryz.prog 37 #[.int .i64 n, .int .i64 a, .int .i64 b] w fun e w' => e = .returned (.int .i64 (heldP n a b)) ∧ w = w' := by
  go_enter Tryz.func37, Tryz.ntmps37
  go_wp2_with fail
  all_goals (go_ret; exact ⟨ret_i (by unfold heldP; omega), rfl⟩)
set_option maxRecDepth 100000 in
set_option maxHeartbeats 4000000 in
theorem xclamp_any (p : PolR) (w : World) : Calls Tryz.prog 14 #[.agg #[.int .i64 p.high, .int .i64 p.low, .int .i64 p.cont, .int .i64 p.uncont, .int .i64 p.multi]] w fun e w' => e = .returned (.agg #[.int .i64 (clampP p).high, .int .i64 (clampP p).low, .int .i64 (clampP p).cont, .int .i64 (clampP p).uncont, .int .i64 (clampP p).multi]) ∧ Below w.heap.size w w' := by
  have E0 := Lib.hid ((((Below.refl _ _).alloc (Nat.le_refl _) (.cells #[.int .i64 0, .int .i64 0, .int .i64 0, .int .i64 0, .int .i64 0] 24)).block w.heap.size (by simp)).trans (heap_alloc_new w (.cells #[.int .i64 p.high, .int .i64 p.low, .int .i64 p.cont, .int .i64 p.uncont, .int .i64 p.multi] 24)))
  go_enter Tryz.func14, Tryz.ntmps14
  go_wp2_with fail
  refine start_ (n := 17) (S := fun w' => w'.cell? ⟨w.heap.size, 0, none⟩ = some (.int .i64 p.high) ∧ w'.cell? ⟨w.heap.size, 1, none⟩ = some (.int .i64 p.low) ∧ w'.cell? ⟨w.heap.size, 2, none⟩ = some (.int .i64 p.cont) ∧ w'.cell? ⟨w.heap.size, 3, none⟩ = some (.int .i64 p.uncont) ∧ w'.cell? ⟨w.heap.size, 4, none⟩ = some (.int .i64 p.multi)) (ds := [16]) (bz 17 0).toArray (by kernel_rfl) rfl rfl ⟨(cell_blk (i := 0) (w := ((w.alloc (.cells #[.int .i64 p.high, .int .i64 p.low, .int .i64 p.cont, .int .i64 p.uncont, .int .i64 p.multi] 24)).alloc (.cells #[.int .i64 0, .int .i64 0, .int .i64 0, .int .i64 0, .int .i64 0] 24)).drew) E0.out rfl), (cell_blk (i := 1) (w := ((w.alloc (.cells #[.int .i64 p.high, .int .i64 p.low, .int .i64 p.cont, .int .i64 p.uncont, .int .i64 p.multi] 24)).alloc (.cells #[.int .i64 0, .int .i64 0, .int .i64 0, .int .i64 0, .int .i64 0] 24)).drew) E0.out rfl), (cell_blk (i := 2) (w := ((w.alloc (.cells #[.int .i64 p.high, .int .i64 p.low, .int .i64 p.cont, .int .i64 p.uncont, .int .i64 p.multi] 24)).alloc (.cells #[.int .i64 0, .int .i64 0, .int .i64 0, .int .i64 0, .int .i64 0] 24)).drew) E0.out rfl), (cell_blk (i := 3) (w := ((w.alloc (.cells #[.int .i64 p.high, .int .i64 p.low, .int .i64 p.cont, .int .i64 p.uncont, .int .i64 p.multi] 24)).alloc (.cells #[.int .i64 0, .int .i64 0, .int .i64 0, .int .i64 0, .int .i64 0] 24)).drew) E0.out rfl), (cell_blk (i := 4) (w := ((w.alloc (.cells #[.int .i64 p.high, .int .i64 p.low, .int .i64 p.cont, .int .i64 p.uncont, .int .i64 p.multi] 24)).alloc (.cells #[.int .i64 0, .int .i64 0, .int .i64 0, .int .i64 0, .int .i64 0] 24)).drew) E0.out rfl)⟩ (fun hHeld => ?_)
  refine pure_ (i := 0) (N := some 3) (v := ?_) (a' := ?_) (bz 17 1).toArray rfl rfl (by kernel_rfl) (fun _ _ _ h => h) (Or.inl ⟨by rfl, ?_⟩) ?_ ?_
  rotate_left
  · intro w'
    go_simp
    with_reducible rfl
  rotate_left
  · simp only [Act.put, sqA, sqZ, sqS, i64_w, i32_w]
    rfl
  refine pure_ (i := 3) (N := some 6) (v := ?_) (a' := ?_) (bz 17 9).toArray rfl rfl (by kernel_rfl) (fun _ _ _ h => h) (Or.inl ⟨by rfl, ?_⟩) ?_ ?_
  rotate_left
  · intro w'
    go_simp
    with_reducible rfl
  rotate_left
  · simp only [Act.put, sqA, sqZ, sqS, i64_w, i32_w]
    rfl
  refine pure_ (i := 6) (N := some 9) (v := ?_) (a' := ?_) (bz 17 73).toArray rfl rfl (by kernel_rfl) (fun _ _ _ h => h) (Or.inl ⟨by rfl, ?_⟩) ?_ ?_
  rotate_left
  · intro w'
    go_simp
    with_reducible rfl
  rotate_left
  · simp only [Act.put, sqA, sqZ, sqS, i64_w, i32_w]
    rfl
  refine pure_ (i := 9) (N := some 12) (v := ?_) (a' := ?_) (bz 17 585).toArray rfl rfl (by kernel_rfl) (fun _ _ _ h => h) (Or.inl ⟨by rfl, ?_⟩) ?_ ?_
  rotate_left
  · intro w'
    go_simp
    with_reducible rfl
  rotate_left
  · simp only [Act.put, sqA, sqZ, sqS, i64_w, i32_w]
    rfl
  refine pure_ (i := 12) (N := some 15) (v := ?_) (a' := ?_) (bz 17 4681).toArray rfl rfl (by kernel_rfl) (fun _ _ _ h => h) (Or.inl ⟨by rfl, ?_⟩) ?_ ?_
  rotate_left
  · intro w'
    go_simp
    with_reducible rfl
  rotate_left
  · simp only [Act.put, sqA, sqZ, sqS, i64_w, i32_w]
    rfl
  refine take_ (i := 1) (N := some 4) (v := ?_) (a' := ?_) (bz 17 4683).toArray rfl rfl (by kernel_rfl) (fun _ _ _ h => h) (Or.inl ⟨by rfl, ?_⟩) hHeld ?_ ?_
  rotate_left
  · rintro w' ⟨s0, s1, s2, s3, s4⟩
    go_simp
    with_reducible rfl
  rotate_left
  · simp only [Act.put, sqA, sqZ, sqS, i64_w, i32_w]
    rfl
  refine take_ (i := 4) (N := some 7) (v := ?_) (a' := ?_) (bz 17 4699).toArray rfl rfl (by kernel_rfl) (fun _ _ _ h => h) (Or.inl ⟨by rfl, ?_⟩) hHeld ?_ ?_
  rotate_left
  · rintro w' ⟨s0, s1, s2, s3, s4⟩
    go_simp
    with_reducible rfl
  rotate_left
  · simp only [Act.put, sqA, sqZ, sqS, i64_w, i32_w]
    rfl
  refine take_ (i := 7) (N := some 10) (v := ?_) (a' := ?_) (bz 17 4827).toArray rfl rfl (by kernel_rfl) (fun _ _ _ h => h) (Or.inl ⟨by rfl, ?_⟩) hHeld ?_ ?_
  rotate_left
  · rintro w' ⟨s0, s1, s2, s3, s4⟩
    go_simp
    with_reducible rfl
  rotate_left
  · simp only [Act.put, sqA, sqZ, sqS, i64_w, i32_w]
    rfl
  refine take_ (i := 10) (N := some 13) (v := ?_) (a' := ?_) (bz 17 5851).toArray rfl rfl (by kernel_rfl) (fun _ _ _ h => h) (Or.inl ⟨by rfl, ?_⟩) hHeld ?_ ?_
  rotate_left
  · rintro w' ⟨s0, s1, s2, s3, s4⟩
    go_simp
    with_reducible rfl
  rotate_left
  · simp only [Act.put, sqA, sqZ, sqS, i64_w, i32_w]
    rfl
  refine take_ (i := 13) (N := some 16) (v := ?_) (a' := ?_) (bz 17 14043).toArray rfl rfl (by kernel_rfl) (fun _ _ _ h => h) (Or.inl ⟨by rfl, ?_⟩) hHeld ?_ ?_
  rotate_left
  · rintro w' ⟨s0, s1, s2, s3, s4⟩
    go_simp
    with_reducible rfl
  rotate_left
  · simp only [Act.put, sqA, sqZ, sqS, i64_w, i32_w]
    rfl
  refine one_ (i := 2) (N := some 5) (bz 17 14047).toArray rfl rfl (by kernel_rfl) (by decide) (fun K hK => ?_)
  refine goes_ Tryz.func37 (by kernel_rfl) rfl #[.int .i64 p.high, .int .i64 (1), .int .i64 (100000)] (by rfl) rfl rfl (by simp only [List.map_toArray, List.map_cons, List.map_nil]; rfl) ?_
  with_reducible refine (xheldP_any p.high (1) (100000) _).mono ?_
  rintro e w9 ⟨rfl, rfl⟩
  refine ⟨_, rfl, ?_⟩
  refine hK.out _ _ ⟨hHeld.1, hHeld.2.1, hHeld.2.2.1, hHeld.2.2.2.1, hHeld.2.2.2.2⟩ (fun hHeld => ?_)
  clear hK K
  refine norm_ (a' := ?_) ?_ ?_
  rotate_left
  · show Act.put _ (some 5) _ = _
    simp only [Act.put, sqA, sqZ, sqS, i64_w, i32_w]
    rfl
  refine one_ (i := 5) (N := some 8) (bz 17 14079).toArray rfl rfl (by kernel_rfl) (by decide) (fun K hK => ?_)
  refine goes_ Tryz.func37 (by kernel_rfl) rfl #[.int .i64 p.low, .int .i64 (-100000), .int .i64 (0)] (by rfl) rfl rfl (by simp only [List.map_toArray, List.map_cons, List.map_nil]; rfl) ?_
  with_reducible refine (xheldP_any p.low (-100000) (0) _).mono ?_
  rintro e w9 ⟨rfl, rfl⟩
  refine ⟨_, rfl, ?_⟩
  refine hK.out _ _ ⟨hHeld.1, hHeld.2.1, hHeld.2.2.1, hHeld.2.2.2.1, hHeld.2.2.2.2⟩ (fun hHeld => ?_)
  clear hK K
  refine norm_ (a' := ?_) ?_ ?_
  rotate_left
  · show Act.put _ (some 8) _ = _
    simp only [Act.put, sqA, sqZ, sqS, i64_w, i32_w]
    rfl
  refine one_ (i := 8) (N := some 11) (bz 17 14335).toArray rfl rfl (by kernel_rfl) (by decide) (fun K hK => ?_)
  refine goes_ Tryz.func37 (by kernel_rfl) rfl #[.int .i64 p.cont, .int .i64 (-100000), .int .i64 (100000)] (by rfl) rfl rfl (by simp only [List.map_toArray, List.map_cons, List.map_nil]; rfl) ?_
  with_reducible refine (xheldP_any p.cont (-100000) (100000) _).mono ?_
  rintro e w9 ⟨rfl, rfl⟩
  refine ⟨_, rfl, ?_⟩
  refine hK.out _ _ ⟨hHeld.1, hHeld.2.1, hHeld.2.2.1, hHeld.2.2.2.1, hHeld.2.2.2.2⟩ (fun hHeld => ?_)
  clear hK K
  refine norm_ (a' := ?_) ?_ ?_
  rotate_left
  · show Act.put _ (some 11) _ = _
    simp only [Act.put, sqA, sqZ, sqS, i64_w, i32_w]
    rfl
  refine one_ (i := 11) (N := some 14) (bz 17 16383).toArray rfl rfl (by kernel_rfl) (by decide) (fun K hK => ?_)
  refine goes_ Tryz.func37 (by kernel_rfl) rfl #[.int .i64 p.uncont, .int .i64 (-100000), .int .i64 (100000)] (by rfl) rfl rfl (by simp only [List.map_toArray, List.map_cons, List.map_nil]; rfl) ?_
  with_reducible refine (xheldP_any p.uncont (-100000) (100000) _).mono ?_
  rintro e w9 ⟨rfl, rfl⟩
  refine ⟨_, rfl, ?_⟩
  refine hK.out _ _ ⟨hHeld.1, hHeld.2.1, hHeld.2.2.1, hHeld.2.2.2.1, hHeld.2.2.2.2⟩ (fun hHeld => ?_)
  clear hK K
  refine norm_ (a' := ?_) ?_ ?_
  rotate_left
  · show Act.put _ (some 14) _ = _
    simp only [Act.put, sqA, sqZ, sqS, i64_w, i32_w]
    rfl
  refine one_ (i := 14) (N := some 17) (bz 17 32767).toArray rfl rfl (by kernel_rfl) (by decide) (fun K hK => ?_)
  refine goes_ Tryz.func37 (by kernel_rfl) rfl #[.int .i64 p.multi, .int .i64 (-100000), .int .i64 (100000)] (by rfl) rfl rfl (by simp only [List.map_toArray, List.map_cons, List.map_nil]; rfl) ?_
  with_reducible refine (xheldP_any p.multi (-100000) (100000) _).mono ?_
  rintro e w9 ⟨rfl, rfl⟩
  refine ⟨_, rfl, ?_⟩
  refine hK.out _ _ ⟨hHeld.1, hHeld.2.1, hHeld.2.2.1, hHeld.2.2.2.1, hHeld.2.2.2.2⟩ (fun hHeld => ?_)
  clear hK K
  refine norm_ (a' := ?_) ?_ ?_
  rotate_left
  · show Act.put _ (some 17) _ = _
    simp only [Act.put, sqA, sqZ, sqS, i64_w, i32_w]
    rfl
  refine pure_ (i := 15) (N := some 18) (v := ?_) (a' := ?_) (bz 17 65535).toArray rfl rfl (by kernel_rfl) (fun _ _ _ h => h) (Or.inl ⟨by rfl, ?_⟩) ?_ ?_
  rotate_left
  · intro w'
    go_simp
    with_reducible rfl
  rotate_left
  · simp only [Act.put, sqA, sqZ, sqS, i64_w, i32_w]
    rfl
  refine last_ (i := 16) (N := none) (bz 17 131071).toArray rfl rfl (by kernel_rfl) (by decide) (fun K hK => ?_)
  refine skip_ (w1 := ?_) (by rfl) rfl ?_ ?_
  rotate_left
  · go_simp
    rfl
  refine hK.out _ _ ?_
  clear hK K
  refine done_ (by kernel_rfl) ?_
  go_wp2_with fail
  refine bodyPost_ret (v := .agg #[.int .i64 (heldP p.high (1) (100000)), .int .i64 (heldP p.low (-100000) (0)), .int .i64 (heldP p.cont (-100000) (100000)), .int .i64 (heldP p.uncont (-100000) (100000)), .int .i64 (heldP p.multi (-100000) (100000))]) (by simp [results, Tryz.results14, go_sem]) rfl ⟨rfl, ?_⟩
  exact (((Below.refl _ _).alloc (Nat.le_refl _) _).alloc (by simp) _).drew
theorem clamp_bd (p : PolR) : -100000 ≤ (clampP p).cont ∧ (clampP p).cont ≤ 100000 ∧ -100000 ≤ (clampP p).uncont ∧ (clampP p).uncont ≤ 100000 ∧ -100000 ≤ (clampP p).multi ∧ (clampP p).multi ≤ 100000 := by
  unfold clampP heldP; simp only []; omega
theorem heldS_bd (n : Int) : -1000000 ≤ heldS n ∧ heldS n ≤ 1000000 := by unfold heldS; omega
set_option maxRecDepth 100000 in
set_option maxHeartbeats 4000000 in
theorem xnext1 (p : PolR) (s : Int) (w : World) : Calls Tryz.prog 130 #[.agg #[.int .i64 p.high, .int .i64 p.low, .int .i64 p.cont, .int .i64 p.uncont, .int .i64 p.multi], .int .i64 s, .int .i64 1] w fun e w' => e = .returned (.int .i64 (nextS p s 1)) ∧ Below w.heap.size w w' := by
  have E0 := Lib.hid (heap_alloc_new w (.cells #[.int .i64 p.high, .int .i64 p.low, .int .i64 p.cont, .int .i64 p.uncont, .int .i64 p.multi] 24))
  obtain ⟨q1, q2, q3, q4, q5, q6⟩ := clamp_bd p
  obtain ⟨t1, t2⟩ := heldS_bd s
  have HC := Lib.hid (fun w' => xclamp_any p w')
  obtain ⟨hs, ehs⟩ : ∃ x, x = heldS s := ⟨_, rfl⟩
  obtain ⟨cp, ecp⟩ : ∃ x, x = clampP p := ⟨_, rfl⟩
  rw [← ecp] at q1 q2 q3 q4 q5 q6
  rw [← ehs] at t1 t2
  go_enter Tryz.func130, Tryz.ntmps130
  go_wp2_with fail
  refine (HC.out _).mono ?_
  rintro e w1 ⟨rfl, b1⟩
  have E1 := Lib.hid ((b1.block w.heap.size (by simp)).trans E0.out)
  have B1 := Lib.hid (((Below.refl w.heap.size w).alloc (Nat.le_refl _) (.cells #[.int .i64 p.high, .int .i64 p.low, .int .i64 p.cont, .int .i64 p.uncont, .int .i64 p.multi] 24)).trans (b1.mono (by simp))); clear b1
  have z1 : w.heap.size < w1.heap.size := (Array.getElem?_eq_some_iff.1 E1.out).1
  have z0 := cell_blk (i := 0) E1.out rfl
  have z2 := cell_blk (i := 1) E1.out rfl
  have z3 := cell_blk (i := 2) E1.out rfl
  have z4 := cell_blk (i := 3) E1.out rfl
  have z5 := cell_blk (i := 4) E1.out rfl
  have g0 := free_blk (i := 0) E1.out
  have g1 := free_blk (i := 1) E1.out
  have g2 := free_blk (i := 2) E1.out
  have g3 := free_blk (i := 3) E1.out
  have g4 := free_blk (i := 4) E1.out
  rw [← ecp]
  go_wp2_with fail
  refine (xheldS_any s _).mono ?_
  rintro e w2 ⟨rfl, rfl⟩
  rw [← ehs]
  go_wp2_with fail
  refine (xheldS_any _ _).mono ?_
  rintro e w3 ⟨rfl, rfl⟩
  go_wp2_with fail
  go_ret
  exact ⟨ret_i (by subst ecp ehs; unfold nextS; rw [if_pos rfl]; congr 1; unfold wrap64; omega), (((((B1.out.setCell (Nat.le_refl _) _).setCell (Nat.le_refl _) _).setCell (Nat.le_refl _) _).setCell (Nat.le_refl _) _).setCell (Nat.le_refl _) _)⟩
set_option maxRecDepth 100000 in
set_option maxHeartbeats 4000000 in
theorem xnext2 (p : PolR) (s : Int) (w : World) : Calls Tryz.prog 130 #[.agg #[.int .i64 p.high, .int .i64 p.low, .int .i64 p.cont, .int .i64 p.uncont, .int .i64 p.multi], .int .i64 s, .int .i64 2] w fun e w' => e = .returned (.int .i64 (nextS p s 2)) ∧ Below w.heap.size w w' := by
  have E0 := Lib.hid (heap_alloc_new w (.cells #[.int .i64 p.high, .int .i64 p.low, .int .i64 p.cont, .int .i64 p.uncont, .int .i64 p.multi] 24))
  obtain ⟨q1, q2, q3, q4, q5, q6⟩ := clamp_bd p
  obtain ⟨t1, t2⟩ := heldS_bd s
  have HC := Lib.hid (fun w' => xclamp_any p w')
  obtain ⟨hs, ehs⟩ : ∃ x, x = heldS s := ⟨_, rfl⟩
  obtain ⟨cp, ecp⟩ : ∃ x, x = clampP p := ⟨_, rfl⟩
  rw [← ecp] at q1 q2 q3 q4 q5 q6
  rw [← ehs] at t1 t2
  go_enter Tryz.func130, Tryz.ntmps130
  go_wp2_with fail
  refine (HC.out _).mono ?_
  rintro e w1 ⟨rfl, b1⟩
  have E1 := Lib.hid ((b1.block w.heap.size (by simp)).trans E0.out)
  have B1 := Lib.hid (((Below.refl w.heap.size w).alloc (Nat.le_refl _) (.cells #[.int .i64 p.high, .int .i64 p.low, .int .i64 p.cont, .int .i64 p.uncont, .int .i64 p.multi] 24)).trans (b1.mono (by simp))); clear b1
  have z1 : w.heap.size < w1.heap.size := (Array.getElem?_eq_some_iff.1 E1.out).1
  have z0 := cell_blk (i := 0) E1.out rfl
  have z2 := cell_blk (i := 1) E1.out rfl
  have z3 := cell_blk (i := 2) E1.out rfl
  have z4 := cell_blk (i := 3) E1.out rfl
  have z5 := cell_blk (i := 4) E1.out rfl
  have g0 := free_blk (i := 0) E1.out
  have g1 := free_blk (i := 1) E1.out
  have g2 := free_blk (i := 2) E1.out
  have g3 := free_blk (i := 3) E1.out
  have g4 := free_blk (i := 4) E1.out
  rw [← ecp]
  go_wp2_with fail
  refine (xheldS_any s _).mono ?_
  rintro e w2 ⟨rfl, rfl⟩
  rw [← ehs]
  go_wp2_with fail
  refine (xheldS_any _ _).mono ?_
  rintro e w3 ⟨rfl, rfl⟩
  go_wp2_with fail
  go_ret
  exact ⟨ret_i (by subst ecp ehs; unfold nextS; rw [if_neg (by decide), if_pos rfl]; congr 1; unfold wrap64; omega), (((((B1.out.setCell (Nat.le_refl _) _).setCell (Nat.le_refl _) _).setCell (Nat.le_refl _) _).setCell (Nat.le_refl _) _).setCell (Nat.le_refl _) _)⟩
set_option maxRecDepth 100000 in
set_option maxHeartbeats 4000000 in
theorem xdecide_any (p : PolR) (s : Int) (w : World) : Calls Tryz.prog 133 #[.agg #[.int .i64 p.high, .int .i64 p.low, .int .i64 p.cont, .int .i64 p.uncont, .int .i64 p.multi], .int .i64 s] w fun e w' => e = .returned (.int .i64 (decideS p s)) ∧ Below w.heap.size w w' := by
  have E0 := Lib.hid (heap_alloc_new w (.cells #[.int .i64 p.high, .int .i64 p.low, .int .i64 p.cont, .int .i64 p.uncont, .int .i64 p.multi] 24))
  obtain ⟨q1, q2, q3, q4, q5, q6⟩ := clamp_bd p
  obtain ⟨t1, t2⟩ := heldS_bd s
  have HC := Lib.hid (fun w' => xclamp_any p w')
  obtain ⟨hs, ehs⟩ : ∃ x, x = heldS s := ⟨_, rfl⟩
  obtain ⟨cp, ecp⟩ : ∃ x, x = clampP p := ⟨_, rfl⟩
  rw [← ecp] at q1 q2 q3 q4 q5 q6
  rw [← ehs] at t1 t2
  go_enter Tryz.func133, Tryz.ntmps133
  go_wp2_with fail
  refine (HC.out _).mono ?_
  rintro e w1 ⟨rfl, b1⟩
  have E1 := Lib.hid ((b1.block w.heap.size (by simp)).trans E0.out)
  have B1 := Lib.hid (((Below.refl w.heap.size w).alloc (Nat.le_refl _) (.cells #[.int .i64 p.high, .int .i64 p.low, .int .i64 p.cont, .int .i64 p.uncont, .int .i64 p.multi] 24)).trans (b1.mono (by simp))); clear b1
  have z1 : w.heap.size < w1.heap.size := (Array.getElem?_eq_some_iff.1 E1.out).1
  have z0 := cell_blk (i := 0) E1.out rfl
  have z2 := cell_blk (i := 1) E1.out rfl
  have z3 := cell_blk (i := 2) E1.out rfl
  have z4 := cell_blk (i := 3) E1.out rfl
  have z5 := cell_blk (i := 4) E1.out rfl
  have g0 := free_blk (i := 0) E1.out
  have g1 := free_blk (i := 1) E1.out
  have g2 := free_blk (i := 2) E1.out
  have g3 := free_blk (i := 3) E1.out
  have g4 := free_blk (i := 4) E1.out
  rw [← ecp]
  go_wp2_with fail
  refine (xheldS_any s _).mono ?_
  rintro e w2 ⟨rfl, rfl⟩
  rw [← ehs]
  go_wp2_with fail
  all_goals (go_ret; exact ⟨ret_i (by subst ecp ehs; unfold decideS; first | (rw [if_pos (by omega)]) | (rw [if_neg (by omega), if_pos (by omega)]) | (rw [if_neg (by omega), if_neg (by omega)])), (((((B1.out.setCell (Nat.le_refl _) _).setCell (Nat.le_refl _) _).setCell (Nat.le_refl _) _).setCell (Nat.le_refl _) _).setCell (Nat.le_refl _) _)⟩)
end Go.Proofs.YtghjnkfocjjlnaaGreat
end
