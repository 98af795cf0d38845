/- The walks of Pairs, Laid. -/
import Derived.Test.YtkcfkanfdbejiaaListW2
import Derived.Test.YtkcfkanfdbejiaaGrow
import Derived.Test.YtkcfkanfdbejiaaTree
namespace Go.Proofs.Ytkcfkanfdbejiaa
set_option maxRecDepth 100000
open Go.RowKit Go.Proofs.Ytkcfkanfdbejiaa.Mix

/-- A slice of pairs beside an arena. -/
structure PK (w : World) (F : Nat → Prop) (ad : Option Addr) (c : Nat) (l : List Pr) : Prop where
  pin : PIn w ad c l
  free : l ≠ [] → ∀ x, ad = some x → ¬ F x.block
theorem PK.grow {w w' : World} {F F' : Nat → Prop} {ad : Option Addr} {c : Nat} {l : List Pr} (h : PK w F ad c l) (hg : Grow F w F' w') : PK w' F' ad c l := by
  by_cases h0 : l = []
  · exact ⟨⟨.inl h0, h.pin.room, h.pin.most⟩, fun hn => absurd h0 hn⟩
  · rcases h.pin.at_ with h1 | ⟨b, off, rfl, hc⟩
    · exact absurd h1 h0
    · have hb : b < w.heap.size := World.block_lt_of_cell? w _ (hc 0 (List.length_pos_iff.2 h0)).1
      have hf := h.free h0 _ rfl
      have he := hg.1.block b hb hf
      refine ⟨⟨.inr ⟨b, off, rfl, fun j hj => ?_⟩, h.pin.room, h.pin.most⟩, fun _ x hx => ?_⟩
      · obtain ⟨h1, h2⟩ := hc j hj
        have hcell : ∀ o, w'.cell? ⟨b, o, none⟩ = w.cell? ⟨b, o, none⟩ := fun o => by simp [World.cell?, he]
        rw [hcell, hcell]; exact ⟨h1, h2⟩
      · obtain rfl := Option.some.inj hx
        exact fun hh => (hg.2 b hh).elim hf (fun h => by omega)
theorem PK.later {w w' : World} {F : Nat → Prop} {ad : Option Addr} {c : Nat} {l : List Pr} (h : PK w F ad c l) (hb : Below w.heap.size w w') : PK w' F ad c l := h.grow (.of_below hb)
theorem PK.take {w : World} {F : Nat → Prop} {ad : Option Addr} {c : Nat} {l : List Pr} (h : PK w F ad c l) (m : Nat) : PK w F ad c (l.take m) :=
  ⟨h.pin.take m, fun hn x hx => h.free (fun e => hn (by rw [e, List.take_nil])) x hx⟩
theorem PK.drop {w : World} {F : Nat → Prop} {ad : Option Addr} {c : Nat} {l : List Pr} (h : PK w F ad c l) (m : Nat) (hm : m ≤ l.length) : PK w F (if c = m then ad else ad.map (·.add (m * 2))) (c - m) (l.drop m) := by
  refine ⟨h.pin.drop m hm, fun hn x hx => ?_⟩
  have hl : l ≠ [] := fun e => hn (by rw [e, List.drop_nil])
  by_cases e : c = m
  · rw [if_pos e] at hx; exact h.free hl x hx
  · rw [if_neg e] at hx
    rcases h.pin.at_ with h1 | ⟨b, off, rfl, hc⟩
    · exact absurd h1 hl
    · have : (⟨b, off, none⟩ : Addr).add (m * 2) = ⟨b, off + m * 2, none⟩ := by unfold Addr.add; split <;> simp_all
      simp [this] at hx
      subst hx
      exact (h.free hl ⟨b, off, none⟩ rfl : ¬ F b)
theorem subK_from {ad : Option Addr} {c : Nat} {l : List Pr} (m : Nat) (hm : m ≤ l.length) : ∃ A2 c2 n2, n2 = (l.drop m).length ∧
    (∀ W : World, (Instr.slice 22 (.slice ad l.length c) (some (.int .i64 (m : Int))) none none).run Try.prog W = .ok (.slice A2 n2 c2) W) ∧ ∀ w F, PK w F ad c l → PK w F A2 c2 (l.drop m) :=
  ⟨_, _, _, rfl, fun W => by rw [cutP_from ad l.length c m hm W, List.length_drop], fun w F h => h.drop m hm⟩
theorem PK.cells {w : World} {F : Nat → Prop} {ad : Option Addr} {c : Nat} {l : List Pr} (h : PK w F ad c l) {k : Nat} (hk : k < l.length) :
    ∃ b off, ad = some ⟨b, off, none⟩ ∧ ∀ w' F', PK w' F' ad c l → w'.cell? ⟨b, off + k * 2, none⟩ = some (.int .i64 (l[k]).1) ∧ w'.cell? ⟨b, off + k * 2 + 1, none⟩ = some (.int .i64 (l[k]).2) := by
  rcases h.pin.at_ with h0 | ⟨b, off, rfl, hc⟩
  · subst h0; simp at hk
  · refine ⟨b, off, rfl, fun w' F' h' => ?_⟩
    rcases h'.pin.at_ with h0 | ⟨b', off', he, hc'⟩
    · subst h0; simp at hk
    · obtain ⟨rfl, rfl⟩ : b = b' ∧ off = off' := by simpa using he
      exact hc' k hk

set_option maxRecDepth 100000 in
set_option maxHeartbeats 4000000 in
theorem pairs_any (W : World) {ad : Option Addr} {c : Nat} {raw : List Pr} (hl : PIn W ad c raw) (most : Int) (hm0 : 0 ≤ most) (hm1 : most ≤ 1000000) :
    Calls Try.prog 12 #[.slice ad raw.length c, .int .i64 most] W fun e w' => ∃ ad' c', e = .returned (.slice ad' (pairs raw most).length c') ∧ PIn w' ad' c' (pairs raw most) ∧ (∀ x, ad' = some x → W.heap.size ≤ x.block) ∧ Below W.heap.size W w' := by
  have hlen : raw.length ≤ 9223372036854775807 := by have := hl.room; have := hl.most; unfold maxLen at this; omega
  have HL := Lib.hid hl; clear hl
  go_enter Try.func12, Try.ntmps12
  go_wp2_with fail
  go_loopw [5, 10] (fun v i wr => ∃ k : Nat, k ≤ raw.length ∧ i = .int .i64 k ∧ ∃ ad' c', v = .slice ad' (pairsB raw most k).length c' ∧ Hid (PIn wr ad' c' (pairsB raw most k) ∧ (∀ x, ad' = some x → W.heap.size ≤ x.block) ∧ Below W.heap.size W wr)) (fun _ i _ => raw.length - (intOf i).toNat)
  case atStart => exact ⟨0, Nat.zero_le _, rfl, none, 0, rfl, Lib.hid ⟨⟨.inl rfl, Nat.le_refl _, by decide⟩, by simp, Below.refl _ _⟩⟩
  case round =>
    obtain ⟨k, hk, rfl, ad', c', rfl, HR⟩ := hrel
    have hz := HR.out.2.2.size
    by_cases hlt : k < raw.length
    · obtain ⟨b, off, rfl, d0, d1⟩ := HL.out.cell HR.out.2.2 HL.out.lt hlt
      have hpl := pairsB_len raw most hm0 k
      have hge : raw.getD k (0, 0) = raw[k] := by rw [List.getD_eq_getElem?_getD, List.getElem?_eq_getElem hlt]; rfl
      have hsn : pairsB raw most (k + 1) = if (k : Int) < most then withP (pairsB raw most k) raw[k] else pairsB raw most k := by
        rw [← hge]; rfl
      generalize hx : raw[k] = x at hsn d0 d1
      obtain ⟨xk, xv⟩ := x
      simp only [] at d0 d1
      have hbl : b < wr.heap.size := World.block_lt_of_cell? wr _ d0
      clear hge hx
      have hb1 : Below wr.heap.size wr (wr.alloc (.cells #[.int .i64 xk, .int .i64 xv] 24)) := (Below.refl _ _).alloc (Nat.le_refl _) _
      by_cases hlm : (k : Int) < most
      · rw [if_pos hlm] at hsn
        have hw := with_any (wr.alloc (.cells #[.int .i64 xk, .int .i64 xv] 24)) (HR.out.1.later hb1) (by omega) (xk, xv)
        simp only [] at hw
        generalize hp : pairsB raw most k = p at HR hsn hw hpl ⊢
        have HW := Lib.hid hw; clear hw
        have HB1 := Lib.hid hb1; clear hb1
        have HSN := Lib.hid hsn; clear hsn hp
        go_wp2_with fail
        refine HW.out.mono ?_
        rintro e w1 ⟨ad2, c2, rfl, p2, n2, b2⟩
        have hfin : PIn w1 ad2 c2 (pairsB raw most (k + 1)) ∧ (∀ x, ad2 = some x → W.heap.size ≤ x.block) ∧ Below W.heap.size W w1 := by
          rw [HSN.out]
          exact ⟨p2, fun x hx => by have := n2 x hx; simp at this; omega, HR.out.2.2.trans (((HB1.out.trans (b2.mono (by simp)))).mono hz)⟩
        have HF := Lib.hid hfin; clear hfin p2 n2 b2
        go_wp2_with fail
        go_roundw
        case rel => exact ⟨k + 1, by omega, by go_num, ad2, c2, by rw [HSN.out], HF⟩
        case measure => simp [intOf]; omega
      · rw [if_neg hlm] at hsn
        have hfin : PIn (wr.alloc (.cells #[.int .i64 xk, .int .i64 xv] 24)) ad' c' (pairsB raw most (k + 1)) ∧ (∀ x, ad' = some x → W.heap.size ≤ x.block) ∧ Below W.heap.size W (wr.alloc (.cells #[.int .i64 xk, .int .i64 xv] 24)) := by
          rw [hsn]
          exact ⟨HR.out.1.later hb1, HR.out.2.1, HR.out.2.2.trans (hb1.mono hz)⟩
        have HF := Lib.hid hfin; clear hfin hb1
        have HSN := Lib.hid hsn; clear hsn
        go_wp2_with fail
        go_roundw
        case rel => exact ⟨k + 1, by omega, by go_num, ad', c', by rw [HSN.out], HF⟩
        case measure => simp [intOf]; omega
    · have hkl : k = raw.length := by omega
      subst hkl
      go_wp2_with fail
      go_ret
      exact ⟨ad', c', rfl, HR.out.1, HR.out.2.1, HR.out.2.2⟩

/-- What Laid answers where there is room. -/
def LaidPost (w : World) (p : Nat) (a : Ar) (F : Nat → Prop) (l : List Pr) : Ending → World → Prop := fun e w' =>
  ∃ t a', e = .returned (.tuple #[.int .i64 t, .bool true]) ∧ (∃ F', OAt w' (some ⟨p, 0, none⟩) (some a') F' ∧ Grow F w F' w') ∧ Ext a a' ∧ a'.slots.length = a.slots.length + l.length ∧ Tr a' t l ∧ AllTr a' a.slots.length

set_option maxRecDepth 100000 in
set_option maxHeartbeats 4000000 in
theorem laid_any (n : Nat) : ∀ (w : World) (p : Nat) (a : Ar) (F : Nat → Prop) (ad : Option Addr) (c : Nat) (l : List Pr), l.length ≤ n → l.length ≤ 1000000 → OAt w (some ⟨p, 0, none⟩) (some a) F → PK w F ad c l → (a.slots.length : Int) + l.length ≤ a.room →
    Calls Try.prog 14 #[.pointer (some ⟨p, 0, none⟩), .slice ad l.length c] w (LaidPost w p a F l) := by
  induction n with
  | zero =>
    intro w p a F ad c l hn _ ho hl hr
    have h0 : l = [] := List.eq_nil_of_length_eq_zero (by omega)
    subst h0
    have ht := top_any w hl.pin
    rw [show top ([] : List Pr) = -1 from rfl] at ht
    have HT := Lib.hid ht; clear ht hl
    have HO := Lib.hid ho; clear ho
    go_enter Try.func14, Try.ntmps14
    go_wp2_with fail
    refine HT.out.mono ?_
    rintro e w1 ⟨rfl, b1⟩
    have B1 := Lib.hid b1; clear b1
    go_wp2_with fail
    go_ret2
    exact ⟨0, a, rfl, ⟨F, HO.out.below B1.out, .of_below B1.out⟩, Ext.refl a, by simp, .nil, AllTr.refl a⟩
  | succ n ih =>
    intro w p a F ad c l hn hbig ho hl hr
    by_cases h0 : l = []
    · subst h0
      exact ih w p a F ad c [] (by simp) (by simp) ho hl hr
    · have hpos : 0 < l.length := List.length_pos_iff.2 h0
      obtain ⟨t1, t2, t3⟩ := top_bd l
      obtain ⟨m, hm⟩ : ∃ m : Nat, top l = m := ⟨(top l).toNat, by have := t3 hpos; omega⟩
      have hml : m < l.length := by omega
      have ht := top_any w hl.pin
      have hroom := hl.pin.room
      rw [hm] at ht
      have hlt : (l.take m).length = m := by rw [List.length_take]; omega
      have hld : (l.drop (m + 1)).length = l.length - (m + 1) := by rw [List.length_drop]
      obtain ⟨kv, hkv⟩ : ∃ kv, l[m] = kv := ⟨_, rfl⟩
      obtain ⟨k, v⟩ := kv
      have hsplit : l = l.take m ++ (k, v) :: l.drop (m + 1) := by
        rw [← hkv, List.getElem_cons_drop, List.take_append_drop]
      have hc1 : ∀ (w1 : World), Below w.heap.size w w1 → Calls Try.prog 14 #[.pointer (some ⟨p, 0, none⟩), .slice ad m c] w1 (LaidPost w1 p a F (l.take m)) := fun w1 hb => by
        have := ih w1 p a F ad c (l.take m) (by omega) (by omega) (ho.below hb) ((hl.later hb).take m) (by omega)
        rw [hlt] at this
        exact this
      obtain ⟨A2, c2, n2, hn2, hcut2, hP2⟩ := subK_from (ad := ad) (c := c) (m + 1) (show m + 1 ≤ l.length by omega)
      have hc2 : ∀ (w1 : World) (a1 : Ar) (F1 : Nat → Prop), Grow F w F1 w1 → OAt w1 (some ⟨p, 0, none⟩) (some a1) F1 → Ext a a1 → a1.slots.length = a.slots.length + (l.take m).length → Calls Try.prog 14 #[.pointer (some ⟨p, 0, none⟩), .slice A2 n2 c2] w1 (LaidPost w1 p a1 F1 (l.drop (m + 1))) := fun w1 a1 F1 hg ho1 he hlen => by
        have := ih w1 p a1 F1 _ _ (l.drop (m + 1)) (by omega) (by omega) ho1 (hP2 _ _ (hl.grow hg)) (by have := he.1; omega)
        rw [← hn2] at this
        exact this
      obtain ⟨b, off, rfl, hcell⟩ := hl.cells hml
      have hcells : ∀ w' F', Grow F w F' w' → w'.cell? ⟨b, off + m * 2, none⟩ = some (.int .i64 k) ∧ w'.cell? ⟨b, off + m * 2 + 1, none⟩ = some (.int .i64 v) := fun w' F' hg => by
        have := hcell w' F' (hl.grow hg)
        rw [hkv] at this
        exact this
      have hcut1 := cutP_to (some ⟨b, off, none⟩) l.length c m (by omega) hroom
      have e1 : ((m + 1 : Nat) : Int) = (m : Int) + 1 := by omega
      rw [e1] at hcut2
      have w64 : IntKind.i64.wrap ((m : Int) + 1) = (m : Int) + 1 := IntWalk.i64_in _ (by omega)
      have hlen64 : l.length ≤ 9223372036854775807 := by omega
      have HT := Lib.hid ht
      have HC1 := Lib.hid hc1
      have HC2 := Lib.hid hc2
      have HCE := Lib.hid hcells
      have HSP := Lib.hid hsplit
      have HTM := Lib.hid hm
      have HLT := Lib.hid hlt
      have HLD := Lib.hid hld
      have HRM := Lib.hid hr
      clear ht hc1 hc2 hcells hsplit hm hlt hld hr ih hl ho hcell hkv t1 t2 t3 h0 e1 hn2 hP2
      go_enter Try.func14, Try.ntmps14
      go_wp2_with fail
      refine HT.out.mono ?_
      rintro e w1 ⟨rfl, b1⟩
      have B1 := Lib.hid b1; clear b1
      go_wp2_with fail
      refine (HC1.out w1 B1.out).mono ?_
      rintro e w2 ⟨x, a2, rfl, ⟨F2, o2, g2⟩, x2, l2, tr2, al2⟩
      have G2 := Lib.hid ((Grow.of_below (F := F) B1.out).trans g2)
      have O2 := Lib.hid o2
      have X2 := Lib.hid x2
      have L2 := Lib.hid l2
      have T2 := Lib.hid tr2
      have AL2 := Lib.hid al2
      clear g2 o2 x2 l2 tr2 al2
      go_wp2_with fail
      refine (HC2.out w2 a2 F2 G2.out O2.out X2.out L2.out).mono ?_
      rintro e w3 ⟨y, a3, rfl, ⟨F3, o3, g3⟩, x3, l3, tr3, al3⟩
      have G3 := Lib.hid (G2.out.trans g3)
      have O3 := Lib.hid o3
      have X3 := Lib.hid x3
      have L3 := Lib.hid l3
      have T3 := Lib.hid tr3
      have AL3 := Lib.hid al3
      clear g3 o3 x3 l3 tr3 al3
      obtain ⟨d0, d1⟩ := HCE.out w3 F3 G3.out
      have hmk := make_tr (k := k) (v := v) (T2.out.ext X3.out) T3.out (by rw [← HSP.out, HLT.out, HTM.out]) (by rw [← HSP.out]; exact hbig) (by have h1 := X3.out.1; have h2 := X2.out.1; have h3 := L2.out; have h4 := L3.out; have h5 := HLT.out; have h6 := HLD.out; have h7 := HRM.out; omega)
      obtain ⟨a4, m4, x4, l4, t4⟩ := hmk
      have c4 := nmake_any O3.out k v x y
      rw [m4] at c4
      have C4 := Lib.hid c4
      have X4 := Lib.hid x4
      have L4 := Lib.hid l4
      have T4 := Lib.hid t4
      clear c4 x4 l4 t4 m4
      go_wp2_with fail
      refine C4.out.mono ?_
      rintro e w4 ⟨rfl, m4⟩
      obtain ⟨F4, o4, g4⟩ := m4.out
      have G4 := Lib.hid (G3.out.trans g4)
      have O4 := Lib.hid o4
      clear m4 o4 g4
      go_wp2_with fail
      go_ret2
      refine ⟨_, a4, rfl, ⟨F4, O4.out, G4.out⟩, (X2.out.trans X3.out).trans X4.out, by rw [L4.out, L3.out, L2.out, HLT.out, HLD.out]; omega, by rw [HSP.out]; exact T4.out, ?_⟩
      exact (AL2.out.ext X3.out AL3.out).ext X4.out (AllTr.one L4.out T4.out (by simp) (by rw [← HSP.out]; exact hbig))

end Go.Proofs.Ytkcfkanfdbejiaa
