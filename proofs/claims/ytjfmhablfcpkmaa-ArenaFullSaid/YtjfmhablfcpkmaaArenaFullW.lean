/- The walk of the law ArenaFull. -/
import Derived.Test.YtjfmhablfcpkmaaAwake2
import Derived.Test.YtjfmhablfcpkmaaListW3
import Derived.Test.YtjfmhablfcpkmaaWMore
namespace Go.Proofs.Ytjfmhablfcpkmaa
open Go.RowKit Go.Proofs.YtjfmhablfcpkmaaW.PrintWords

theorem and1 (x : Int) : bits .and .i64 x 1 = 0 ∨ bits .and .i64 x 1 = 1 := by
  have h : ∀ a : BitVec 64, (a &&& (BitVec.ofInt 64 1)).toNat = a.toNat % 2 := fun a => by
    rw [BitVec.toNat_and]
    exact Nat.and_one_is_mod _
  have e : bits .and .i64 x 1 = IntKind.i64.wrap (((BitVec.ofInt 64 x) &&& (BitVec.ofInt 64 1)).toNat : Int) := rfl
  rw [e, h]
  rcases Nat.mod_two_eq_zero_or_one (BitVec.ofInt 64 x).toNat with h | h <;> rw [h]
  · exact .inl (by decide)
  · exact .inr (by decide)

def slotF (i : Nat) (x : Int) : Slot := if bits .and .i64 x 1 = 0 then ⟨0, [x]⟩ else ⟨7, [x, (i : Int)]⟩
def slotsF (l : List Int) : Nat → List Slot
  | 0 => []
  | k + 1 => slotsF l k ++ [slotF k (l.getD k 0)]
theorem slotsF_len (l : List Int) : ∀ k, (slotsF l k).length = k
  | 0 => rfl
  | k + 1 => by rw [slotsF, List.length_append, slotsF_len l k]; rfl
theorem slotsF_at (l : List Int) : ∀ k i, i < k → (slotsF l k).getD i ⟨0, []⟩ = slotF i (l.getD i 0)
  | 0, _, h => by omega
  | k + 1, i, h => by
    rw [slotsF, List.getD_eq_getElem?_getD]
    by_cases hi : i < k
    · rw [List.getElem?_append_left (by rw [slotsF_len]; exact hi), ← List.getD_eq_getElem?_getD]
      exact slotsF_at l k i hi
    · obtain rfl : i = k := by omega
      rw [List.getElem?_append_right (by rw [slotsF_len]; omega), slotsF_len]
      simp
def arF (r : Nat) (l : List Int) (k : Nat) (s : Int) : Ar := ⟨r, slotsF l (min k r), s⟩
theorem arF_new (r : Nat) (hr : r < 30) (l : List Int) : newA (r : Int) = arF r l 0 0 := by
  unfold newA arF
  rw [show min (max (r : Int) 0) 60000 = (r : Int) by omega, show min 0 r = 0 by omega]
  rfl
theorem arF_full (r : Nat) (l : List Int) (k : Nat) (s : Int) (h : ¬ (k : Int) < r) : arF r l (k + 1) s = arF r l k s := by
  unfold arF; rw [show min (k + 1) r = min k r by omega]
theorem arF_add (r : Nat) (l : List Int) (k : Nat) (s : Int) (h : (k : Int) < r) : arF r l (k + 1) s = ⟨r, slotsF l k ++ [slotF k (l.getD k 0)], s⟩ ∧ arF r l k s = ⟨r, slotsF l k, s⟩ := by
  unfold arF; rw [show min (k + 1) r = k + 1 by omega, show min k r = k by omega]; exact ⟨rfl, rfl⟩
theorem cellF_ok (r : Nat) (l : List Int) (k : Nat) (s x : Int) (h : (k : Int) < r) (hx : l.getD k 0 = x) (hb : bits .and .i64 x 1 = 0) : cellO (some (arF r l k s)) x = ((k : Int) + 1, 0, some (arF r l (k + 1) s)) := by
  obtain ⟨e1, e2⟩ := arF_add r l k s h
  have hl := slotsF_len l k
  rw [e1, e2, hx, show slotF k x = ⟨0, [x]⟩ by unfold slotF; rw [if_pos hb]]
  show ((addA _ ⟨0, [x]⟩).1, (addA _ ⟨0, [x]⟩).2.1, some (addA _ ⟨0, [x]⟩).2.2) = _
  rw [add_ok (by show ((slotsF l k).length : Int) < (r : Int); rw [hl]; exact h)]
  show (((slotsF l k).length : Int) + 1, _, _) = _
  rw [hl]
theorem cellF_full (r : Nat) (l : List Int) (k : Nat) (s x : Int) (h : ¬ (k : Int) < r) : cellO (some (arF r l k s)) x = (0, 2, some (arF r l (k + 1) s)) := by
  rw [arF_full r l k s h]
  show ((addA _ ⟨0, [x]⟩).1, (addA _ ⟨0, [x]⟩).2.1, some (addA _ ⟨0, [x]⟩).2.2) = _
  rw [add_full (by show (r : Int) - ((slotsF l (min k r)).length : Int) = 0; rw [slotsF_len]; omega)]
theorem makeF_ok (r : Nat) (l : List Int) (k : Nat) (s x : Int) (h : (k : Int) < r) (hx : l.getD k 0 = x) (hb : bits .and .i64 x 1 = 1) : makeO (some (arF r l k s)) 7 [x, (k : Int)] = ((k : Int) + 1, 0, some (arF r l (k + 1) s)) := by
  obtain ⟨e1, e2⟩ := arF_add r l k s h
  have hl := slotsF_len l k
  rw [e1, e2, hx, show slotF k x = ⟨7, [x, (k : Int)]⟩ by unfold slotF; rw [if_neg (by omega)], makeO_some _ _ _ (by simp)]
  rw [add_ok (by show ((slotsF l k).length : Int) < (r : Int); rw [hl]; exact h)]
  show (((slotsF l k).length : Int) + 1, _, _) = _
  rw [hl]
theorem makeF_full (r : Nat) (l : List Int) (k : Nat) (s x : Int) (h : ¬ (k : Int) < r) : makeO (some (arF r l k s)) 7 [x, (k : Int)] = (0, 2, some (arF r l (k + 1) s)) := by
  rw [arF_full r l k s h, makeO_some _ _ _ (by simp)]
  rw [add_full (by show (r : Int) - ((slotsF l (min k r)).length : Int) = 0; rw [slotsF_len]; omega)]
theorem slotAtF (r : Nat) (l : List Int) (n k : Nat) (s : Int) (hk : k < min n r) : slotAt (arF r l n s) ((k : Int) + 1) = slotF k (l.getD k 0) := by
  unfold slotAt arF
  rw [show ((k : Int) + 1 - 1).toNat = k by omega]
  exact slotsF_at l _ k hk
theorem arF_len (r : Nat) (l : List Int) (n : Nat) (s : Int) : (arF r l n s).slots.length = min n r := slotsF_len l _
theorem loadF (r : Nat) (l : List Int) (n k : Nat) (s x : Int) (hk : k < min n r) (hx : l.getD k 0 = x) (hb : bits .and .i64 x 1 = 0) : loadO (some (arF r l n s)) ((k : Int) + 1) = (x, some (arF r l n (wrap64 (s + 1)))) := by
  have hs := slotAtF r l n k s hk
  rw [hx, show slotF k x = ⟨0, [x]⟩ by unfold slotF; rw [if_pos hb]] at hs
  have hc : isCell (some (arF r l n s)) ((k : Int) + 1) = true := by
    show decide (1 ≤ (k : Int) + 1 ∧ (k : Int) + 1 ≤ (arF r l n s).slots.length ∧ (slotAt (arF r l n s) ((k : Int) + 1)).kind = 0) = true
    rw [arF_len, hs]
    exact decide_eq_true ⟨by omega, by omega, rfl⟩
  have hh : holds (arF r l n s) ((k : Int) + 1) = x := by unfold holds; rw [hs]; rfl
  show (if isCell (some (arF r l n s)) ((k : Int) + 1) = true then _ else _) = _
  rw [if_pos hc]
  show (holds (arF r l n s) ((k : Int) + 1), _) = _
  rw [hh]
  rfl
theorem valF (r : Nat) (l : List Int) (n k : Nat) (s x : Int) (hk : k < min n r) (hx : l.getD k 0 = x) (hb : bits .and .i64 x 1 = 1) :
    valO (some (arF r l n s)) ((k : Int) + 1) 0 = x ∧ valO (some (arF r l n s)) ((k : Int) + 1) 1 = k ∧ valO (some (arF r l n s)) ((k : Int) + 1) 2 = 0 := by
  have hs := slotAtF r l n k s hk
  rw [hx, show slotF k x = ⟨7, [x, (k : Int)]⟩ by unfold slotF; rw [if_neg (by omega)]] at hs
  have hl : ((arF r l n s).slots.length : Int) = ((min n r : Nat) : Int) := by rw [arF_len]
  have h1 : (k : Int) + 1 ≤ ((min n r : Nat) : Int) := by omega
  have h0 : (1 : Int) ≤ (k : Int) + 1 := by omega
  refine ⟨?_, ?_, ?_⟩ <;> rw [val_some, hs, hl] <;> simp [h0, h1]

theorem cutI_to (A : Option Addr) (n c m : Nat) (hm : m ≤ n) (hc : n ≤ c) : ∀ W : World, (Instr.slice 27 (.slice A n c) none (some (.int .i64 (m : Int))) none).run Try.prog W = .ok (.slice A m c) W := by
  obtain ⟨i0, hi, _, _, _⟩ := info_parts info_int
  have := cut_to (P := Try.prog) 27 3 .i64 Try.underlying27 hi A n c (m : Int) (by omega) (by omega) hc
  rw [Int.toNat_natCast] at this
  exact this

set_option maxRecDepth 100000 in
set_option maxHeartbeats 8000000 in
theorem full_walk (W : World) (x : Int) (_ : -9223372036854775808 ≤ x ∧ x ≤ 9223372036854775807) {ad : Option Addr} {c : Nat} {l : List Int} (hl : IntsArg W ad c l) :
    Calls Try.prog 13 #[.int .i64 x, .slice ad l.length c] W fun e w' => e = .returned (.bool true) ∧ Below W.heap.size W w' := by
  by_cases hlen : 60 < (l.length : Int)
  · go_enter Try.func13, Try.ntmps13
    go_wp2_with (go_at_call 36; refine (awake2_any W _ (Below.refl _ _)).mono ?_; rintro e w1 ⟨rfl, b1⟩)
    go_ret
    exact ⟨rfl, b1⟩
  · have HL := Lib.hid hl
    have hroom := hl.room
    clear hl
    obtain ⟨r, hr, hr30⟩ : ∃ r : Nat, IntKind.i64.wrap (Int.tmod (IntKind.u64.wrap x) 30) = (r : Int) ∧ r < 30 := by
      have h0 : 0 ≤ IntKind.u64.wrap x := by simp [IntKind.wrap, IntKind.bits, IntKind.signed]; omega
      rw [Int.tmod_eq_emod_of_nonneg h0]
      have h1 : 0 ≤ IntKind.u64.wrap x % 30 := by omega
      have h2 : IntKind.u64.wrap x % 30 < 30 := by omega
      rw [IntWalk.i64_in _ (by omega)]
      exact ⟨(IntKind.u64.wrap x % 30).toNat, by omega, by omega⟩
    go_enter Try.func13, Try.ntmps13
    go_wp2_with fail
    have nw := new_any (r : Int) W
    rw [arF_new r hr30 l] at nw
    refine nw.mono ?_
    rintro e w1 ⟨rfl, o1, b1⟩
    have S1 := Lib.hid (St.begin (Below.refl _ _) o1 b1); clear o1 b1 nw
    go_wp2_with fail
    clear hr
    go_loopw [24] (fun i wr => ∃ k : Nat, k ≤ l.length ∧ i = .int .i64 k ∧ ∃ F, Hid (St W wr (some ⟨W.heap.size, 0, none⟩) (some (arF r l k 0)) F)) (fun i _ => l.length - (intOf i).toNat)
    case atStart => exact ⟨0, Nat.zero_le _, rfl, _, S1⟩
    case round =>
      obtain ⟨k, hk, rfl, F, HS⟩ := hrel
      by_cases hlt : k < l.length
      · obtain ⟨b, off, rfl, hcell⟩ := HL.out.cell HS.out.below hlt
        have hge : l.getD k 0 = l[k] := by rw [List.getD_eq_getElem?_getD, List.getElem?_eq_getElem hlt]; rfl
        generalize hx : l[k] = x at hge hcell
        have qk : ((k : Int) + 1 != (k : Int) + 1) = false := by simp
        rcases Decidable.em ((k : Int) < (r : Int)) with hkr | hkr
        · rcases and1 x with hb | hb
          · have c3 := cellnew_any HS.out.arena x
            rw [cellF_ok r l k 0 x hkr hge hb] at c3
            have C3 := Lib.hid c3
            clear c3 hge hx
            go_wp2_with fail
            refine C3.out.mono ?_
            rintro e w9 ⟨rfl, d9⟩
            obtain ⟨F9, o9, g9⟩ := d9.out
            have S9 := Lib.hid (HS.out.grow g9 o9); clear o9 g9 d9
            go_wp2_with fail
            go_roundw
            case rel => exact ⟨k + 1, by omega, by go_num, _, S9⟩
            case measure => simp [intOf]; omega
          · have c3 := make_any (HS.out.alloc (.cells #[.int .i64 x, .int .i64 k] 3)).arena 7 (ints_new (l := [x, (k : Int)]) wr wr.heap.size _ rfl rfl)
            rw [makeF_ok r l k 0 x hkr hge hb] at c3
            have C3 := Lib.hid c3
            clear c3 hge hx
            go_wp2_with fail
            refine C3.out.mono ?_
            rintro e w9 ⟨rfl, d9⟩
            obtain ⟨F9, o9, g9⟩ := d9.out
            have S9 := Lib.hid ((HS.out.alloc (.cells #[.int .i64 x, .int .i64 k] 3)).grow g9 o9); clear o9 g9 d9
            go_wp2_with fail
            go_roundw
            case rel => exact ⟨k + 1, by omega, by go_num, _, S9⟩
            case measure => simp [intOf]; omega
        · rcases and1 x with hb | hb
          · have c3 := cellnew_any HS.out.arena x
            rw [cellF_full r l k 0 x hkr] at c3
            have C3 := Lib.hid c3
            clear c3 hge hx
            go_wp2_with fail
            refine C3.out.mono ?_
            rintro e w9 ⟨rfl, d9⟩
            obtain ⟨F9, o9, g9⟩ := d9.out
            have S9 := Lib.hid (HS.out.grow g9 o9); clear o9 g9 d9
            go_wp2_with fail
            go_roundw
            case rel => exact ⟨k + 1, by omega, by go_num, _, S9⟩
            case measure => simp [intOf]; omega
          · have c3 := make_any (HS.out.alloc (.cells #[.int .i64 x, .int .i64 k] 3)).arena 7 (ints_new (l := [x, (k : Int)]) wr wr.heap.size _ rfl rfl)
            rw [makeF_full r l k 0 x hkr] at c3
            have C3 := Lib.hid c3
            clear c3 hge hx
            go_wp2_with fail
            refine C3.out.mono ?_
            rintro e w9 ⟨rfl, d9⟩
            obtain ⟨F9, o9, g9⟩ := d9.out
            have S9 := Lib.hid ((HS.out.alloc (.cells #[.int .i64 x, .int .i64 k] 3)).grow g9 o9); clear o9 g9 d9
            go_wp2_with fail
            go_roundw
            case rel => exact ⟨k + 1, by omega, by go_num, _, S9⟩
            case measure => simp [intOf]; omega
      · have hkl : k = l.length := by omega
        subst hkl
        rcases Decidable.em ((l.length : Int) < (r : Int)) with hrl | hrl
        · have hcut := cutI_to ad l.length c l.length (Nat.le_refl _) hroom
          have wkr : True := trivial
          go_wp2_with fail
          go_loopw [82] (fun i wr => ∃ k : Nat, k ≤ l.length ∧ i = .int .i64 k ∧ ∃ F s, Hid (St W wr (some ⟨W.heap.size, 0, none⟩) (some (arF r l l.length s)) F)) (fun i _ => l.length - (intOf i).toNat)
          case atStart => exact ⟨0, Nat.zero_le _, rfl, _, 0, HS⟩
          case round =>
            obtain ⟨k, hk, rfl, F, s, HS⟩ := hrel
            by_cases hlt : k < l.length
            · obtain ⟨b, off, rfl, hcell⟩ := HL.out.cell HS.out.below (show k < l.length by omega)
              have hge : l.getD k 0 = l[k] := by rw [List.getD_eq_getElem?_getD, List.getElem?_eq_getElem (by omega)]; rfl
              generalize hx : l[k] = x at hge hcell
              have qx : (x != x) = false := by simp
              have qk : ((k : Int) != (k : Int)) = false := by simp
              have hkm : k < min l.length r := by omega
              rcases and1 x with hb | hb
              · have ld := load_any HS.out.arena ((k : Int) + 1)
                rw [loadF r l l.length k s x hkm hge hb] at ld
                have LD := Lib.hid ld
                clear ld hge hx
                go_wp2_with fail
                refine LD.out.mono ?_
                rintro e w9 ⟨rfl, d9⟩
                obtain ⟨F9, o9, g9⟩ := d9.out
                have S9 := Lib.hid (HS.out.grow g9 o9); clear o9 g9 d9
                go_wp2_with fail
                go_roundw
                case rel => exact ⟨k + 1, by omega, by go_num, _, _, S9⟩
                case measure => simp [intOf]; omega
              · obtain ⟨v0, v1, v2⟩ := valF r l l.length k s x hkm hge hb
                have c0 := val_any HS.out.arena ((k : Int) + 1) 0
                have c1 := val_any HS.out.arena ((k : Int) + 1) 1
                have c2 := val_any HS.out.arena ((k : Int) + 1) 2
                rw [v0] at c0
                rw [v1] at c1
                rw [v2] at c2
                have C0 := Lib.hid c0
                have C1 := Lib.hid c1
                have C2 := Lib.hid c2
                clear c0 c1 c2 v0 v1 v2 hge hx
                go_wp2_with fail
                refine C0.out.mono ?_
                rintro e w9 ⟨rfl, rfl⟩
                go_wp2_with fail
                refine C1.out.mono ?_
                rintro e w9 ⟨rfl, rfl⟩
                go_wp2_with fail
                refine C2.out.mono ?_
                rintro e w9 ⟨rfl, rfl⟩
                go_wp2_with fail
                go_roundw
                case rel => exact ⟨k + 1, by omega, by go_num, _, _, HS⟩
                case measure => simp [intOf]; omega
            · have us := used_any HS.out.arena
              have rs := room_any HS.out.arena
              have hu : usedO (some (arF r l l.length s)) = ((l.length : Nat) : Int) := by
                show ((arF r l l.length s).slots.length : Int) = _
                rw [arF_len]; omega
              have hro : roomO (some (arF r l l.length s)) = ((r - l.length : Nat) : Int) := by
                show (r : Int) - ((arF r l l.length s).slots.length : Int) = _
                rw [arF_len]; omega
              rw [hu] at us
              rw [hro] at rs
              generalize hd : r - l.length = d at rs
              have ws : IntKind.i64.wrap (((l.length : Nat) : Int) + (d : Int)) = (r : Int) := by rw [IntWalk.i64_in _ (by omega)]; omega
              have qr := beq_self_eq_true (r : Int)
              have US := Lib.hid us
              have RS := Lib.hid rs
              clear us rs hu hro hd
              go_wp2_with fail
              refine US.out.mono ?_
              rintro e w9 ⟨rfl, rfl⟩
              go_wp2_with fail
              refine RS.out.mono ?_
              rintro e w10 ⟨rfl, b10⟩
              have S10 := Lib.hid (HS.out.later b10); clear b10
              go_wp2_with (go_at_call 36; refine (awake2_any W _ S10.out.below).mono ?_; rintro e w11 ⟨rfl, b11⟩)
              go_ret
              exact ⟨rfl, b11⟩
        · have hcut := cutI_to ad l.length c r (by omega) hroom
          have wkr : True := trivial
          go_wp2_with fail
          go_loopw [82] (fun i wr => ∃ k : Nat, k ≤ r ∧ i = .int .i64 k ∧ ∃ F s, Hid (St W wr (some ⟨W.heap.size, 0, none⟩) (some (arF r l l.length s)) F)) (fun i _ => r - (intOf i).toNat)
          case atStart => exact ⟨0, Nat.zero_le _, rfl, _, 0, HS⟩
          case round =>
            obtain ⟨k, hk, rfl, F, s, HS⟩ := hrel
            by_cases hlt : k < r
            · obtain ⟨b, off, rfl, hcell⟩ := HL.out.cell HS.out.below (show k < l.length by omega)
              have hge : l.getD k 0 = l[k] := by rw [List.getD_eq_getElem?_getD, List.getElem?_eq_getElem (by omega)]; rfl
              generalize hx : l[k] = x at hge hcell
              have qx : (x != x) = false := by simp
              have qk : ((k : Int) != (k : Int)) = false := by simp
              have hkm : k < min l.length r := by omega
              rcases and1 x with hb | hb
              · have ld := load_any HS.out.arena ((k : Int) + 1)
                rw [loadF r l l.length k s x hkm hge hb] at ld
                have LD := Lib.hid ld
                clear ld hge hx
                go_wp2_with fail
                refine LD.out.mono ?_
                rintro e w9 ⟨rfl, d9⟩
                obtain ⟨F9, o9, g9⟩ := d9.out
                have S9 := Lib.hid (HS.out.grow g9 o9); clear o9 g9 d9
                go_wp2_with fail
                go_roundw
                case rel => exact ⟨k + 1, by omega, by go_num, _, _, S9⟩
                case measure => simp [intOf]; omega
              · obtain ⟨v0, v1, v2⟩ := valF r l l.length k s x hkm hge hb
                have c0 := val_any HS.out.arena ((k : Int) + 1) 0
                have c1 := val_any HS.out.arena ((k : Int) + 1) 1
                have c2 := val_any HS.out.arena ((k : Int) + 1) 2
                rw [v0] at c0
                rw [v1] at c1
                rw [v2] at c2
                have C0 := Lib.hid c0
                have C1 := Lib.hid c1
                have C2 := Lib.hid c2
                clear c0 c1 c2 v0 v1 v2 hge hx
                go_wp2_with fail
                refine C0.out.mono ?_
                rintro e w9 ⟨rfl, rfl⟩
                go_wp2_with fail
                refine C1.out.mono ?_
                rintro e w9 ⟨rfl, rfl⟩
                go_wp2_with fail
                refine C2.out.mono ?_
                rintro e w9 ⟨rfl, rfl⟩
                go_wp2_with fail
                go_roundw
                case rel => exact ⟨k + 1, by omega, by go_num, _, _, HS⟩
                case measure => simp [intOf]; omega
            · have us := used_any HS.out.arena
              have rs := room_any HS.out.arena
              have hu : usedO (some (arF r l l.length s)) = ((r : Nat) : Int) := by
                show ((arF r l l.length s).slots.length : Int) = _
                rw [arF_len]; omega
              have hro : roomO (some (arF r l l.length s)) = ((r - r : Nat) : Int) := by
                show (r : Int) - ((arF r l l.length s).slots.length : Int) = _
                rw [arF_len]; omega
              rw [hu] at us
              rw [hro] at rs
              generalize hd : r - r = d at rs
              have ws : IntKind.i64.wrap (((r : Nat) : Int) + (d : Int)) = (r : Int) := by rw [IntWalk.i64_in _ (by omega)]; omega
              have qr := beq_self_eq_true (r : Int)
              have US := Lib.hid us
              have RS := Lib.hid rs
              clear us rs hu hro hd
              go_wp2_with fail
              refine US.out.mono ?_
              rintro e w9 ⟨rfl, rfl⟩
              go_wp2_with fail
              refine RS.out.mono ?_
              rintro e w10 ⟨rfl, b10⟩
              have S10 := Lib.hid (HS.out.later b10); clear b10
              go_wp2_with (go_at_call 36; refine (awake2_any W _ S10.out.below).mono ?_; rintro e w11 ⟨rfl, b11⟩)
              go_ret
              exact ⟨rfl, b11⟩

end Go.Proofs.Ytjfmhablfcpkmaa
