/- The walk of the law ArenaSwaps. -/
import Derived.Test.YtjfmhablfcpkmaaAwake2
namespace Go.Proofs.Ytjfmhablfcpkmaa
open Go.RowKit

def swA (now s : Int) : Ar := ⟨3, [⟨0, [now]⟩], s⟩
def swNow (v : Int) : List Int → Int → Int
  | [], now => now
  | x :: r, now => swNow v r (if now = v then x else now)
theorem swNow_snoc (v x : Int) (l : List Int) : ∀ now, swNow v (l ++ [x]) now = if swNow v l now = v then x else swNow v l now := by
  induction l with
  | nil => intro now; rfl
  | cons y r ih => intro now; exact ih _
theorem sw_new (v : Int) : cellO (some (newA 3)) v = (1, 0, some (swA v 0)) := rfl
theorem sw_yes (v x s : Int) : swapO (some (swA v s)) 1 v x = (true, some (swA x (wrap64 (s + 1)))) := by
  have h : isCell (some (swA v s)) 1 = true := rfl
  have hv : holds (swA v s) 1 = v := rfl
  simp only [swapO, h, hv, if_true]
  rfl
theorem sw_no (now v x s : Int) (h : now ≠ v) : swapO (some (swA now s)) 1 v x = (false, some (swA now (wrap64 (s + 1)))) := by
  have h1 : isCell (some (swA now s)) 1 = true := rfl
  have hv : holds (swA now s) 1 = now := rfl
  simp only [swapO, h1, hv, if_true, if_neg h]
  rfl
theorem sw_load (now s : Int) : loadO (some (swA now s)) 1 = (now, some (swA now (wrap64 (s + 1)))) := rfl

set_option maxHeartbeats 4000000 in
theorem swaps_walk (W : World) (v : Int) (_ : -9223372036854775808 ≤ v ∧ v ≤ 9223372036854775807) {ad : Option Addr} {c : Nat} {l : List Int} (hl : IntsArg W ad c l) :
    Calls Try.prog 12 #[.int .i64 v, .slice ad l.length c] W fun e w' => e = .returned (.bool true) ∧ Below W.heap.size W w' := by
  by_cases hlen : 60 < (l.length : Int)
  · go_enter Try.func12, Try.ntmps12
    go_wp2_with (go_at_call 36; refine (awake2_any W _ (Below.refl _ _)).mono ?_; rintro e w1 ⟨rfl, b1⟩)
    go_ret
    exact ⟨rfl, b1⟩
  · have HL := Lib.hid hl; clear hl
    go_enter Try.func12, Try.ntmps12
    go_wp2_with fail
    refine (new_any 3 W).mono ?_
    rintro e w1 ⟨rfl, o1, b1⟩
    have S1 := Lib.hid (St.begin (Below.refl _ _) o1 b1); clear o1 b1
    go_wp2_with fail
    have c2 := cellnew_any S1.out.arena v
    rw [sw_new] at c2
    refine c2.mono ?_
    rintro e w2 ⟨rfl, d2⟩
    obtain ⟨F2, s2, k2, z2⟩ := S1.out.made d2
    have S2 := Lib.hid s2; clear s2 c2 d2 k2 z2
    go_wp2_with fail
    go_loopw [8, 27] (fun n i wr => ∃ k : Nat, k ≤ l.length ∧ i = .int .i64 k ∧ n = .int .i64 (swNow v (l.take k) v) ∧ ∃ F, Hid (St W wr (some ⟨W.heap.size, 0, none⟩) (some (swA (swNow v (l.take k) v) (2 * k))) F)) (fun _ i _ => l.length - (intOf i).toNat)
    case atStart => exact ⟨0, Nat.zero_le _, rfl, rfl, F2, S2⟩
    case round =>
      obtain ⟨k, hk, rfl, rfl, F, HS⟩ := hrel
      by_cases hlt : k < l.length
      · obtain ⟨b, off, rfl, hcell⟩ := HL.out.cell HS.out.below hlt
        have hsn : swNow v (l.take (k + 1)) v = if swNow v (l.take k) v = v then l[k] else swNow v (l.take k) v := by
          rw [List.take_succ_eq_append_getElem hlt, swNow_snoc]
        have w1e : wrap64 ((2 * k : Int) + 1) = 2 * k + 1 := by unfold wrap64; omega
        have w2e : wrap64 ((2 * k : Int) + 1 + 1) = 2 * ((k + 1 : Nat) : Int) := by unfold wrap64; omega
        have HSN := Lib.hid hsn; clear hsn
        have W1E := Lib.hid w1e; clear w1e
        have W2E := Lib.hid w2e; clear w2e
        generalize hx : l[k] = x at HSN hcell
        have HX := Lib.hid hx; clear hx
        generalize hn : swNow v (l.take k) v = now at HS HSN
        have HN := Lib.hid hn; clear hn
        by_cases he : now = v
        · subst he
          have e2 := HSN.out
          rw [if_pos rfl] at e2
          have E2 := Lib.hid e2; clear e2 HSN
          have c3 := swap_any HS.out.arena 1 now x
          rw [sw_yes, W1E.out] at c3
          have HC := Lib.hid c3; clear c3
          go_wp2_with fail
          refine HC.out.mono ?_
          rintro e w3 ⟨rfl, d3⟩
          obtain ⟨F3, s3, k3, z3⟩ := HS.out.made d3
          have c4 := load_any s3.arena 1
          rw [sw_load, W2E.out] at c4
          have S3 := Lib.hid s3; clear s3 d3 k3 z3
          have HC4 := Lib.hid c4; clear c4
          go_wp2_with fail
          refine HC4.out.mono ?_
          rintro e w4 ⟨rfl, d4⟩
          obtain ⟨F4, s4, k4, z4⟩ := S3.out.made d4
          have S4 := Lib.hid s4; clear s4 d4 k4 z4
          go_wp2_with fail
          go_roundw
          case rel =>
            exact ⟨k + 1, by omega, by go_num, by rw [E2.out], F4, by rw [E2.out]; exact S4⟩
          case measure => simp [intOf]; omega
        · have he1 : (now == v) = false := beq_eq_false_iff_ne.2 he
          have c3 := swap_any HS.out.arena 1 v x
          rw [sw_no _ _ _ _ he, W1E.out] at c3
          have HC := Lib.hid c3; clear c3
          have e2 := HSN.out
          rw [if_neg he] at e2
          have E2 := Lib.hid e2; clear e2 HSN he
          go_wp2_with fail
          refine HC.out.mono ?_
          rintro e w3 ⟨rfl, d3⟩
          obtain ⟨F3, s3, k3, z3⟩ := HS.out.made d3
          have c4 := load_any s3.arena 1
          rw [sw_load, W2E.out] at c4
          have S3 := Lib.hid s3; clear s3 d3 k3 z3
          have HC4 := Lib.hid c4; clear c4
          go_wp2_with fail
          refine HC4.out.mono ?_
          rintro e w4 ⟨rfl, d4⟩
          obtain ⟨F4, s4, k4, z4⟩ := S3.out.made d4
          have S4 := Lib.hid s4; clear s4 d4 k4 z4
          go_wp2_with fail
          go_roundw
          case rel =>
            exact ⟨k + 1, by omega, by go_num, by rw [E2.out], F4, by rw [E2.out]; exact S4⟩
          case measure => simp [intOf]; omega
      · have hkl : k = l.length := by omega
        subst hkl
        have c5 := steps_any HS.out.arena
        have HC := Lib.hid c5; clear c5
        go_wp2_with fail
        refine HC.out.mono ?_
        rintro e w5 ⟨rfl, rfl⟩
        simp only [stepsO, swA]
        go_wp2_with (go_at_call 36; refine (awake2_any W _ HS.out.below).mono ?_; rintro e w6 ⟨rfl, b6⟩)
        go_ret
        exact ⟨rfl, b6⟩

end Go.Proofs.Ytjfmhablfcpkmaa
