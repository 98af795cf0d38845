/- The walk of the law NodeLaid. -/
import Derived.Test.YtjfmhablfcpkmaaSaysW
import Derived.Test.YtjfmhablfcpkmaaAwake3
namespace Go.Proofs.Ytjfmhablfcpkmaa
open Go.RowKit

theorem newA_room {n : Int} (h0 : 0 ≤ n) (h1 : n ≤ 60000) : (newA n).room = n := by show min (max n 0) 60000 = n; omega
theorem newA_slots (n : Int) : (newA n).slots = [] := rfl
/-- Pairs that lay there before an arena was made. -/
theorem PK.begin {w w' : World} {ad : Option Addr} {c : Nat} {l : List Pr} (h : PIn w ad c l) (hb : Below w.heap.size w w') : PK w' (fun b => b = w.heap.size) ad c l :=
  ⟨h.later hb, fun hn x hx => by have := h.lt x hx hn; intro e; omega⟩

set_option maxHeartbeats 4000000 in
theorem nodeLaid_walk (W : World) {ad : Option Addr} {c : Nat} {l : List Pr} (hl : PIn W ad c l) (_ : okP l) :
    Calls Try.prog 10 #[.slice ad l.length c] W fun e w' => e = .returned (.bool true) ∧ Below W.heap.size W w' := by
  have hp := pairs_any W hl 60 (by decide) (by decide)
  have hpl := (pairsB_len l 60 (by decide) l.length).1
  rw [show pairsB l 60 l.length = pairs l 60 from rfl] at hpl
  generalize pairs l 60 = q at hp hpl
  have HP := Lib.hid hp; clear hp hl
  go_enter Try.func10, Try.ntmps10
  go_wp2_with fail
  refine HP.out.mono ?_
  rintro e w1 ⟨ad1, c1, rfl, p1, n1, b1⟩
  have P1 := Lib.hid p1; clear p1 n1
  have B1 := Lib.hid b1; clear b1
  go_wp2_with fail
  refine (new_any (q.length : Int) w1).mono ?_
  rintro e w2 ⟨rfl, o2, b2⟩
  have S2 := Lib.hid (St.begin B1.out o2 b2)
  have K2 := Lib.hid (PK.begin P1.out b2)
  clear o2 b2
  have la := laid_any q.length w2 w1.heap.size _ _ ad1 c1 q (Nat.le_refl _) (by omega) S2.out.arena K2.out (by rw [newA_room (by omega) (by omega), newA_slots]; simp)
  have LA := Lib.hid la; clear la
  go_wp2_with fail
  refine LA.out.mono ?_
  rintro e w3 ⟨t, a3, rfl, ⟨F3, o3, g3⟩, x3, l3, t3, al3⟩
  have S3 := Lib.hid (S2.out.grow g3 o3)
  have K3 := Lib.hid (K2.out.grow g3)
  have hu : a3.slots.length = q.length := by rw [l3, newA_slots]; simp
  have hr : a3.room - (a3.slots.length : Int) = 0 := by rw [x3.1, hu, newA_room (by omega) (by omega)]; omega
  have sa := says_any q.length w3 w1.heap.size a3 F3 t ad1 c1 q (Nat.le_refl _) (by omega) o3 K3.out t3
  have SA := Lib.hid sa
  have hu2 : usedO (some a3) = (q.length : Int) := by show (a3.slots.length : Int) = _; rw [hu]
  have HU := Lib.hid hu2
  have HM := Lib.hid (make_full (k := 0) (v := 0) (Tr.nil (a := a3)) Tr.nil hr)
  clear sa o3 g3 x3 l3 t3 al3 hu hu2 hr
  have q1 : ((q.length : Int) != (q.length : Int)) = false := by simp
  go_wp2_with fail
  refine SA.out.mono ?_
  rintro e w4 ⟨rfl, b4⟩
  have S4 := Lib.hid (S3.out.later b4); clear b4
  have us := used_any S4.out.arena
  rw [HU.out] at us
  have US := Lib.hid us; clear us
  go_wp2_with fail
  refine US.out.mono ?_
  rintro e w5 ⟨rfl, rfl⟩
  have c6 := nmake_any S4.out.arena 0 0 0 0
  rw [HM.out] at c6
  have C6 := Lib.hid c6; clear c6
  go_wp2_with fail
  refine C6.out.mono ?_
  rintro e w6 ⟨rfl, m6⟩
  obtain ⟨F6, o6, g6⟩ := m6.out
  have S6 := Lib.hid (S4.out.grow g6 o6); clear m6 o6 g6
  go_wp2_with (go_at_call 23; refine (awake3_any W _ S6.out.below).mono ?_; rintro e w7 ⟨rfl, b7⟩)
  go_ret
  exact ⟨rfl, b7⟩

end Go.Proofs.Ytjfmhablfcpkmaa
