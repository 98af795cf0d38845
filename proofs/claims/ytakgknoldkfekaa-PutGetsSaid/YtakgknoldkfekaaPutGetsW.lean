/- The walk of the law PutGets. -/
import Derived.Test.YtakgknoldkfekaaAwake5
import Derived.Test.YtakgknoldkfekaaRefW
import Derived.Test.YtakgknoldkfekaaSaysW
import Derived.Test.YtakgknoldkfekaaPutP
namespace Go.Proofs.Ytakgknoldkfekaa
set_option maxRecDepth 100000
open Go.RowKit
set_option linter.unusedSimpArgs false
set_option linter.unusedVariables false

set_option maxRecDepth 100000 in
set_option maxHeartbeats 4000000 in
theorem putGets_1 (W : World) {ad : Option Addr} {c : Nat} {l : List Pr} (hl : PIn W ad c l) (pk pv key : Int) (q : List Pr) (hq : pairs l 40 = q) (hth : (gotP q pk).2 = true) (hkp : pk = key) :
    Calls Try.prog 10 #[.slice ad l.length c, .agg #[.int .i64 pk, .int .i64 pv], .int .i64 key] W fun e w' => e = .returned (.bool true) ∧ Below W.heap.size W w' := by
  subst hkp
  have hb0 : Below W.heap.size W (W.alloc (.cells #[.int .i64 pk, .int .i64 pv] 37)) := (Below.refl _ _).alloc (Nat.le_refl _) _
  have hp := pairs_any (W.alloc (.cells #[.int .i64 pk, .int .i64 pv] 37)) (hl.later hb0) 40 (by decide) (by decide)
  have hpl := (pairsB_len l 40 (by decide) l.length).1
  have hs := pairs_sorted l 40
  rw [show pairsB l 40 l.length = pairs l 40 from rfl] at hpl
  rw [hq] at hp hpl hs
  have HP := Lib.hid hp; clear hp hl hq
  have HQ := Lib.hid hs; clear hs
  have HB0 := Lib.hid hb0; clear hb0
  have E0 := Lib.hid (heap_alloc_new W (.cells #[.int .i64 pk, .int .i64 pv] 37))
  go_enter Try.func10, Try.ntmps10
  go_wp2_with fail
  refine HP.out.mono ?_
  rintro e w1 ⟨ad1, c1, rfl, p1, n1, b1⟩
  have P1 := Lib.hid p1; clear p1 n1
  have E1 := Lib.hid ((b1.block W.heap.size (by simp)).trans E0.out)
  have B1 := Lib.hid (HB0.out.trans (b1.mono (by simp))); clear b1
  go_wp2_with fail
  refine (new_any 1000 w1).mono ?_
  rintro e w2 ⟨rfl, o2, b2⟩
  have S2 := Lib.hid (St.begin B1.out o2 b2)
  have K2 := Lib.hid (PK.begin P1.out b2)
  have Q2 := Lib.hid (Kp.mk ((b2.block W.heap.size (Array.getElem?_eq_some_iff.1 E1.out).1).trans E1.out) (fun hf => by have := (Array.getElem?_eq_some_iff.1 E1.out).1; have hf2 : W.heap.size = w1.heap.size := hf; omega) : Kp w2 (fun b => b = w1.heap.size) W.heap.size (.cells #[.int .i64 pk, .int .i64 pv] 37 (0, 0)))
  clear o2 b2
  have la := laid_any q.length w2 w1.heap.size _ _ ad1 c1 q (Nat.le_refl _) (by omega) S2.out.arena K2.out (by rw [newA_room (by omega) (by omega), newA_slots]; simp; omega)
  have LA := Lib.hid la; clear la
  go_wp2_with fail
  refine LA.out.mono ?_
  rintro e w3 ⟨t, a3, rfl, ⟨F3, o3, g3⟩, x3, l3, t3, al3⟩
  have H3 := Lib.hid (Has.mk (S2.out.grow g3 o3) t3 (x3.1.trans (newA_room (by omega) (by omega))) (by rw [l3, newA_slots]; simp) x3.2.1 : Has W w3 w1.heap.size a3 F3 t q (1000))
  have K3 := Lib.hid (K2.out.grow g3)
  have Q3 := Lib.hid (Q2.out.grow g3)
  clear o3 g3 x3 l3 t3 al3
  have hlen64 : q.length ≤ 1000 := by omega
  have tr3 := H3.out.tr
  have rm3 := H3.out.room
  have us3 := H3.out.used
  have S3 := Lib.hid H3.out.st
  have hgq := hgt_le q
  have hil := ins_len q (pk, pv)
  have hw := withP_ins q (pk, pv) HQ.out
  have HW := Lib.hid hw; clear hw
  obtain ⟨a4, u, e4, tu, x4, f4, l4⟩ := putO_room tr3 HQ.out (by omega) S3.out.fits pk pv (by omega)
  have hsi := ins_sorted (p := (pk, pv)) HQ.out
  have hgi := hgt_le (ins q (pk, pv))
  have rm4 := x4.1
  obtain ⟨a5, v, e5, tv, x5, f5, l5⟩ := putO_room tu hsi (by omega) f4 pk pv (by omega)
  have gi := gotP_ins q (pk, pv) pk
  rw [if_pos rfl] at gi
  simp only [] at gi
  rw [gi] at e5
  rw [ins_ins] at tv
  simp only [] at e5
  have eg1 := lgF_tr (tu.ext x5) hsi pk (fuel u) (lt_fuel u)
  rw [gi] at eg1
  have eg3 := lgF_tr ((tr3.ext x4).ext x5) HQ.out pk (fuel t) (lt_fuel t)
  have hlen := ins_length HQ.out (pk, pv)
  simp only [] at hlen
  rw [hth] at hlen
  have es := (tu.ext x5).size.1
  have tv2 := tv
  rw [hth] at e4
  rw [if_pos rfl] at hlen
  have eg2 := eg1
  generalize (gotP q pk).1 = gv at e4
  generalize gotP q pk = z at eg3
  obtain ⟨zv, zw⟩ := z
  have qv : (pv != pv) = false := by simp
  have qzv : (zv != zv) = false := by simp
  have qzw : (zw != zw) = false := by simp
  have qk : (pk != pk) = false := by simp
  have es2 : sizeO (some a5) u = (q.length : Int) := by have h := (tu.ext x5).sizeO; rw [hlen] at h; exact h
  rw [hlen] at es
  have ql := beq_self_eq_true (q.length : Int)
  have E5 := Lib.hid e5; clear e5
  have EG1 := Lib.hid eg1; clear eg1
  have EG2 := Lib.hid eg2; clear eg2
  have EG3 := Lib.hid eg3; clear eg3
  have ES := Lib.hid es; clear es
  have HLEN := Lib.hid hlen; clear hlen
  clear hth es2
  clear gi
  have q3c0_3 := cell_blk (i := 0) Q3.out.at_ rfl
  have q3c1_3 := cell_blk (i := 1) Q3.out.at_ rfl
  have cc := putO_any S3.out.arena t pk pv
  rw [e4] at cc
  have CC := Lib.hid cc; clear cc
  go_wp2_with fail
  refine CC.out.mono ?_
  rintro e w4 ⟨rfl, m4⟩
  clear CC
  clear q3c0_3 q3c1_3
  obtain ⟨F4, o4, g4⟩ := Made.out m4
  have S4 := Lib.hid (S3.out.grow g4 o4)
  have K4 := Lib.hid (K3.out.grow g4)
  have Q4 := Lib.hid (Q3.out.grow g4)
  clear m4 o4 g4
  have q4c0_4 := cell_blk (i := 0) Q4.out.at_ rfl
  have q4c1_4 := cell_blk (i := 1) Q4.out.at_ rfl
  have cc := putO_any S4.out.arena u pk pv
  rw [E5.out] at cc
  have CC := Lib.hid cc; clear cc
  go_wp2_with fail
  refine CC.out.mono ?_
  rintro e w5 ⟨rfl, m5⟩
  clear CC
  clear q4c0_4 q4c1_4
  obtain ⟨F5, o5, g5⟩ := Made.out m5
  have S5 := Lib.hid (S4.out.grow g5 o5)
  have K5 := Lib.hid (K4.out.grow g5)
  have Q5 := Lib.hid (Q4.out.grow g5)
  clear m5 o5 g5
  have q5c0_5 := cell_blk (i := 0) Q5.out.at_ rfl
  have q5c1_5 := cell_blk (i := 1) Q5.out.at_ rfl
  have c := lookGet_any S5.out.arena (fuel u) u pk (lt_fuel u)
  rw [EG1.out] at c
  have C := Lib.hid c; clear c
  go_wp2_with fail
  refine (C.out).mono ?_
  rintro e w6 ⟨rfl, b6⟩
  clear q5c0_5 q5c1_5
  have S6 := Lib.hid (S5.out.later b6)
  have K6 := Lib.hid (K5.out.later b6)
  have Q6 := Lib.hid (Q5.out.below b6)
  clear b6
  clear C
  have c := lookGet_any S6.out.arena (fuel u) u pk (lt_fuel u)
  rw [EG2.out] at c
  have C := Lib.hid c; clear c
  go_wp2_with fail
  refine (C.out).mono ?_
  rintro e w7 ⟨rfl, b7⟩
  have S7 := Lib.hid (S6.out.later b7)
  have K7 := Lib.hid (K6.out.later b7)
  have Q7 := Lib.hid (Q6.out.below b7)
  clear b7
  clear C
  have c := lookGet_any S7.out.arena (fuel t) t pk (lt_fuel t)
  rw [EG3.out] at c
  have C := Lib.hid c; clear c
  go_wp2_with fail
  refine (C.out).mono ?_
  rintro e w8 ⟨rfl, b8⟩
  have S8 := Lib.hid (S7.out.later b8)
  have K8 := Lib.hid (K7.out.later b8)
  have Q8 := Lib.hid (Q7.out.below b8)
  clear b8
  clear C
  have q8c0_8 := cell_blk (i := 0) Q8.out.at_ rfl
  have q8c1_8 := cell_blk (i := 1) Q8.out.at_ rfl
  have c := lsize_any S8.out.arena u
  rw [ES.out] at c
  have C := Lib.hid c; clear c
  go_wp2_with fail
  refine (C.out).mono ?_
  rintro e w9 ⟨rfl, b9⟩
  clear q8c0_8 q8c1_8
  have S9 := Lib.hid (S8.out.later b9)
  have K9 := Lib.hid (K8.out.later b9)
  have Q9 := Lib.hid (Q8.out.below b9)
  clear b9
  clear C
  have q9c0_9 := cell_blk (i := 0) Q9.out.at_ rfl
  have q9c1_9 := cell_blk (i := 1) Q9.out.at_ rfl
  have cw := with_any _ K9.out.pin (by omega) (pk, pv)
  rw [HW.out] at cw
  have CW := Lib.hid cw; clear cw
  go_wp2_with fail
  refine CW.out.mono ?_
  rintro e w10 ⟨adV, cV, rfl, pp, np, b10⟩
  clear CW
  clear q9c0_9 q9c1_9
  have S10 := Lib.hid (S9.out.later b10)
  have K10 := Lib.hid (K9.out.later b10)
  have Q10 := Lib.hid (Q9.out.below b10)
  have V10 := Lib.hid (PK.mk pp (fun _ x hx hf => by have := np x hx; have := S9.out.arena.lt _ hf; omega))
  clear b10 pp np
  have HS := Lib.hid (says_any _ _ _ _ _ v _ _ (ins q (pk, pv)) (Nat.le_refl _) (by omega) S10.out.arena V10.out tv2)
  go_wp2_with fail
  refine (HS.out).mono ?_
  rintro e w11 ⟨rfl, b11⟩
  have S11 := Lib.hid (S10.out.later b11)
  have K11 := Lib.hid (K10.out.later b11)
  have V11 := Lib.hid (V10.out.later b11)
  have Q11 := Lib.hid (Q10.out.below b11)
  clear b11
  clear HS
  go_wp2_with (go_at_call 33; refine (awake5_any W _ S11.out.below).mono ?_; rintro e wz ⟨rfl, bz⟩)
  go_ret
  exact ⟨rfl, bz⟩

set_option maxRecDepth 100000 in
set_option maxHeartbeats 4000000 in
theorem putGets_2 (W : World) {ad : Option Addr} {c : Nat} {l : List Pr} (hl : PIn W ad c l) (pk pv key : Int) (q : List Pr) (hq : pairs l 40 = q) (hth : (gotP q pk).2 = true) (hkp : key ≠ pk) :
    Calls Try.prog 10 #[.slice ad l.length c, .agg #[.int .i64 pk, .int .i64 pv], .int .i64 key] W fun e w' => e = .returned (.bool true) ∧ Below W.heap.size W w' := by
  have hb0 : Below W.heap.size W (W.alloc (.cells #[.int .i64 pk, .int .i64 pv] 37)) := (Below.refl _ _).alloc (Nat.le_refl _) _
  have hp := pairs_any (W.alloc (.cells #[.int .i64 pk, .int .i64 pv] 37)) (hl.later hb0) 40 (by decide) (by decide)
  have hpl := (pairsB_len l 40 (by decide) l.length).1
  have hs := pairs_sorted l 40
  rw [show pairsB l 40 l.length = pairs l 40 from rfl] at hpl
  rw [hq] at hp hpl hs
  have HP := Lib.hid hp; clear hp hl hq
  have HQ := Lib.hid hs; clear hs
  have HB0 := Lib.hid hb0; clear hb0
  have E0 := Lib.hid (heap_alloc_new W (.cells #[.int .i64 pk, .int .i64 pv] 37))
  go_enter Try.func10, Try.ntmps10
  go_wp2_with fail
  refine HP.out.mono ?_
  rintro e w1 ⟨ad1, c1, rfl, p1, n1, b1⟩
  have P1 := Lib.hid p1; clear p1 n1
  have E1 := Lib.hid ((b1.block W.heap.size (by simp)).trans E0.out)
  have B1 := Lib.hid (HB0.out.trans (b1.mono (by simp))); clear b1
  go_wp2_with fail
  refine (new_any 1000 w1).mono ?_
  rintro e w2 ⟨rfl, o2, b2⟩
  have S2 := Lib.hid (St.begin B1.out o2 b2)
  have K2 := Lib.hid (PK.begin P1.out b2)
  have Q2 := Lib.hid (Kp.mk ((b2.block W.heap.size (Array.getElem?_eq_some_iff.1 E1.out).1).trans E1.out) (fun hf => by have := (Array.getElem?_eq_some_iff.1 E1.out).1; have hf2 : W.heap.size = w1.heap.size := hf; omega) : Kp w2 (fun b => b = w1.heap.size) W.heap.size (.cells #[.int .i64 pk, .int .i64 pv] 37 (0, 0)))
  clear o2 b2
  have la := laid_any q.length w2 w1.heap.size _ _ ad1 c1 q (Nat.le_refl _) (by omega) S2.out.arena K2.out (by rw [newA_room (by omega) (by omega), newA_slots]; simp; omega)
  have LA := Lib.hid la; clear la
  go_wp2_with fail
  refine LA.out.mono ?_
  rintro e w3 ⟨t, a3, rfl, ⟨F3, o3, g3⟩, x3, l3, t3, al3⟩
  have H3 := Lib.hid (Has.mk (S2.out.grow g3 o3) t3 (x3.1.trans (newA_room (by omega) (by omega))) (by rw [l3, newA_slots]; simp) x3.2.1 : Has W w3 w1.heap.size a3 F3 t q (1000))
  have K3 := Lib.hid (K2.out.grow g3)
  have Q3 := Lib.hid (Q2.out.grow g3)
  clear o3 g3 x3 l3 t3 al3
  have hlen64 : q.length ≤ 1000 := by omega
  have tr3 := H3.out.tr
  have rm3 := H3.out.room
  have us3 := H3.out.used
  have S3 := Lib.hid H3.out.st
  have hgq := hgt_le q
  have hil := ins_len q (pk, pv)
  have hw := withP_ins q (pk, pv) HQ.out
  have HW := Lib.hid hw; clear hw
  obtain ⟨a4, u, e4, tu, x4, f4, l4⟩ := putO_room tr3 HQ.out (by omega) S3.out.fits pk pv (by omega)
  have hsi := ins_sorted (p := (pk, pv)) HQ.out
  have hgi := hgt_le (ins q (pk, pv))
  have rm4 := x4.1
  obtain ⟨a5, v, e5, tv, x5, f5, l5⟩ := putO_room tu hsi (by omega) f4 pk pv (by omega)
  have gi := gotP_ins q (pk, pv) pk
  rw [if_pos rfl] at gi
  simp only [] at gi
  rw [gi] at e5
  rw [ins_ins] at tv
  simp only [] at e5
  have eg1 := lgF_tr (tu.ext x5) hsi pk (fuel u) (lt_fuel u)
  rw [gi] at eg1
  have eg2 := lgF_tr (tu.ext x5) hsi key (fuel u) (lt_fuel u)
  rw [gotP_ins] at eg2
  simp only [] at eg2
  have eg3 := lgF_tr ((tr3.ext x4).ext x5) HQ.out key (fuel t) (lt_fuel t)
  have hlen := ins_length HQ.out (pk, pv)
  simp only [] at hlen
  rw [hth] at hlen
  have es := (tu.ext x5).size.1
  have tv2 := tv
  rw [hth] at e4
  rw [if_pos rfl] at hlen
  rw [if_neg (fun e => hkp e.symm)] at eg2
  generalize (gotP q pk).1 = gv at e4
  generalize gotP q key = z at eg3 eg2
  obtain ⟨zv, zw⟩ := z
  have qv : (pv != pv) = false := by simp
  have qzv : (zv != zv) = false := by simp
  have qzw : (zw != zw) = false := by simp
  have qk0 : (key == pk) = false := beq_eq_false_iff_ne.2 hkp
  have qk : (key != pk) = true := by rw [bne, qk0]; rfl
  have es2 : sizeO (some a5) u = (q.length : Int) := by have h := (tu.ext x5).sizeO; rw [hlen] at h; exact h
  rw [hlen] at es
  have ql := beq_self_eq_true (q.length : Int)
  have E5 := Lib.hid e5; clear e5
  have EG1 := Lib.hid eg1; clear eg1
  have EG2 := Lib.hid eg2; clear eg2
  have EG3 := Lib.hid eg3; clear eg3
  have ES := Lib.hid es; clear es
  have HLEN := Lib.hid hlen; clear hlen
  clear hth hkp es2
  clear gi
  have q3c0_3 := cell_blk (i := 0) Q3.out.at_ rfl
  have q3c1_3 := cell_blk (i := 1) Q3.out.at_ rfl
  have cc := putO_any S3.out.arena t pk pv
  rw [e4] at cc
  have CC := Lib.hid cc; clear cc
  go_wp2_with fail
  refine CC.out.mono ?_
  rintro e w4 ⟨rfl, m4⟩
  clear CC
  clear q3c0_3 q3c1_3
  obtain ⟨F4, o4, g4⟩ := Made.out m4
  have S4 := Lib.hid (S3.out.grow g4 o4)
  have K4 := Lib.hid (K3.out.grow g4)
  have Q4 := Lib.hid (Q3.out.grow g4)
  clear m4 o4 g4
  have q4c0_4 := cell_blk (i := 0) Q4.out.at_ rfl
  have q4c1_4 := cell_blk (i := 1) Q4.out.at_ rfl
  have cc := putO_any S4.out.arena u pk pv
  rw [E5.out] at cc
  have CC := Lib.hid cc; clear cc
  go_wp2_with fail
  refine CC.out.mono ?_
  rintro e w5 ⟨rfl, m5⟩
  clear CC
  clear q4c0_4 q4c1_4
  obtain ⟨F5, o5, g5⟩ := Made.out m5
  have S5 := Lib.hid (S4.out.grow g5 o5)
  have K5 := Lib.hid (K4.out.grow g5)
  have Q5 := Lib.hid (Q4.out.grow g5)
  clear m5 o5 g5
  have q5c0_5 := cell_blk (i := 0) Q5.out.at_ rfl
  have q5c1_5 := cell_blk (i := 1) Q5.out.at_ rfl
  have c := lookGet_any S5.out.arena (fuel u) u pk (lt_fuel u)
  rw [EG1.out] at c
  have C := Lib.hid c; clear c
  go_wp2_with fail
  refine (C.out).mono ?_
  rintro e w6 ⟨rfl, b6⟩
  clear q5c0_5 q5c1_5
  have S6 := Lib.hid (S5.out.later b6)
  have K6 := Lib.hid (K5.out.later b6)
  have Q6 := Lib.hid (Q5.out.below b6)
  clear b6
  clear C
  have c := lookGet_any S6.out.arena (fuel u) u key (lt_fuel u)
  rw [EG2.out] at c
  have C := Lib.hid c; clear c
  go_wp2_with fail
  refine (C.out).mono ?_
  rintro e w7 ⟨rfl, b7⟩
  have S7 := Lib.hid (S6.out.later b7)
  have K7 := Lib.hid (K6.out.later b7)
  have Q7 := Lib.hid (Q6.out.below b7)
  clear b7
  clear C
  have c := lookGet_any S7.out.arena (fuel t) t key (lt_fuel t)
  rw [EG3.out] at c
  have C := Lib.hid c; clear c
  go_wp2_with fail
  refine (C.out).mono ?_
  rintro e w8 ⟨rfl, b8⟩
  have S8 := Lib.hid (S7.out.later b8)
  have K8 := Lib.hid (K7.out.later b8)
  have Q8 := Lib.hid (Q7.out.below b8)
  clear b8
  clear C
  have q8c0_8 := cell_blk (i := 0) Q8.out.at_ rfl
  have q8c1_8 := cell_blk (i := 1) Q8.out.at_ rfl
  cases zw with
  | false =>
    have c := lsize_any S8.out.arena u
    rw [ES.out] at c
    have C := Lib.hid c; clear c
    go_wp2_with fail
    refine (C.out).mono ?_
    rintro e w9 ⟨rfl, b9⟩
    clear q8c0_8 q8c1_8
    have S9 := Lib.hid (S8.out.later b9)
    have K9 := Lib.hid (K8.out.later b9)
    have Q9 := Lib.hid (Q8.out.below b9)
    clear b9
    clear C
    have q9c0_9 := cell_blk (i := 0) Q9.out.at_ rfl
    have q9c1_9 := cell_blk (i := 1) Q9.out.at_ rfl
    have cw := with_any _ K9.out.pin (by omega) (pk, pv)
    rw [HW.out] at cw
    have CW := Lib.hid cw; clear cw
    go_wp2_with fail
    refine CW.out.mono ?_
    rintro e w10 ⟨adV, cV, rfl, pp, np, b10⟩
    clear CW
    clear q9c0_9 q9c1_9
    have S10 := Lib.hid (S9.out.later b10)
    have K10 := Lib.hid (K9.out.later b10)
    have Q10 := Lib.hid (Q9.out.below b10)
    have V10 := Lib.hid (PK.mk pp (fun _ x hx hf => by have := np x hx; have := S9.out.arena.lt _ hf; omega))
    clear b10 pp np
    have HS := Lib.hid (says_any _ _ _ _ _ v _ _ (ins q (pk, pv)) (Nat.le_refl _) (by omega) S10.out.arena V10.out tv2)
    go_wp2_with fail
    refine (HS.out).mono ?_
    rintro e w11 ⟨rfl, b11⟩
    have S11 := Lib.hid (S10.out.later b11)
    have K11 := Lib.hid (K10.out.later b11)
    have V11 := Lib.hid (V10.out.later b11)
    have Q11 := Lib.hid (Q10.out.below b11)
    clear b11
    clear HS
    go_wp2_with (go_at_call 33; refine (awake5_any W _ S11.out.below).mono ?_; rintro e wz ⟨rfl, bz⟩)
    go_ret
    exact ⟨rfl, bz⟩
  | true =>
    have c := lsize_any S8.out.arena u
    rw [ES.out] at c
    have C := Lib.hid c; clear c
    go_wp2_with fail
    refine (C.out).mono ?_
    rintro e w9 ⟨rfl, b9⟩
    clear q8c0_8 q8c1_8
    have S9 := Lib.hid (S8.out.later b9)
    have K9 := Lib.hid (K8.out.later b9)
    have Q9 := Lib.hid (Q8.out.below b9)
    clear b9
    clear C
    have q9c0_9 := cell_blk (i := 0) Q9.out.at_ rfl
    have q9c1_9 := cell_blk (i := 1) Q9.out.at_ rfl
    have cw := with_any _ K9.out.pin (by omega) (pk, pv)
    rw [HW.out] at cw
    have CW := Lib.hid cw; clear cw
    go_wp2_with fail
    refine CW.out.mono ?_
    rintro e w10 ⟨adV, cV, rfl, pp, np, b10⟩
    clear CW
    clear q9c0_9 q9c1_9
    have S10 := Lib.hid (S9.out.later b10)
    have K10 := Lib.hid (K9.out.later b10)
    have Q10 := Lib.hid (Q9.out.below b10)
    have V10 := Lib.hid (PK.mk pp (fun _ x hx hf => by have := np x hx; have := S9.out.arena.lt _ hf; omega))
    clear b10 pp np
    have HS := Lib.hid (says_any _ _ _ _ _ v _ _ (ins q (pk, pv)) (Nat.le_refl _) (by omega) S10.out.arena V10.out tv2)
    go_wp2_with fail
    refine (HS.out).mono ?_
    rintro e w11 ⟨rfl, b11⟩
    have S11 := Lib.hid (S10.out.later b11)
    have K11 := Lib.hid (K10.out.later b11)
    have V11 := Lib.hid (V10.out.later b11)
    have Q11 := Lib.hid (Q10.out.below b11)
    clear b11
    clear HS
    go_wp2_with (go_at_call 33; refine (awake5_any W _ S11.out.below).mono ?_; rintro e wz ⟨rfl, bz⟩)
    go_ret
    exact ⟨rfl, bz⟩

set_option maxRecDepth 100000 in
set_option maxHeartbeats 4000000 in
theorem putGets_3 (W : World) {ad : Option Addr} {c : Nat} {l : List Pr} (hl : PIn W ad c l) (pk pv key : Int) (q : List Pr) (hq : pairs l 40 = q) (hth : (gotP q pk).2 = false) (hkp : pk = key) :
    Calls Try.prog 10 #[.slice ad l.length c, .agg #[.int .i64 pk, .int .i64 pv], .int .i64 key] W fun e w' => e = .returned (.bool true) ∧ Below W.heap.size W w' := by
  subst hkp
  have hb0 : Below W.heap.size W (W.alloc (.cells #[.int .i64 pk, .int .i64 pv] 37)) := (Below.refl _ _).alloc (Nat.le_refl _) _
  have hp := pairs_any (W.alloc (.cells #[.int .i64 pk, .int .i64 pv] 37)) (hl.later hb0) 40 (by decide) (by decide)
  have hpl := (pairsB_len l 40 (by decide) l.length).1
  have hs := pairs_sorted l 40
  rw [show pairsB l 40 l.length = pairs l 40 from rfl] at hpl
  rw [hq] at hp hpl hs
  have HP := Lib.hid hp; clear hp hl hq
  have HQ := Lib.hid hs; clear hs
  have HB0 := Lib.hid hb0; clear hb0
  have E0 := Lib.hid (heap_alloc_new W (.cells #[.int .i64 pk, .int .i64 pv] 37))
  go_enter Try.func10, Try.ntmps10
  go_wp2_with fail
  refine HP.out.mono ?_
  rintro e w1 ⟨ad1, c1, rfl, p1, n1, b1⟩
  have P1 := Lib.hid p1; clear p1 n1
  have E1 := Lib.hid ((b1.block W.heap.size (by simp)).trans E0.out)
  have B1 := Lib.hid (HB0.out.trans (b1.mono (by simp))); clear b1
  go_wp2_with fail
  refine (new_any 1000 w1).mono ?_
  rintro e w2 ⟨rfl, o2, b2⟩
  have S2 := Lib.hid (St.begin B1.out o2 b2)
  have K2 := Lib.hid (PK.begin P1.out b2)
  have Q2 := Lib.hid (Kp.mk ((b2.block W.heap.size (Array.getElem?_eq_some_iff.1 E1.out).1).trans E1.out) (fun hf => by have := (Array.getElem?_eq_some_iff.1 E1.out).1; have hf2 : W.heap.size = w1.heap.size := hf; omega) : Kp w2 (fun b => b = w1.heap.size) W.heap.size (.cells #[.int .i64 pk, .int .i64 pv] 37 (0, 0)))
  clear o2 b2
  have la := laid_any q.length w2 w1.heap.size _ _ ad1 c1 q (Nat.le_refl _) (by omega) S2.out.arena K2.out (by rw [newA_room (by omega) (by omega), newA_slots]; simp; omega)
  have LA := Lib.hid la; clear la
  go_wp2_with fail
  refine LA.out.mono ?_
  rintro e w3 ⟨t, a3, rfl, ⟨F3, o3, g3⟩, x3, l3, t3, al3⟩
  have H3 := Lib.hid (Has.mk (S2.out.grow g3 o3) t3 (x3.1.trans (newA_room (by omega) (by omega))) (by rw [l3, newA_slots]; simp) x3.2.1 : Has W w3 w1.heap.size a3 F3 t q (1000))
  have K3 := Lib.hid (K2.out.grow g3)
  have Q3 := Lib.hid (Q2.out.grow g3)
  clear o3 g3 x3 l3 t3 al3
  have hlen64 : q.length ≤ 1000 := by omega
  have tr3 := H3.out.tr
  have rm3 := H3.out.room
  have us3 := H3.out.used
  have S3 := Lib.hid H3.out.st
  have hgq := hgt_le q
  have hil := ins_len q (pk, pv)
  have hw := withP_ins q (pk, pv) HQ.out
  have HW := Lib.hid hw; clear hw
  obtain ⟨a4, u, e4, tu, x4, f4, l4⟩ := putO_room tr3 HQ.out (by omega) S3.out.fits pk pv (by omega)
  have hsi := ins_sorted (p := (pk, pv)) HQ.out
  have hgi := hgt_le (ins q (pk, pv))
  have rm4 := x4.1
  obtain ⟨a5, v, e5, tv, x5, f5, l5⟩ := putO_room tu hsi (by omega) f4 pk pv (by omega)
  have gi := gotP_ins q (pk, pv) pk
  rw [if_pos rfl] at gi
  simp only [] at gi
  rw [gi] at e5
  rw [ins_ins] at tv
  simp only [] at e5
  have eg1 := lgF_tr (tu.ext x5) hsi pk (fuel u) (lt_fuel u)
  rw [gi] at eg1
  have eg3 := lgF_tr ((tr3.ext x4).ext x5) HQ.out pk (fuel t) (lt_fuel t)
  have hlen := ins_length HQ.out (pk, pv)
  simp only [] at hlen
  rw [hth] at hlen
  have es := (tu.ext x5).size.1
  have tv2 := tv
  rw [hth] at e4
  rw [if_neg (by decide)] at hlen
  have eg2 := eg1
  generalize (gotP q pk).1 = gv at e4
  generalize gotP q pk = z at eg3
  obtain ⟨zv, zw⟩ := z
  have qv : (pv != pv) = false := by simp
  have qzv : (zv != zv) = false := by simp
  have qzw : (zw != zw) = false := by simp
  have qk : (pk != pk) = false := by simp
  rw [hlen, show ((q.length + 1 : Nat) : Int) = (q.length : Int) + 1 by omega] at es
  have ql := beq_self_eq_true ((q.length : Int) + 1)
  have E5 := Lib.hid e5; clear e5
  have EG1 := Lib.hid eg1; clear eg1
  have EG2 := Lib.hid eg2; clear eg2
  have EG3 := Lib.hid eg3; clear eg3
  have ES := Lib.hid es; clear es
  have HLEN := Lib.hid hlen; clear hlen
  clear hth
  clear gi
  have q3c0_3 := cell_blk (i := 0) Q3.out.at_ rfl
  have q3c1_3 := cell_blk (i := 1) Q3.out.at_ rfl
  have cc := putO_any S3.out.arena t pk pv
  rw [e4] at cc
  have CC := Lib.hid cc; clear cc
  go_wp2_with fail
  refine CC.out.mono ?_
  rintro e w4 ⟨rfl, m4⟩
  clear CC
  clear q3c0_3 q3c1_3
  obtain ⟨F4, o4, g4⟩ := Made.out m4
  have S4 := Lib.hid (S3.out.grow g4 o4)
  have K4 := Lib.hid (K3.out.grow g4)
  have Q4 := Lib.hid (Q3.out.grow g4)
  clear m4 o4 g4
  have q4c0_4 := cell_blk (i := 0) Q4.out.at_ rfl
  have q4c1_4 := cell_blk (i := 1) Q4.out.at_ rfl
  have cc := putO_any S4.out.arena u pk pv
  rw [E5.out] at cc
  have CC := Lib.hid cc; clear cc
  go_wp2_with fail
  refine CC.out.mono ?_
  rintro e w5 ⟨rfl, m5⟩
  clear CC
  clear q4c0_4 q4c1_4
  obtain ⟨F5, o5, g5⟩ := Made.out m5
  have S5 := Lib.hid (S4.out.grow g5 o5)
  have K5 := Lib.hid (K4.out.grow g5)
  have Q5 := Lib.hid (Q4.out.grow g5)
  clear m5 o5 g5
  have q5c0_5 := cell_blk (i := 0) Q5.out.at_ rfl
  have q5c1_5 := cell_blk (i := 1) Q5.out.at_ rfl
  have c := lookGet_any S5.out.arena (fuel u) u pk (lt_fuel u)
  rw [EG1.out] at c
  have C := Lib.hid c; clear c
  go_wp2_with fail
  refine (C.out).mono ?_
  rintro e w6 ⟨rfl, b6⟩
  clear q5c0_5 q5c1_5
  have S6 := Lib.hid (S5.out.later b6)
  have K6 := Lib.hid (K5.out.later b6)
  have Q6 := Lib.hid (Q5.out.below b6)
  clear b6
  clear C
  have c := lookGet_any S6.out.arena (fuel u) u pk (lt_fuel u)
  rw [EG2.out] at c
  have C := Lib.hid c; clear c
  go_wp2_with fail
  refine (C.out).mono ?_
  rintro e w7 ⟨rfl, b7⟩
  have S7 := Lib.hid (S6.out.later b7)
  have K7 := Lib.hid (K6.out.later b7)
  have Q7 := Lib.hid (Q6.out.below b7)
  clear b7
  clear C
  have c := lookGet_any S7.out.arena (fuel t) t pk (lt_fuel t)
  rw [EG3.out] at c
  have C := Lib.hid c; clear c
  go_wp2_with fail
  refine (C.out).mono ?_
  rintro e w8 ⟨rfl, b8⟩
  have S8 := Lib.hid (S7.out.later b8)
  have K8 := Lib.hid (K7.out.later b8)
  have Q8 := Lib.hid (Q7.out.below b8)
  clear b8
  clear C
  have q8c0_8 := cell_blk (i := 0) Q8.out.at_ rfl
  have q8c1_8 := cell_blk (i := 1) Q8.out.at_ rfl
  have c := lsize_any S8.out.arena u
  rw [ES.out] at c
  have C := Lib.hid c; clear c
  go_wp2_with fail
  refine (C.out).mono ?_
  rintro e w9 ⟨rfl, b9⟩
  clear q8c0_8 q8c1_8
  have S9 := Lib.hid (S8.out.later b9)
  have K9 := Lib.hid (K8.out.later b9)
  have Q9 := Lib.hid (Q8.out.below b9)
  clear b9
  clear C
  have q9c0_9 := cell_blk (i := 0) Q9.out.at_ rfl
  have q9c1_9 := cell_blk (i := 1) Q9.out.at_ rfl
  have cw := with_any _ K9.out.pin (by omega) (pk, pv)
  rw [HW.out] at cw
  have CW := Lib.hid cw; clear cw
  go_wp2_with fail
  refine CW.out.mono ?_
  rintro e w10 ⟨adV, cV, rfl, pp, np, b10⟩
  clear CW
  clear q9c0_9 q9c1_9
  have S10 := Lib.hid (S9.out.later b10)
  have K10 := Lib.hid (K9.out.later b10)
  have Q10 := Lib.hid (Q9.out.below b10)
  have V10 := Lib.hid (PK.mk pp (fun _ x hx hf => by have := np x hx; have := S9.out.arena.lt _ hf; omega))
  clear b10 pp np
  have HS := Lib.hid (says_any _ _ _ _ _ v _ _ (ins q (pk, pv)) (Nat.le_refl _) (by omega) S10.out.arena V10.out tv2)
  go_wp2_with fail
  refine (HS.out).mono ?_
  rintro e w11 ⟨rfl, b11⟩
  have S11 := Lib.hid (S10.out.later b11)
  have K11 := Lib.hid (K10.out.later b11)
  have V11 := Lib.hid (V10.out.later b11)
  have Q11 := Lib.hid (Q10.out.below b11)
  clear b11
  clear HS
  go_wp2_with (go_at_call 33; refine (awake5_any W _ S11.out.below).mono ?_; rintro e wz ⟨rfl, bz⟩)
  go_ret
  exact ⟨rfl, bz⟩

set_option maxRecDepth 100000 in
set_option maxHeartbeats 4000000 in
theorem putGets_4 (W : World) {ad : Option Addr} {c : Nat} {l : List Pr} (hl : PIn W ad c l) (pk pv key : Int) (q : List Pr) (hq : pairs l 40 = q) (hth : (gotP q pk).2 = false) (hkp : key ≠ pk) :
    Calls Try.prog 10 #[.slice ad l.length c, .agg #[.int .i64 pk, .int .i64 pv], .int .i64 key] W fun e w' => e = .returned (.bool true) ∧ Below W.heap.size W w' := by
  have hb0 : Below W.heap.size W (W.alloc (.cells #[.int .i64 pk, .int .i64 pv] 37)) := (Below.refl _ _).alloc (Nat.le_refl _) _
  have hp := pairs_any (W.alloc (.cells #[.int .i64 pk, .int .i64 pv] 37)) (hl.later hb0) 40 (by decide) (by decide)
  have hpl := (pairsB_len l 40 (by decide) l.length).1
  have hs := pairs_sorted l 40
  rw [show pairsB l 40 l.length = pairs l 40 from rfl] at hpl
  rw [hq] at hp hpl hs
  have HP := Lib.hid hp; clear hp hl hq
  have HQ := Lib.hid hs; clear hs
  have HB0 := Lib.hid hb0; clear hb0
  have E0 := Lib.hid (heap_alloc_new W (.cells #[.int .i64 pk, .int .i64 pv] 37))
  go_enter Try.func10, Try.ntmps10
  go_wp2_with fail
  refine HP.out.mono ?_
  rintro e w1 ⟨ad1, c1, rfl, p1, n1, b1⟩
  have P1 := Lib.hid p1; clear p1 n1
  have E1 := Lib.hid ((b1.block W.heap.size (by simp)).trans E0.out)
  have B1 := Lib.hid (HB0.out.trans (b1.mono (by simp))); clear b1
  go_wp2_with fail
  refine (new_any 1000 w1).mono ?_
  rintro e w2 ⟨rfl, o2, b2⟩
  have S2 := Lib.hid (St.begin B1.out o2 b2)
  have K2 := Lib.hid (PK.begin P1.out b2)
  have Q2 := Lib.hid (Kp.mk ((b2.block W.heap.size (Array.getElem?_eq_some_iff.1 E1.out).1).trans E1.out) (fun hf => by have := (Array.getElem?_eq_some_iff.1 E1.out).1; have hf2 : W.heap.size = w1.heap.size := hf; omega) : Kp w2 (fun b => b = w1.heap.size) W.heap.size (.cells #[.int .i64 pk, .int .i64 pv] 37 (0, 0)))
  clear o2 b2
  have la := laid_any q.length w2 w1.heap.size _ _ ad1 c1 q (Nat.le_refl _) (by omega) S2.out.arena K2.out (by rw [newA_room (by omega) (by omega), newA_slots]; simp; omega)
  have LA := Lib.hid la; clear la
  go_wp2_with fail
  refine LA.out.mono ?_
  rintro e w3 ⟨t, a3, rfl, ⟨F3, o3, g3⟩, x3, l3, t3, al3⟩
  have H3 := Lib.hid (Has.mk (S2.out.grow g3 o3) t3 (x3.1.trans (newA_room (by omega) (by omega))) (by rw [l3, newA_slots]; simp) x3.2.1 : Has W w3 w1.heap.size a3 F3 t q (1000))
  have K3 := Lib.hid (K2.out.grow g3)
  have Q3 := Lib.hid (Q2.out.grow g3)
  clear o3 g3 x3 l3 t3 al3
  have hlen64 : q.length ≤ 1000 := by omega
  have tr3 := H3.out.tr
  have rm3 := H3.out.room
  have us3 := H3.out.used
  have S3 := Lib.hid H3.out.st
  have hgq := hgt_le q
  have hil := ins_len q (pk, pv)
  have hw := withP_ins q (pk, pv) HQ.out
  have HW := Lib.hid hw; clear hw
  obtain ⟨a4, u, e4, tu, x4, f4, l4⟩ := putO_room tr3 HQ.out (by omega) S3.out.fits pk pv (by omega)
  have hsi := ins_sorted (p := (pk, pv)) HQ.out
  have hgi := hgt_le (ins q (pk, pv))
  have rm4 := x4.1
  obtain ⟨a5, v, e5, tv, x5, f5, l5⟩ := putO_room tu hsi (by omega) f4 pk pv (by omega)
  have gi := gotP_ins q (pk, pv) pk
  rw [if_pos rfl] at gi
  simp only [] at gi
  rw [gi] at e5
  rw [ins_ins] at tv
  simp only [] at e5
  have eg1 := lgF_tr (tu.ext x5) hsi pk (fuel u) (lt_fuel u)
  rw [gi] at eg1
  have eg2 := lgF_tr (tu.ext x5) hsi key (fuel u) (lt_fuel u)
  rw [gotP_ins] at eg2
  simp only [] at eg2
  have eg3 := lgF_tr ((tr3.ext x4).ext x5) HQ.out key (fuel t) (lt_fuel t)
  have hlen := ins_length HQ.out (pk, pv)
  simp only [] at hlen
  rw [hth] at hlen
  have es := (tu.ext x5).size.1
  have tv2 := tv
  rw [hth] at e4
  rw [if_neg (by decide)] at hlen
  rw [if_neg (fun e => hkp e.symm)] at eg2
  generalize (gotP q pk).1 = gv at e4
  generalize gotP q key = z at eg3 eg2
  obtain ⟨zv, zw⟩ := z
  have qv : (pv != pv) = false := by simp
  have qzv : (zv != zv) = false := by simp
  have qzw : (zw != zw) = false := by simp
  have qk0 : (key == pk) = false := beq_eq_false_iff_ne.2 hkp
  have qk : (key != pk) = true := by rw [bne, qk0]; rfl
  rw [hlen, show ((q.length + 1 : Nat) : Int) = (q.length : Int) + 1 by omega] at es
  have ql := beq_self_eq_true ((q.length : Int) + 1)
  have E5 := Lib.hid e5; clear e5
  have EG1 := Lib.hid eg1; clear eg1
  have EG2 := Lib.hid eg2; clear eg2
  have EG3 := Lib.hid eg3; clear eg3
  have ES := Lib.hid es; clear es
  have HLEN := Lib.hid hlen; clear hlen
  clear hth hkp
  clear gi
  have q3c0_3 := cell_blk (i := 0) Q3.out.at_ rfl
  have q3c1_3 := cell_blk (i := 1) Q3.out.at_ rfl
  have cc := putO_any S3.out.arena t pk pv
  rw [e4] at cc
  have CC := Lib.hid cc; clear cc
  go_wp2_with fail
  refine CC.out.mono ?_
  rintro e w4 ⟨rfl, m4⟩
  clear CC
  clear q3c0_3 q3c1_3
  obtain ⟨F4, o4, g4⟩ := Made.out m4
  have S4 := Lib.hid (S3.out.grow g4 o4)
  have K4 := Lib.hid (K3.out.grow g4)
  have Q4 := Lib.hid (Q3.out.grow g4)
  clear m4 o4 g4
  have q4c0_4 := cell_blk (i := 0) Q4.out.at_ rfl
  have q4c1_4 := cell_blk (i := 1) Q4.out.at_ rfl
  have cc := putO_any S4.out.arena u pk pv
  rw [E5.out] at cc
  have CC := Lib.hid cc; clear cc
  go_wp2_with fail
  refine CC.out.mono ?_
  rintro e w5 ⟨rfl, m5⟩
  clear CC
  clear q4c0_4 q4c1_4
  obtain ⟨F5, o5, g5⟩ := Made.out m5
  have S5 := Lib.hid (S4.out.grow g5 o5)
  have K5 := Lib.hid (K4.out.grow g5)
  have Q5 := Lib.hid (Q4.out.grow g5)
  clear m5 o5 g5
  have q5c0_5 := cell_blk (i := 0) Q5.out.at_ rfl
  have q5c1_5 := cell_blk (i := 1) Q5.out.at_ rfl
  have c := lookGet_any S5.out.arena (fuel u) u pk (lt_fuel u)
  rw [EG1.out] at c
  have C := Lib.hid c; clear c
  go_wp2_with fail
  refine (C.out).mono ?_
  rintro e w6 ⟨rfl, b6⟩
  clear q5c0_5 q5c1_5
  have S6 := Lib.hid (S5.out.later b6)
  have K6 := Lib.hid (K5.out.later b6)
  have Q6 := Lib.hid (Q5.out.below b6)
  clear b6
  clear C
  have c := lookGet_any S6.out.arena (fuel u) u key (lt_fuel u)
  rw [EG2.out] at c
  have C := Lib.hid c; clear c
  go_wp2_with fail
  refine (C.out).mono ?_
  rintro e w7 ⟨rfl, b7⟩
  have S7 := Lib.hid (S6.out.later b7)
  have K7 := Lib.hid (K6.out.later b7)
  have Q7 := Lib.hid (Q6.out.below b7)
  clear b7
  clear C
  have c := lookGet_any S7.out.arena (fuel t) t key (lt_fuel t)
  rw [EG3.out] at c
  have C := Lib.hid c; clear c
  go_wp2_with fail
  refine (C.out).mono ?_
  rintro e w8 ⟨rfl, b8⟩
  have S8 := Lib.hid (S7.out.later b8)
  have K8 := Lib.hid (K7.out.later b8)
  have Q8 := Lib.hid (Q7.out.below b8)
  clear b8
  clear C
  have q8c0_8 := cell_blk (i := 0) Q8.out.at_ rfl
  have q8c1_8 := cell_blk (i := 1) Q8.out.at_ rfl
  cases zw with
  | false =>
    have c := lsize_any S8.out.arena u
    rw [ES.out] at c
    have C := Lib.hid c; clear c
    go_wp2_with fail
    refine (C.out).mono ?_
    rintro e w9 ⟨rfl, b9⟩
    clear q8c0_8 q8c1_8
    have S9 := Lib.hid (S8.out.later b9)
    have K9 := Lib.hid (K8.out.later b9)
    have Q9 := Lib.hid (Q8.out.below b9)
    clear b9
    clear C
    have q9c0_9 := cell_blk (i := 0) Q9.out.at_ rfl
    have q9c1_9 := cell_blk (i := 1) Q9.out.at_ rfl
    have cw := with_any _ K9.out.pin (by omega) (pk, pv)
    rw [HW.out] at cw
    have CW := Lib.hid cw; clear cw
    go_wp2_with fail
    refine CW.out.mono ?_
    rintro e w10 ⟨adV, cV, rfl, pp, np, b10⟩
    clear CW
    clear q9c0_9 q9c1_9
    have S10 := Lib.hid (S9.out.later b10)
    have K10 := Lib.hid (K9.out.later b10)
    have Q10 := Lib.hid (Q9.out.below b10)
    have V10 := Lib.hid (PK.mk pp (fun _ x hx hf => by have := np x hx; have := S9.out.arena.lt _ hf; omega))
    clear b10 pp np
    have HS := Lib.hid (says_any _ _ _ _ _ v _ _ (ins q (pk, pv)) (Nat.le_refl _) (by omega) S10.out.arena V10.out tv2)
    go_wp2_with fail
    refine (HS.out).mono ?_
    rintro e w11 ⟨rfl, b11⟩
    have S11 := Lib.hid (S10.out.later b11)
    have K11 := Lib.hid (K10.out.later b11)
    have V11 := Lib.hid (V10.out.later b11)
    have Q11 := Lib.hid (Q10.out.below b11)
    clear b11
    clear HS
    go_wp2_with (go_at_call 33; refine (awake5_any W _ S11.out.below).mono ?_; rintro e wz ⟨rfl, bz⟩)
    go_ret
    exact ⟨rfl, bz⟩
  | true =>
    have c := lsize_any S8.out.arena u
    rw [ES.out] at c
    have C := Lib.hid c; clear c
    go_wp2_with fail
    refine (C.out).mono ?_
    rintro e w9 ⟨rfl, b9⟩
    clear q8c0_8 q8c1_8
    have S9 := Lib.hid (S8.out.later b9)
    have K9 := Lib.hid (K8.out.later b9)
    have Q9 := Lib.hid (Q8.out.below b9)
    clear b9
    clear C
    have q9c0_9 := cell_blk (i := 0) Q9.out.at_ rfl
    have q9c1_9 := cell_blk (i := 1) Q9.out.at_ rfl
    have cw := with_any _ K9.out.pin (by omega) (pk, pv)
    rw [HW.out] at cw
    have CW := Lib.hid cw; clear cw
    go_wp2_with fail
    refine CW.out.mono ?_
    rintro e w10 ⟨adV, cV, rfl, pp, np, b10⟩
    clear CW
    clear q9c0_9 q9c1_9
    have S10 := Lib.hid (S9.out.later b10)
    have K10 := Lib.hid (K9.out.later b10)
    have Q10 := Lib.hid (Q9.out.below b10)
    have V10 := Lib.hid (PK.mk pp (fun _ x hx hf => by have := np x hx; have := S9.out.arena.lt _ hf; omega))
    clear b10 pp np
    have HS := Lib.hid (says_any _ _ _ _ _ v _ _ (ins q (pk, pv)) (Nat.le_refl _) (by omega) S10.out.arena V10.out tv2)
    go_wp2_with fail
    refine (HS.out).mono ?_
    rintro e w11 ⟨rfl, b11⟩
    have S11 := Lib.hid (S10.out.later b11)
    have K11 := Lib.hid (K10.out.later b11)
    have V11 := Lib.hid (V10.out.later b11)
    have Q11 := Lib.hid (Q10.out.below b11)
    clear b11
    clear HS
    go_wp2_with (go_at_call 33; refine (awake5_any W _ S11.out.below).mono ?_; rintro e wz ⟨rfl, bz⟩)
    go_ret
    exact ⟨rfl, bz⟩

theorem putGets_walk (W : World) {ad : Option Addr} {c : Nat} {l : List Pr} (hl : PIn W ad c l) (hokl : okP l) (pk pv : Int) (hpk : -9223372036854775808 ≤ pk ∧ pk ≤ 9223372036854775807) (hpv : -9223372036854775808 ≤ pv ∧ pv ≤ 9223372036854775807) (key : Int) (hkey : -9223372036854775808 ≤ key ∧ key ≤ 9223372036854775807) :
    Calls Try.prog 10 #[.slice ad l.length c, .agg #[.int .i64 pk, .int .i64 pv], .int .i64 key] W fun e w' => e = .returned (.bool true) ∧ Below W.heap.size W w' := by
  by_cases hk : key = pk
  · cases h : (gotP (pairs l 40) pk).2 with
    | true => exact putGets_1 W hl pk pv key _ rfl h hk.symm
    | false => exact putGets_3 W hl pk pv key _ rfl h hk.symm
  · cases h : (gotP (pairs l 40) pk).2 with
    | true => exact putGets_2 W hl pk pv key _ rfl h hk
    | false => exact putGets_4 W hl pk pv key _ rfl h hk

end Go.Proofs.Ytakgknoldkfekaa
