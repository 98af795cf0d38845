/- The walk of the law WalkParts. -/
import Derived.Test.YtabiiggoledipaaAwake9
import Derived.Test.YtabiiggoledipaaBetwP
import Derived.Test.YtabiiggoledipaaRangeCW
import Derived.Test.YtabiiggoledipaaWMore
namespace Go.Proofs.Ytabiiggoledipaa
set_option maxRecDepth 100000
open Go.RowKit Go.Proofs.YtabiiggoledipaaW.PrintWords Go.Proofs.YtabiiggoledipaaW.PrintLast
set_option linter.unusedSimpArgs false
set_option linter.unusedVariables false

theorem betw_split {q : List Pr} (hs : Sorted q) {lo mid hi : Int} (h1 : lo ≤ mid) (h2 : mid ≤ hi) : betw lo (mid - 1) q ++ betw mid hi q = betw lo hi q := by
  unfold betw
  induction q with
  | nil => rfl
  | cons x r ih =>
    have hr : Sorted r := (List.pairwise_cons.1 hs).2
    have hx := (List.pairwise_cons.1 hs).1
    have ih := ih hr
    by_cases hm : x.1 < mid
    · by_cases hl : lo ≤ x.1
      · rw [List.filter_cons, List.filter_cons, List.filter_cons, if_pos (by simp; omega), if_neg (by simp; omega), if_pos (by simp; omega), List.cons_append, ih]
      · rw [List.filter_cons, List.filter_cons, List.filter_cons, if_neg (by simp; omega), if_neg (by simp; omega), if_neg (by simp; omega), ih]
    · have hn : r.filter (fun p => decide (lo ≤ p.1) && decide (p.1 ≤ mid - 1)) = [] := List.filter_eq_nil_iff.2 fun p hp => by
        have := hx p hp
        simp
        omega
      by_cases hh : x.1 ≤ hi
      · rw [List.filter_cons, List.filter_cons, List.filter_cons, if_neg (by simp; omega), if_pos (by simp; omega), if_pos (by simp; omega), hn, List.nil_append]
        rw [hn, List.nil_append] at ih
        rw [ih]
      · rw [List.filter_cons, List.filter_cons, List.filter_cons, if_neg (by simp; omega), if_neg (by simp; omega), if_neg (by simp; omega), ih]

set_option maxRecDepth 100000 in
set_option maxHeartbeats 4000000 in
theorem walkParts_walk (W : World) {ad : Option Addr} {c : Nat} {l : List Pr} (hl : PIn W ad c l) (hokl : okP l) (lo : Int) (hlo : -9223372036854775808 ≤ lo ∧ lo ≤ 9223372036854775807) (mid : Int) (hmid : -9223372036854775808 ≤ mid ∧ mid ≤ 9223372036854775807) (hi : Int) (hhi : -9223372036854775808 ≤ hi ∧ hi ≤ 9223372036854775807) :
    Calls Try.prog 4 #[.slice ad l.length c, .int .i64 lo, .int .i64 mid, .int .i64 hi] W fun e w' => e = .returned (.bool true) ∧ Below W.heap.size W w' := by
  have hp := pairs_any W hl 50 (by decide) (by decide)
  have hpl := (pairsB_len l 50 (by decide) l.length).1
  have hs := pairs_sorted l 50
  have hok := pairs_ok 50 hokl
  rw [show pairsB l 50 l.length = pairs l 50 from rfl] at hpl
  generalize pairs l 50 = q at hp hpl hs hok
  have HP := Lib.hid hp; clear hp hl
  have HQ := Lib.hid hs; clear hs
  have HOK := Lib.hid hok; clear hok hokl
  go_enter Try.func4, Try.ntmps4
  go_wp2_with fail
  refine HP.out.mono ?_
  rintro e w1 ⟨ad1, c1, rfl, p1, n1, b1⟩
  have P1 := Lib.hid p1; clear p1 n1
  have B1 := Lib.hid b1; clear b1
  go_wp2_with fail
  refine (new_any 100 w1).mono ?_
  rintro e w2 ⟨rfl, o2, b2⟩
  have S2 := Lib.hid (St.begin B1.out o2 b2)
  have K2 := Lib.hid (PK.begin P1.out b2)
  clear o2 b2
  have la := laid_any q.length w2 w1.heap.size _ _ ad1 c1 q (Nat.le_refl _) (by omega) S2.out.arena K2.out (by rw [newA_room (by omega) (by omega), newA_slots]; simp; omega)
  have LA := Lib.hid la; clear la
  go_wp2_with fail
  refine LA.out.mono ?_
  rintro e w3 ⟨t, a3, rfl, ⟨F3, o3, g3⟩, x3, l3, t3, al3⟩
  have H3 := Lib.hid (Has.mk (S2.out.grow g3 o3) t3 (x3.1.trans (newA_room (by omega) (by omega))) (by rw [l3, newA_slots]; simp) x3.2.1 : Has W w3 w1.heap.size a3 F3 t q (100))
  have K3 := Lib.hid (K2.out.grow g3)
  clear o3 g3 x3 l3 t3 al3
  have hlen64 : q.length ≤ 1000 := by omega
  have tr3 := H3.out.tr
  have htl : t < 1000000 := by have := tr3.le; have := H3.out.used; omega
  by_cases hmn : mid = -9223372036854775808
  · have hm1 : (mid == -9223372036854775808) = true := by rw [hmn]; rfl
    clear hmn
    have S3 := Lib.hid H3.out.st
    go_wp2_with (go_at_call 15; refine (awake9_any W _ S3.out.below).mono ?_; rintro e w8 ⟨rfl, b8⟩)
    go_ret
    exact ⟨rfl, b8⟩
  · have hm1 : (mid == -9223372036854775808) = false := beq_eq_false_iff_ne.2 hmn
    rcases (show (lo ≤ mid ∧ mid ≤ hi ∧ lo < hi) ∨ (lo ≤ mid ∧ mid ≤ hi ∧ hi ≤ lo) ∨ (mid < lo ∧ lo < hi) ∨ (mid < lo ∧ hi ≤ lo) ∨ (lo ≤ mid ∧ hi < mid ∧ lo < hi) ∨ (lo ≤ mid ∧ hi < mid ∧ hi ≤ lo) by omega) with hc | hc | hc | hc | hc | hc
    · have S3 := Lib.hid H3.out.st
      have wl : IntKind.i64.wrap (mid - 1) = mid - 1 := IntWalk.i64_in _ (by omega)
      have cw := rangeC_any S3.out.arena tr3 HQ.out htl (by omega) lo (mid - 1)
      have CW := Lib.hid cw; clear cw
      go_wp2_with fail
      refine CW.out.mono ?_
      rintro e w4 ⟨adX, cX, rfl, pp, np, b4, ncX⟩
      clear CW
      have NCX := Lib.hid ncX; clear ncX
      have S4 := Lib.hid (S3.out.later b4)
      have K4 := Lib.hid (K3.out.later b4)
      have X4 := Lib.hid (PK.mk pp (fun _ x hx hf => by have := np x hx; have := S3.out.arena.lt _ hf; omega))
      clear b4 pp np
      have cw := rangeC_any S4.out.arena tr3 HQ.out htl (by omega) mid hi
      have CW := Lib.hid cw; clear cw
      go_wp2_with fail
      refine CW.out.mono ?_
      rintro e w5 ⟨adY, cY, rfl, pp, np, b5, ncY⟩
      clear CW
      have NCY := Lib.hid ncY; clear ncY
      have S5 := Lib.hid (S4.out.later b5)
      have K5 := Lib.hid (K4.out.later b5)
      have X5 := Lib.hid (X4.out.later b5)
      have Y5 := Lib.hid (PK.mk pp (fun _ x hx hf => by have := np x hx; have := S4.out.arena.lt _ hf; omega))
      clear b5 pp np
      have cw := rangeC_any S5.out.arena tr3 HQ.out htl (by omega) lo hi
      have CW := Lib.hid cw; clear cw
      go_wp2_with fail
      refine CW.out.mono ?_
      rintro e w6 ⟨adZ, cZ, rfl, pp, np, b6, ncZ⟩
      clear CW
      have NCZ := Lib.hid ncZ; clear ncZ
      have S6 := Lib.hid (S5.out.later b6)
      have K6 := Lib.hid (K5.out.later b6)
      have X6 := Lib.hid (X5.out.later b6)
      have Y6 := Lib.hid (Y5.out.later b6)
      have Z6 := Lib.hid (PK.mk pp (fun _ x hx hf => by have := np x hx; have := S5.out.arena.lt _ hf; omega))
      clear b6 pp np
      have hx1 := betw_len lo (mid - 1) q
      have hx2 := betw_len mid hi q
      have R0 := Lib.hid (FRel.empty w6)
      have B0 := Lib.hid ((Below.refl w6.heap.size w6).alloc (Nat.le_refl _) (.cells #[] 25))
      have X0 := Lib.hid (X6.out.pin.later B0.out)
      have Y0 := Lib.hid Y6
      have DX := Lib.hid (Below.refl w6.heap.size w6)
      go_wp2_with (first | (at_builtin; refine wp_apps (ys := betw lo (mid - 1) q) rfl (.tmp 59) (.tmp 60) rfl rfl rfl R0.out X0.out NCX.out (by first | omega | (simp; omega)) ?_; intro v1 w31 r1x g1; have r1 : FRel _ w31 v1 (betw lo (mid - 1) q) := r1x; clear r1x; have R1 := Lib.hid r1; have B1x := Lib.hid (Below.growB B0.out R0.out g1); clear r1 g1) | (at_builtin; refine wp_apps (ys := betw mid hi q) rfl (.tmp 61) (.tmp 62) rfl rfl rfl R1.out (Y6.out.pin.later B1x.out) NCY.out (by first | omega | (simp; omega)) ?_; intro v2 w32 r2 g2; have R2 := Lib.hid r2; have B2x := Lib.hid (Below.growB B1x.out R1.out g2); clear r2 g2; obtain ⟨adV, cV, rfl, pv, nv, _⟩ := R2.out.givesC; have PV := Lib.hid pv; have NV := Lib.hid nv; clear pv nv))
      have S40 := Lib.hid (S6.out.later B2x.out)
      have K40 := Lib.hid (K6.out.later B2x.out)
      have X40 := Lib.hid (X6.out.later B2x.out)
      have Y40 := Lib.hid (Y6.out.later B2x.out)
      have Z40 := Lib.hid (Z6.out.later B2x.out)
      have V40 := Lib.hid (PK.mk (F := F3) PV.out (fun _ x hx hf => by have := NV.out x hx; have := S6.out.arena.lt _ hf; omega))
      have hsp := betw_split HQ.out (show lo ≤ mid by omega) (show mid ≤ hi by omega)
      have hsl : (betw lo (mid - 1) q).length + (betw mid hi q).length = (betw lo hi q).length := by rw [← hsp, List.length_append]
      have cs := same_any _ V40.out.pin Z40.out.pin
      rw [List.length_append, show decide (betw lo (mid - 1) q ++ betw mid hi q = betw lo hi q) = true from decide_eq_true hsp] at cs
      have CS := Lib.hid cs; clear cs hsp
      go_wp2_with fail
      refine (CS.out).mono ?_
      rintro e w41 ⟨rfl, b41⟩
      have S41 := Lib.hid (S40.out.later b41)
      have K41 := Lib.hid (K40.out.later b41)
      have X41 := Lib.hid (X40.out.later b41)
      have Y41 := Lib.hid (Y40.out.later b41)
      have Z41 := Lib.hid (Z40.out.later b41)
      have V41 := Lib.hid (V40.out.later b41)
      clear b41
      have cc := count_any S41.out.arena tr3 HQ.out htl (by omega) lo (mid - 1)
      have CC := Lib.hid cc; clear cc
      go_wp2_with fail
      refine (CC.out).mono ?_
      rintro e w42 ⟨rfl, b42⟩
      have S42 := Lib.hid (S41.out.later b42)
      have K42 := Lib.hid (K41.out.later b42)
      have X42 := Lib.hid (X41.out.later b42)
      have Y42 := Lib.hid (Y41.out.later b42)
      have Z42 := Lib.hid (Z41.out.later b42)
      have V42 := Lib.hid (V41.out.later b42)
      clear b42
      have cc := count_any S42.out.arena tr3 HQ.out htl (by omega) mid hi
      have CC := Lib.hid cc; clear cc
      have wl2 : IntKind.i64.wrap (((betw lo (mid - 1) q).length : Int) + ((betw mid hi q).length : Int)) = ((betw lo hi q).length : Int) := (IntWalk.i64_in _ (by omega)).trans (by omega)
      have qs1 : (((betw lo (mid - 1) q).length : Int) + ((betw mid hi q).length : Int) != ((betw lo hi q).length : Int)) = false := by rw [show ((betw lo (mid - 1) q).length : Int) + ((betw mid hi q).length : Int) = ((betw lo hi q).length : Int) by omega]; simp
      have qs2 : (((betw lo hi q).length : Int) != ((betw lo hi q).length : Int)) = false := by simp
      go_wp2_with fail
      refine (CC.out).mono ?_
      rintro e w43 ⟨rfl, b43⟩
      have S43 := Lib.hid (S42.out.later b43)
      have K43 := Lib.hid (K42.out.later b43)
      have X43 := Lib.hid (X42.out.later b43)
      have Y43 := Lib.hid (Y42.out.later b43)
      have Z43 := Lib.hid (Z42.out.later b43)
      have V43 := Lib.hid (V42.out.later b43)
      clear b43
      have cw := range_any S43.out.arena tr3 HQ.out htl (by omega) hi lo
      rw [betw_none (show lo < hi by omega)] at cw
      have CW := Lib.hid cw; clear cw
      go_wp2_with fail
      refine CW.out.mono ?_
      rintro e w44 ⟨adR, cR, rfl, pp, np, b44⟩
      clear CW
      have S44 := Lib.hid (S43.out.later b44)
      have K44 := Lib.hid (K43.out.later b44)
      have X44 := Lib.hid (X43.out.later b44)
      have Y44 := Lib.hid (Y43.out.later b44)
      have Z44 := Lib.hid (Z43.out.later b44)
      have V44 := Lib.hid (V43.out.later b44)
      have R44 := Lib.hid (PK.mk pp (fun _ x hx hf => by have := np x hx; have := S43.out.arena.lt _ hf; omega))
      clear b44 pp np
      have cc := count_any S44.out.arena tr3 HQ.out htl (by omega) hi lo
      rw [betw_none (show lo < hi by omega)] at cc
      have CC := Lib.hid cc; clear cc
      go_wp2_with fail
      refine (CC.out).mono ?_
      rintro e w45 ⟨rfl, b45⟩
      have S45 := Lib.hid (S44.out.later b45)
      have K45 := Lib.hid (K44.out.later b45)
      have X45 := Lib.hid (X44.out.later b45)
      have Y45 := Lib.hid (Y44.out.later b45)
      have Z45 := Lib.hid (Z44.out.later b45)
      have V45 := Lib.hid (V44.out.later b45)
      have R45 := Lib.hid (R44.out.later b45)
      clear b45
      have cw := range_any S45.out.arena tr3 HQ.out htl (by omega) (-9223372036854775808) 9223372036854775807
      rw [betw_all HOK.out] at cw
      have CW := Lib.hid cw; clear cw
      go_wp2_with fail
      refine CW.out.mono ?_
      rintro e w46 ⟨adL, cL, rfl, pp, np, b46⟩
      clear CW
      have S46 := Lib.hid (S45.out.later b46)
      have K46 := Lib.hid (K45.out.later b46)
      have X46 := Lib.hid (X45.out.later b46)
      have Y46 := Lib.hid (Y45.out.later b46)
      have Z46 := Lib.hid (Z45.out.later b46)
      have V46 := Lib.hid (V45.out.later b46)
      have R46 := Lib.hid (R45.out.later b46)
      have L46 := Lib.hid (PK.mk pp (fun _ x hx hf => by have := np x hx; have := S45.out.arena.lt _ hf; omega))
      clear b46 pp np
      have cs := same_any _ L46.out.pin K46.out.pin
      rw [show decide (q = q) = true from decide_eq_true rfl] at cs
      have CS := Lib.hid cs; clear cs
      go_wp2_with fail
      refine (CS.out).mono ?_
      rintro e w47 ⟨rfl, b47⟩
      have S47 := Lib.hid (S46.out.later b47)
      have K47 := Lib.hid (K46.out.later b47)
      have X47 := Lib.hid (X46.out.later b47)
      have Y47 := Lib.hid (Y46.out.later b47)
      have Z47 := Lib.hid (Z46.out.later b47)
      have V47 := Lib.hid (V46.out.later b47)
      have R47 := Lib.hid (R46.out.later b47)
      have L47 := Lib.hid (L46.out.later b47)
      clear b47
      go_wp2_with (go_at_call 15; refine (awake9_any W _ S47.out.below).mono ?_; rintro e w8 ⟨rfl, b8⟩)
      go_ret
      exact ⟨rfl, b8⟩
    · have S3 := Lib.hid H3.out.st
      have wl : IntKind.i64.wrap (mid - 1) = mid - 1 := IntWalk.i64_in _ (by omega)
      have cw := rangeC_any S3.out.arena tr3 HQ.out htl (by omega) lo (mid - 1)
      have CW := Lib.hid cw; clear cw
      go_wp2_with fail
      refine CW.out.mono ?_
      rintro e w4 ⟨adX, cX, rfl, pp, np, b4, ncX⟩
      clear CW
      have NCX := Lib.hid ncX; clear ncX
      have S4 := Lib.hid (S3.out.later b4)
      have K4 := Lib.hid (K3.out.later b4)
      have X4 := Lib.hid (PK.mk pp (fun _ x hx hf => by have := np x hx; have := S3.out.arena.lt _ hf; omega))
      clear b4 pp np
      have cw := rangeC_any S4.out.arena tr3 HQ.out htl (by omega) mid hi
      have CW := Lib.hid cw; clear cw
      go_wp2_with fail
      refine CW.out.mono ?_
      rintro e w5 ⟨adY, cY, rfl, pp, np, b5, ncY⟩
      clear CW
      have NCY := Lib.hid ncY; clear ncY
      have S5 := Lib.hid (S4.out.later b5)
      have K5 := Lib.hid (K4.out.later b5)
      have X5 := Lib.hid (X4.out.later b5)
      have Y5 := Lib.hid (PK.mk pp (fun _ x hx hf => by have := np x hx; have := S4.out.arena.lt _ hf; omega))
      clear b5 pp np
      have cw := rangeC_any S5.out.arena tr3 HQ.out htl (by omega) lo hi
      have CW := Lib.hid cw; clear cw
      go_wp2_with fail
      refine CW.out.mono ?_
      rintro e w6 ⟨adZ, cZ, rfl, pp, np, b6, ncZ⟩
      clear CW
      have NCZ := Lib.hid ncZ; clear ncZ
      have S6 := Lib.hid (S5.out.later b6)
      have K6 := Lib.hid (K5.out.later b6)
      have X6 := Lib.hid (X5.out.later b6)
      have Y6 := Lib.hid (Y5.out.later b6)
      have Z6 := Lib.hid (PK.mk pp (fun _ x hx hf => by have := np x hx; have := S5.out.arena.lt _ hf; omega))
      clear b6 pp np
      have hx1 := betw_len lo (mid - 1) q
      have hx2 := betw_len mid hi q
      have R0 := Lib.hid (FRel.empty w6)
      have B0 := Lib.hid ((Below.refl w6.heap.size w6).alloc (Nat.le_refl _) (.cells #[] 25))
      have X0 := Lib.hid (X6.out.pin.later B0.out)
      have Y0 := Lib.hid Y6
      have DX := Lib.hid (Below.refl w6.heap.size w6)
      go_wp2_with (first | (at_builtin; refine wp_apps (ys := betw lo (mid - 1) q) rfl (.tmp 59) (.tmp 60) rfl rfl rfl R0.out X0.out NCX.out (by first | omega | (simp; omega)) ?_; intro v1 w31 r1x g1; have r1 : FRel _ w31 v1 (betw lo (mid - 1) q) := r1x; clear r1x; have R1 := Lib.hid r1; have B1x := Lib.hid (Below.growB B0.out R0.out g1); clear r1 g1) | (at_builtin; refine wp_apps (ys := betw mid hi q) rfl (.tmp 61) (.tmp 62) rfl rfl rfl R1.out (Y6.out.pin.later B1x.out) NCY.out (by first | omega | (simp; omega)) ?_; intro v2 w32 r2 g2; have R2 := Lib.hid r2; have B2x := Lib.hid (Below.growB B1x.out R1.out g2); clear r2 g2; obtain ⟨adV, cV, rfl, pv, nv, _⟩ := R2.out.givesC; have PV := Lib.hid pv; have NV := Lib.hid nv; clear pv nv))
      have S40 := Lib.hid (S6.out.later B2x.out)
      have K40 := Lib.hid (K6.out.later B2x.out)
      have X40 := Lib.hid (X6.out.later B2x.out)
      have Y40 := Lib.hid (Y6.out.later B2x.out)
      have Z40 := Lib.hid (Z6.out.later B2x.out)
      have V40 := Lib.hid (PK.mk (F := F3) PV.out (fun _ x hx hf => by have := NV.out x hx; have := S6.out.arena.lt _ hf; omega))
      have hsp := betw_split HQ.out (show lo ≤ mid by omega) (show mid ≤ hi by omega)
      have hsl : (betw lo (mid - 1) q).length + (betw mid hi q).length = (betw lo hi q).length := by rw [← hsp, List.length_append]
      have cs := same_any _ V40.out.pin Z40.out.pin
      rw [List.length_append, show decide (betw lo (mid - 1) q ++ betw mid hi q = betw lo hi q) = true from decide_eq_true hsp] at cs
      have CS := Lib.hid cs; clear cs hsp
      go_wp2_with fail
      refine (CS.out).mono ?_
      rintro e w41 ⟨rfl, b41⟩
      have S41 := Lib.hid (S40.out.later b41)
      have K41 := Lib.hid (K40.out.later b41)
      have X41 := Lib.hid (X40.out.later b41)
      have Y41 := Lib.hid (Y40.out.later b41)
      have Z41 := Lib.hid (Z40.out.later b41)
      have V41 := Lib.hid (V40.out.later b41)
      clear b41
      have cc := count_any S41.out.arena tr3 HQ.out htl (by omega) lo (mid - 1)
      have CC := Lib.hid cc; clear cc
      go_wp2_with fail
      refine (CC.out).mono ?_
      rintro e w42 ⟨rfl, b42⟩
      have S42 := Lib.hid (S41.out.later b42)
      have K42 := Lib.hid (K41.out.later b42)
      have X42 := Lib.hid (X41.out.later b42)
      have Y42 := Lib.hid (Y41.out.later b42)
      have Z42 := Lib.hid (Z41.out.later b42)
      have V42 := Lib.hid (V41.out.later b42)
      clear b42
      have cc := count_any S42.out.arena tr3 HQ.out htl (by omega) mid hi
      have CC := Lib.hid cc; clear cc
      have wl2 : IntKind.i64.wrap (((betw lo (mid - 1) q).length : Int) + ((betw mid hi q).length : Int)) = ((betw lo hi q).length : Int) := (IntWalk.i64_in _ (by omega)).trans (by omega)
      have qs1 : (((betw lo (mid - 1) q).length : Int) + ((betw mid hi q).length : Int) != ((betw lo hi q).length : Int)) = false := by rw [show ((betw lo (mid - 1) q).length : Int) + ((betw mid hi q).length : Int) = ((betw lo hi q).length : Int) by omega]; simp
      have qs2 : (((betw lo hi q).length : Int) != ((betw lo hi q).length : Int)) = false := by simp
      go_wp2_with fail
      refine (CC.out).mono ?_
      rintro e w43 ⟨rfl, b43⟩
      have S43 := Lib.hid (S42.out.later b43)
      have K43 := Lib.hid (K42.out.later b43)
      have X43 := Lib.hid (X42.out.later b43)
      have Y43 := Lib.hid (Y42.out.later b43)
      have Z43 := Lib.hid (Z42.out.later b43)
      have V43 := Lib.hid (V42.out.later b43)
      clear b43
      have cw := range_any S43.out.arena tr3 HQ.out htl (by omega) (-9223372036854775808) 9223372036854775807
      rw [betw_all HOK.out] at cw
      have CW := Lib.hid cw; clear cw
      go_wp2_with fail
      refine CW.out.mono ?_
      rintro e w44 ⟨adL, cL, rfl, pp, np, b44⟩
      clear CW
      have S44 := Lib.hid (S43.out.later b44)
      have K44 := Lib.hid (K43.out.later b44)
      have X44 := Lib.hid (X43.out.later b44)
      have Y44 := Lib.hid (Y43.out.later b44)
      have Z44 := Lib.hid (Z43.out.later b44)
      have V44 := Lib.hid (V43.out.later b44)
      have L44 := Lib.hid (PK.mk pp (fun _ x hx hf => by have := np x hx; have := S43.out.arena.lt _ hf; omega))
      clear b44 pp np
      have cs := same_any _ L44.out.pin K44.out.pin
      rw [show decide (q = q) = true from decide_eq_true rfl] at cs
      have CS := Lib.hid cs; clear cs
      go_wp2_with fail
      refine (CS.out).mono ?_
      rintro e w45 ⟨rfl, b45⟩
      have S45 := Lib.hid (S44.out.later b45)
      have K45 := Lib.hid (K44.out.later b45)
      have X45 := Lib.hid (X44.out.later b45)
      have Y45 := Lib.hid (Y44.out.later b45)
      have Z45 := Lib.hid (Z44.out.later b45)
      have V45 := Lib.hid (V44.out.later b45)
      have L45 := Lib.hid (L44.out.later b45)
      clear b45
      go_wp2_with (go_at_call 15; refine (awake9_any W _ S45.out.below).mono ?_; rintro e w8 ⟨rfl, b8⟩)
      go_ret
      exact ⟨rfl, b8⟩
    · have S3 := Lib.hid H3.out.st
      have cw := range_any S3.out.arena tr3 HQ.out htl (by omega) hi lo
      rw [betw_none (show lo < hi by omega)] at cw
      have CW := Lib.hid cw; clear cw
      go_wp2_with fail
      refine CW.out.mono ?_
      rintro e w4 ⟨adR, cR, rfl, pp, np, b4⟩
      clear CW
      have S4 := Lib.hid (S3.out.later b4)
      have K4 := Lib.hid (K3.out.later b4)
      have R4 := Lib.hid (PK.mk pp (fun _ x hx hf => by have := np x hx; have := S3.out.arena.lt _ hf; omega))
      clear b4 pp np
      have cc := count_any S4.out.arena tr3 HQ.out htl (by omega) hi lo
      rw [betw_none (show lo < hi by omega)] at cc
      have CC := Lib.hid cc; clear cc
      go_wp2_with fail
      refine (CC.out).mono ?_
      rintro e w5 ⟨rfl, b5⟩
      have S5 := Lib.hid (S4.out.later b5)
      have K5 := Lib.hid (K4.out.later b5)
      have R5 := Lib.hid (R4.out.later b5)
      clear b5
      have cw := range_any S5.out.arena tr3 HQ.out htl (by omega) (-9223372036854775808) 9223372036854775807
      rw [betw_all HOK.out] at cw
      have CW := Lib.hid cw; clear cw
      go_wp2_with fail
      refine CW.out.mono ?_
      rintro e w6 ⟨adL, cL, rfl, pp, np, b6⟩
      clear CW
      have S6 := Lib.hid (S5.out.later b6)
      have K6 := Lib.hid (K5.out.later b6)
      have R6 := Lib.hid (R5.out.later b6)
      have L6 := Lib.hid (PK.mk pp (fun _ x hx hf => by have := np x hx; have := S5.out.arena.lt _ hf; omega))
      clear b6 pp np
      have cs := same_any _ L6.out.pin K6.out.pin
      rw [show decide (q = q) = true from decide_eq_true rfl] at cs
      have CS := Lib.hid cs; clear cs
      go_wp2_with fail
      refine (CS.out).mono ?_
      rintro e w7 ⟨rfl, b7⟩
      have S7 := Lib.hid (S6.out.later b7)
      have K7 := Lib.hid (K6.out.later b7)
      have R7 := Lib.hid (R6.out.later b7)
      have L7 := Lib.hid (L6.out.later b7)
      clear b7
      go_wp2_with (go_at_call 15; refine (awake9_any W _ S7.out.below).mono ?_; rintro e w8 ⟨rfl, b8⟩)
      go_ret
      exact ⟨rfl, b8⟩
    · have S3 := Lib.hid H3.out.st
      have cw := range_any S3.out.arena tr3 HQ.out htl (by omega) (-9223372036854775808) 9223372036854775807
      rw [betw_all HOK.out] at cw
      have CW := Lib.hid cw; clear cw
      go_wp2_with fail
      refine CW.out.mono ?_
      rintro e w4 ⟨adL, cL, rfl, pp, np, b4⟩
      clear CW
      have S4 := Lib.hid (S3.out.later b4)
      have K4 := Lib.hid (K3.out.later b4)
      have L4 := Lib.hid (PK.mk pp (fun _ x hx hf => by have := np x hx; have := S3.out.arena.lt _ hf; omega))
      clear b4 pp np
      have cs := same_any _ L4.out.pin K4.out.pin
      rw [show decide (q = q) = true from decide_eq_true rfl] at cs
      have CS := Lib.hid cs; clear cs
      go_wp2_with fail
      refine (CS.out).mono ?_
      rintro e w5 ⟨rfl, b5⟩
      have S5 := Lib.hid (S4.out.later b5)
      have K5 := Lib.hid (K4.out.later b5)
      have L5 := Lib.hid (L4.out.later b5)
      clear b5
      go_wp2_with (go_at_call 15; refine (awake9_any W _ S5.out.below).mono ?_; rintro e w8 ⟨rfl, b8⟩)
      go_ret
      exact ⟨rfl, b8⟩
    · have S3 := Lib.hid H3.out.st
      have cw := range_any S3.out.arena tr3 HQ.out htl (by omega) hi lo
      rw [betw_none (show lo < hi by omega)] at cw
      have CW := Lib.hid cw; clear cw
      go_wp2_with fail
      refine CW.out.mono ?_
      rintro e w4 ⟨adR, cR, rfl, pp, np, b4⟩
      clear CW
      have S4 := Lib.hid (S3.out.later b4)
      have K4 := Lib.hid (K3.out.later b4)
      have R4 := Lib.hid (PK.mk pp (fun _ x hx hf => by have := np x hx; have := S3.out.arena.lt _ hf; omega))
      clear b4 pp np
      have cc := count_any S4.out.arena tr3 HQ.out htl (by omega) hi lo
      rw [betw_none (show lo < hi by omega)] at cc
      have CC := Lib.hid cc; clear cc
      go_wp2_with fail
      refine (CC.out).mono ?_
      rintro e w5 ⟨rfl, b5⟩
      have S5 := Lib.hid (S4.out.later b5)
      have K5 := Lib.hid (K4.out.later b5)
      have R5 := Lib.hid (R4.out.later b5)
      clear b5
      have cw := range_any S5.out.arena tr3 HQ.out htl (by omega) (-9223372036854775808) 9223372036854775807
      rw [betw_all HOK.out] at cw
      have CW := Lib.hid cw; clear cw
      go_wp2_with fail
      refine CW.out.mono ?_
      rintro e w6 ⟨adL, cL, rfl, pp, np, b6⟩
      clear CW
      have S6 := Lib.hid (S5.out.later b6)
      have K6 := Lib.hid (K5.out.later b6)
      have R6 := Lib.hid (R5.out.later b6)
      have L6 := Lib.hid (PK.mk pp (fun _ x hx hf => by have := np x hx; have := S5.out.arena.lt _ hf; omega))
      clear b6 pp np
      have cs := same_any _ L6.out.pin K6.out.pin
      rw [show decide (q = q) = true from decide_eq_true rfl] at cs
      have CS := Lib.hid cs; clear cs
      go_wp2_with fail
      refine (CS.out).mono ?_
      rintro e w7 ⟨rfl, b7⟩
      have S7 := Lib.hid (S6.out.later b7)
      have K7 := Lib.hid (K6.out.later b7)
      have R7 := Lib.hid (R6.out.later b7)
      have L7 := Lib.hid (L6.out.later b7)
      clear b7
      go_wp2_with (go_at_call 15; refine (awake9_any W _ S7.out.below).mono ?_; rintro e w8 ⟨rfl, b8⟩)
      go_ret
      exact ⟨rfl, b8⟩
    · have S3 := Lib.hid H3.out.st
      have cw := range_any S3.out.arena tr3 HQ.out htl (by omega) (-9223372036854775808) 9223372036854775807
      rw [betw_all HOK.out] at cw
      have CW := Lib.hid cw; clear cw
      go_wp2_with fail
      refine CW.out.mono ?_
      rintro e w4 ⟨adL, cL, rfl, pp, np, b4⟩
      clear CW
      have S4 := Lib.hid (S3.out.later b4)
      have K4 := Lib.hid (K3.out.later b4)
      have L4 := Lib.hid (PK.mk pp (fun _ x hx hf => by have := np x hx; have := S3.out.arena.lt _ hf; omega))
      clear b4 pp np
      have cs := same_any _ L4.out.pin K4.out.pin
      rw [show decide (q = q) = true from decide_eq_true rfl] at cs
      have CS := Lib.hid cs; clear cs
      go_wp2_with fail
      refine (CS.out).mono ?_
      rintro e w5 ⟨rfl, b5⟩
      have S5 := Lib.hid (S4.out.later b5)
      have K5 := Lib.hid (K4.out.later b5)
      have L5 := Lib.hid (L4.out.later b5)
      clear b5
      go_wp2_with (go_at_call 15; refine (awake9_any W _ S5.out.below).mono ?_; rintro e w8 ⟨rfl, b8⟩)
      go_ret
      exact ⟨rfl, b8⟩

end Go.Proofs.Ytabiiggoledipaa
