/- A look that is over. -/
import Derived.Test.YtghjnkfocjjlnaaGreatT00
import Derived.Test.YtghjnkfocjjlnaaGreatT11
set_option linter.unusedSimpArgs false
set_option linter.unusedVariables false
namespace Go.Proofs.YtghjnkfocjjlnaaGreat
set_option maxRecDepth 100000
open Go.RowKit Go.Proofs.YtghjnkfocjjlnaaGreatW.PrintWords Go.Proofs.YtghjnkfocjjlnaaGreatW.PrintLast
set_option linter.unusedVariables false
set_option linter.unusedSimpArgs false
set_option maxRecDepth 100000 in
set_option maxHeartbeats 4000000 in
theorem xtells_any {W w : World} {P : Pl} {own : Own} {S : Ix} (h : IS W w P own S) {i p : Nat} (hp : P.pts[i]? = some p) {a : AnsR} {pv : Value} (hps : PV w own pv a.pairs) (hlen : S.order.length ≤ 1000000) :
    Calls Tryz.prog 91 #[pt_ p, .agg #[.int .i64 a.err, .bool a.ok, .int .i64 a.key, .int .i64 a.val, .int .i64 a.n, pv]] w fun e w' => e = .returned (.tuple #[]) ∧ Ends W P w own (S.tells i a) w' := by
  obtain ⟨pad, pn, pc, rfl⟩ := hps.slice
  have R0 := Lib.hid (Run.begin h)
  clear h
  have HV := Lib.hid hps
  clear hps
  have LEN := Lib.hid hlen
  clear hlen
  have R1 := Lib.hid (R0.out.box (b := w.heap.size) rfl (o := .ro) (by simp) #[.int .i64 a.err, .bool a.ok, .int .i64 a.key, .int .i64 a.val, .int .i64 a.n, .slice pad pn pc] 45)
  have K1 := Lib.hid (R0.out.box_ka (b := w.heap.size) rfl (.ro) (.cells #[.int .i64 a.err, .bool a.ok, .int .i64 a.key, .int .i64 a.val, .int .i64 a.n, .slice pad pn pc] 45) i)
  go_enter Tryz.func91, Tryz.ntmps91
  go_wp2_with fail
  have R2 := Lib.hid R1.out.drew
  have K2 := Lib.hid (R1.out.drew_ka i)
  refine start_ (n := 9) (S := fun w' => w'.cell? ⟨p, 0, none⟩ = some (pt_ P.px) ∧ w'.cell? ⟨p, 6, none⟩ = some (.int .i64 (S.th i).call)) (ds := [8]) (bz 9 0).toArray (by kernel_rfl) rfl rfl ⟨(R2.out.is.thx hp), (R2.out.is.thc hp (k := 6) (fun _ _ => rfl))⟩ (fun hHeld => ?_)
  refine pure_ (i := 0) (N := some 4) (v := ?_) (a' := ?_) (bz 9 1).toArray rfl rfl (by kernel_rfl) (fun _ _ _ h => h) (Or.inl ⟨by rfl, ?_⟩) ?_ ?_
  rotate_left
  · intro w'
    go_simp
    with_reducible rfl
  rotate_left
  · simp only [Act.put, sqA, sqZ, sqS, i64_w, i32_w]
    rfl
  refine pure_ (i := 1) (N := some 5) (v := ?_) (a' := ?_) (bz 9 3).toArray rfl rfl (by kernel_rfl) (fun _ _ _ h => h) (Or.inl ⟨by rfl, ?_⟩) ?_ ?_
  rotate_left
  · intro w'
    go_simp
    with_reducible rfl
  rotate_left
  · simp only [Act.put, sqA, sqZ, sqS, i64_w, i32_w]
    rfl
  refine pure_ (i := 2) (N := some 6) (v := ?_) (a' := ?_) (bz 9 7).toArray rfl rfl (by kernel_rfl) (fun _ _ _ h => h) (Or.inl ⟨by rfl, ?_⟩) ?_ ?_
  rotate_left
  · intro w'
    go_simp
    with_reducible rfl
  rotate_left
  · simp only [Act.put, sqA, sqZ, sqS, i64_w, i32_w]
    rfl
  refine pure_ (i := 4) (N := some 8) (v := ?_) (a' := ?_) (bz 9 23).toArray rfl rfl (by kernel_rfl) (fun _ _ _ h => h) (Or.inl ⟨by rfl, ?_⟩) ?_ ?_
  rotate_left
  · intro w'
    go_simp
    with_reducible rfl
  rotate_left
  · simp only [Act.put, sqA, sqZ, sqS, i64_w, i32_w]
    rfl
  refine pure_ (i := 5) (N := some 9) (v := ?_) (a' := ?_) (bz 9 55).toArray rfl rfl (by kernel_rfl) (fun _ _ _ h => h) (Or.inl ⟨by rfl, ?_⟩) ?_ ?_
  rotate_left
  · intro w'
    go_simp
    with_reducible rfl
  rotate_left
  · simp only [Act.put, sqA, sqZ, sqS, i64_w, i32_w]
    rfl
  refine pure_ (i := 6) (N := some 10) (v := ?_) (a' := ?_) (bz 9 119).toArray rfl rfl (by kernel_rfl) (fun _ _ _ h => h) (Or.inl ⟨by rfl, ?_⟩) ?_ ?_
  rotate_left
  · intro w'
    go_simp
    with_reducible rfl
  rotate_left
  · simp only [Act.put, sqA, sqZ, sqS, i64_w, i32_w]
    rfl
  refine take_ (i := 3) (N := some 7) (v := ?_) (a' := ?_) (bz 9 127).toArray rfl rfl (by kernel_rfl) (fun _ _ _ h => h) (Or.inl ⟨by rfl, ?_⟩) hHeld ?_ ?_
  rotate_left
  · rintro w' ⟨s0, s1⟩
    go_simp
    with_reducible rfl
  rotate_left
  · simp only [Act.put, sqA, sqZ, sqS, i64_w, i32_w]
    rfl
  refine take_ (i := 7) (N := some 11) (v := ?_) (a' := ?_) (bz 9 255).toArray rfl rfl (by kernel_rfl) (fun _ _ _ h => h) (Or.inl ⟨by rfl, ?_⟩) hHeld ?_ ?_
  rotate_left
  · rintro w' ⟨s0, s1⟩
    go_simp
    with_reducible rfl
  rotate_left
  · simp only [Act.put, sqA, sqZ, sqS, i64_w, i32_w]
    rfl
  refine last_ (i := 8) (N := some 12) (bz 9 511).toArray rfl rfl (by kernel_rfl) (by decide) (fun K hK => ?_)
  refine goes_ Tryz.func82 (by kernel_rfl) rfl #[pt_ P.px, .int .i64 (S.th i).call] (by rfl) rfl rfl (by simp only [List.map_toArray, List.map_cons, List.map_nil]; rfl) ?_
  with_reducible refine (xtook_any R2.out.is (S.th i).call LEN.out i).mono ?_
  rintro e w3 ⟨rfl, x3⟩
  obtain ⟨o3, r3, k3⟩ := x3
  have R3 := Lib.hid (R2.out.comp r3)
  have K3 := Lib.hid k3
  clear r3 k3
  refine ⟨_, rfl, ?_⟩
  refine hK.out _ _ ?_
  clear hK K
  refine norm_ (a' := ?_) ?_ ?_
  rotate_left
  · show Act.put _ (some 12) _ = _
    simp only [Act.put, sqA, sqZ, sqS, i64_w, i32_w]
    rfl
  refine done_ (by kernel_rfl) ?_
  have cb0_0 := cell_blk (i := 0) (((Run.box_bx (b := w.heap.size) rfl _ _).keep K2.out.k).keep K3.out.k).2 rfl
  have cb0_1 := cell_blk (i := 1) (((Run.box_bx (b := w.heap.size) rfl _ _).keep K2.out.k).keep K3.out.k).2 rfl
  have cb0_2 := cell_blk (i := 2) (((Run.box_bx (b := w.heap.size) rfl _ _).keep K2.out.k).keep K3.out.k).2 rfl
  have cb0_3 := cell_blk (i := 3) (((Run.box_bx (b := w.heap.size) rfl _ _).keep K2.out.k).keep K3.out.k).2 rfl
  have cb0_4 := cell_blk (i := 4) (((Run.box_bx (b := w.heap.size) rfl _ _).keep K2.out.k).keep K3.out.k).2 rfl
  have cb0_5 := cell_blk (i := 5) (((Run.box_bx (b := w.heap.size) rfl _ _).keep K2.out.k).keep K3.out.k).2 rfl
  go_wp2_with fail
  refine (xreturns_any R3.out.is hp (a := a) (pv := .slice pad pn pc) ((((HV.out).keep K1.out.k).keep K2.out.k).keep K3.out.k)).mono ?_
  rintro e w4 ⟨rfl, e4⟩
  clear cb0_0 cb0_1 cb0_2 cb0_3 cb0_4 cb0_5
  go_wp2_with fail
  go_end0
  exact ⟨rfl, R3.out.then_ e4⟩
theorem had_pairs (key v : Int) (ok : Bool) : (had key v ok).pairs = [] := by unfold had; split <;> rfl
set_option maxRecDepth 100000 in
set_option maxHeartbeats 4000000 in
theorem xgets_any {W w : World} {P : Pl} {own : Own} {S : Ix} (h : IS W w P own S) {i p : Nat} (hp : P.pts[i]? = some p) {f : FoundR} (hlen : S.order.length ≤ 1000000) :
    Calls Tryz.prog 55 #[pt_ p, .agg #[.int .i64 f.base.id, .int .i64 f.base.kind, .int .i64 f.base.treap, .int .i64 f.base.stat, .int .i64 f.base.home, .int .i64 f.cell, .int .i64 f.up, .int .i64 f.most, .bool f.isMost]] w fun e w' => e = .returned (.tuple #[]) ∧ Ends W P w own (S.gets i f) w' := by
  have R0 := Lib.hid (Run.begin h)
  clear h
  have LEN := Lib.hid hlen
  clear hlen
  have R1 := Lib.hid (R0.out.box (b := w.heap.size) rfl (o := .ro) (by simp) #[.int .i64 f.base.id, .int .i64 f.base.kind, .int .i64 f.base.treap, .int .i64 f.base.stat, .int .i64 f.base.home, .int .i64 f.cell, .int .i64 f.up, .int .i64 f.most, .bool f.isMost] 137)
  have K1 := Lib.hid (R0.out.box_ka (b := w.heap.size) rfl (.ro) (.cells #[.int .i64 f.base.id, .int .i64 f.base.kind, .int .i64 f.base.treap, .int .i64 f.base.stat, .int .i64 f.base.home, .int .i64 f.cell, .int .i64 f.up, .int .i64 f.most, .bool f.isMost] 137) i)
  go_enter Tryz.func55, Tryz.ntmps55
  obtain ⟨G, hG⟩ : ∃ G, G = lgF (fuel f.base.treap) (some S.a) f.base.treap (S.th i).op.key := ⟨_, rfl⟩
  have HG := Lib.hid hG
  clear hG
  go_wp2_with fail
  have R2 := Lib.hid R1.out.drew
  have K2 := Lib.hid (R1.out.drew_ka i)
  refine start_ (n := 21) (S := fun w' => w'.cell? ⟨p, 0, none⟩ = some (pt_ P.px) ∧ w'.cell? ⟨P.px, 0, none⟩ = some (pt_ P.pa) ∧ w'.cell? ⟨w.heap.size, 2, none⟩ = some (.int .i64 f.base.treap) ∧ w'.cell? ⟨p, 3, none⟩ = some (.int .i64 (S.th i).op.key)) (ds := [15]) (bz 21 0).toArray (by kernel_rfl) rfl rfl ⟨(R2.out.is.thx hp), (R2.out.is.xa), (cell_blk (i := 2) ((Run.box_bx (b := w.heap.size) rfl _ _).keep K2.out.k).2 rfl), (R2.out.is.thc hp (k := 3) (fun _ _ => rfl))⟩ (fun hHeld => ?_)
  refine pure_ (i := 0) (N := some 7) (v := ?_) (a' := ?_) (bz 21 1).toArray rfl rfl (by kernel_rfl) (fun _ _ _ h => h) (Or.inl ⟨by rfl, ?_⟩) ?_ ?_
  rotate_left
  · intro w'
    go_simp
    with_reducible rfl
  rotate_left
  · simp only [Act.put, sqA, sqZ, sqS, i64_w, i32_w]
    rfl
  refine pure_ (i := 1) (N := some 8) (v := ?_) (a' := ?_) (bz 21 3).toArray rfl rfl (by kernel_rfl) (fun _ _ _ h => h) (Or.inl ⟨by rfl, ?_⟩) ?_ ?_
  rotate_left
  · intro w'
    go_simp
    with_reducible rfl
  rotate_left
  · simp only [Act.put, sqA, sqZ, sqS, i64_w, i32_w]
    rfl
  refine pure_ (i := 2) (N := some 9) (v := ?_) (a' := ?_) (bz 21 7).toArray rfl rfl (by kernel_rfl) (fun _ _ _ h => h) (Or.inl ⟨by rfl, ?_⟩) ?_ ?_
  rotate_left
  · intro w'
    go_simp
    with_reducible rfl
  rotate_left
  · simp only [Act.put, sqA, sqZ, sqS, i64_w, i32_w]
    rfl
  refine pure_ (i := 7) (N := some 14) (v := ?_) (a' := ?_) (bz 21 135).toArray rfl rfl (by kernel_rfl) (fun _ _ _ h => h) (Or.inl ⟨by rfl, ?_⟩) ?_ ?_
  rotate_left
  · intro w'
    go_simp
    with_reducible rfl
  rotate_left
  · simp only [Act.put, sqA, sqZ, sqS, i64_w, i32_w]
    rfl
  refine pure_ (i := 8) (N := some 15) (v := ?_) (a' := ?_) (bz 21 391).toArray rfl rfl (by kernel_rfl) (fun _ _ _ h => h) (Or.inl ⟨by rfl, ?_⟩) ?_ ?_
  rotate_left
  · intro w'
    go_simp
    with_reducible rfl
  rotate_left
  · simp only [Act.put, sqA, sqZ, sqS, i64_w, i32_w]
    rfl
  refine pure_ (i := 10) (N := some 17) (v := ?_) (a' := ?_) (bz 21 1415).toArray rfl rfl (by kernel_rfl) (fun _ _ _ h => h) (Or.inl ⟨by rfl, ?_⟩) ?_ ?_
  rotate_left
  · intro w'
    go_simp
    with_reducible rfl
  rotate_left
  · simp only [Act.put, sqA, sqZ, sqS, i64_w, i32_w]
    rfl
  refine pure_ (i := 11) (N := some 18) (v := ?_) (a' := ?_) (bz 21 3463).toArray rfl rfl (by kernel_rfl) (fun _ _ _ h => h) (Or.inl ⟨by rfl, ?_⟩) ?_ ?_
  rotate_left
  · intro w'
    go_simp
    with_reducible rfl
  rotate_left
  · simp only [Act.put, sqA, sqZ, sqS, i64_w, i32_w]
    rfl
  refine pure_ (i := 12) (N := some 19) (v := ?_) (a' := ?_) (bz 21 7559).toArray rfl rfl (by kernel_rfl) (fun _ _ _ h => h) (Or.inl ⟨by rfl, ?_⟩) ?_ ?_
  rotate_left
  · intro w'
    go_simp
    with_reducible rfl
  rotate_left
  · simp only [Act.put, sqA, sqZ, sqS, i64_w, i32_w]
    rfl
  refine pure_ (i := 13) (N := some 20) (v := ?_) (a' := ?_) (bz 21 15751).toArray rfl rfl (by kernel_rfl) (fun _ _ _ h => h) (Or.inl ⟨by rfl, ?_⟩) ?_ ?_
  rotate_left
  · intro w'
    go_simp
    with_reducible rfl
  rotate_left
  · simp only [Act.put, sqA, sqZ, sqS, i64_w, i32_w]
    rfl
  refine take_ (i := 3) (N := some 10) (v := ?_) (a' := ?_) (bz 21 15759).toArray rfl rfl (by kernel_rfl) (fun _ _ _ h => h) (Or.inl ⟨by rfl, ?_⟩) hHeld ?_ ?_
  rotate_left
  · rintro w' ⟨s0, s1, s2, s3⟩
    go_simp
    with_reducible rfl
  rotate_left
  · simp only [Act.put, sqA, sqZ, sqS, i64_w, i32_w]
    rfl
  refine pure_ (i := 4) (N := some 11) (v := ?_) (a' := ?_) (bz 21 15775).toArray rfl rfl (by kernel_rfl) (fun _ _ _ h => h) (Or.inl ⟨by rfl, ?_⟩) ?_ ?_
  rotate_left
  · intro w'
    go_simp
    with_reducible rfl
  rotate_left
  · simp only [Act.put, sqA, sqZ, sqS, i64_w, i32_w]
    rfl
  refine pure_ (i := 5) (N := some 12) (v := ?_) (a' := ?_) (bz 21 15807).toArray rfl rfl (by kernel_rfl) (fun _ _ _ h => h) (Or.inl ⟨by rfl, ?_⟩) ?_ ?_
  rotate_left
  · intro w'
    go_simp
    with_reducible rfl
  rotate_left
  · simp only [Act.put, sqA, sqZ, sqS, i64_w, i32_w]
    rfl
  refine take_ (i := 6) (N := some 13) (v := ?_) (a' := ?_) (bz 21 15871).toArray rfl rfl (by kernel_rfl) (fun _ _ _ h => h) (Or.inl ⟨by rfl, ?_⟩) hHeld ?_ ?_
  rotate_left
  · rintro w' ⟨s0, s1, s2, s3⟩
    go_simp
    with_reducible rfl
  rotate_left
  · simp only [Act.put, sqA, sqZ, sqS, i64_w, i32_w]
    rfl
  refine take_ (i := 9) (N := some 16) (v := ?_) (a' := ?_) (bz 21 16383).toArray rfl rfl (by kernel_rfl) (fun _ _ _ h => h) (Or.inl ⟨by rfl, ?_⟩) hHeld ?_ ?_
  rotate_left
  · rintro w' ⟨s0, s1, s2, s3⟩
    go_simp
    with_reducible rfl
  rotate_left
  · simp only [Act.put, sqA, sqZ, sqS, i64_w, i32_w]
    rfl
  refine take_ (i := 14) (N := some 21) (v := ?_) (a' := ?_) (bz 21 32767).toArray rfl rfl (by kernel_rfl) (fun _ _ _ h => h) (Or.inl ⟨by rfl, ?_⟩) hHeld ?_ ?_
  rotate_left
  · rintro w' ⟨s0, s1, s2, s3⟩
    go_simp
    with_reducible rfl
  rotate_left
  · simp only [Act.put, sqA, sqZ, sqS, i64_w, i32_w]
    rfl
  refine last_ (i := 15) (N := some 22) (bz 21 65535).toArray rfl rfl (by kernel_rfl) (by decide) (fun K hK => ?_)
  refine goes_ Tryz.func90 (by kernel_rfl) rfl #[pt_ P.pa, .int .i64 f.base.treap, .int .i64 (S.th i).op.key] (by rfl) rfl rfl (by simp only [List.map_toArray, List.map_cons, List.map_nil]; rfl) ?_
  with_reducible refine (lookGet_any R2.out.is.arena (fuel f.base.treap) f.base.treap (S.th i).op.key (lt_fuel _)).mono ?_
  rintro e w3 ⟨rfl, x3⟩
  have b3 := x3
  clear x3
  have R3 := Lib.hid (R2.out.later b3)
  have K3 := Lib.hid (R2.out.below_ka b3 i)
  clear b3
  refine ⟨_, rfl, ?_⟩
  refine hK.out _ _ ?_
  clear hK K
  refine norm_ (a' := ?_) ?_ ?_
  rotate_left
  · show Act.put _ (some 22) _ = _
    simp only [Act.put, sqA, sqZ, sqS, i64_w, i32_w]
    rfl
  refine pure_ (i := 16) (N := some 6) (v := ?_) (a' := ?_) (bz 21 131071).toArray rfl rfl (by kernel_rfl) (fun _ _ _ h => h) (Or.inl ⟨by rfl, ?_⟩) ?_ ?_
  rotate_left
  · intro w'
    go_simp
    with_reducible rfl
  rotate_left
  · simp only [Act.put, sqA, sqZ, sqS, i64_w, i32_w]
    rfl
  refine pure_ (i := 17) (N := some 23) (v := ?_) (a' := ?_) (bz 21 262143).toArray rfl rfl (by kernel_rfl) (fun _ _ _ h => h) (Or.inl ⟨by rfl, ?_⟩) ?_ ?_
  rotate_left
  · intro w'
    go_simp
    with_reducible rfl
  rotate_left
  · simp only [Act.put, sqA, sqZ, sqS, i64_w, i32_w]
    rfl
  refine pure_ (i := 18) (N := some 24) (v := ?_) (a' := ?_) (bz 21 524287).toArray rfl rfl (by kernel_rfl) (fun _ _ _ h => h) (Or.inl ⟨by rfl, ?_⟩) ?_ ?_
  rotate_left
  · intro w'
    go_simp
    with_reducible rfl
  rotate_left
  · simp only [Act.put, sqA, sqZ, sqS, i64_w, i32_w]
    rfl
  refine pure_ (i := 19) (N := some 4) (v := ?_) (a' := ?_) (bz 21 1048575).toArray rfl rfl (by kernel_rfl) (fun _ _ _ h => h) (Or.inl ⟨by rfl, ?_⟩) ?_ ?_
  rotate_left
  · intro w'
    go_simp
    with_reducible rfl
  rotate_left
  · simp only [Act.put, sqA, sqZ, sqS, i64_w, i32_w]
    rfl
  refine pure_ (i := 20) (N := some 5) (v := ?_) (a' := ?_) (bz 21 2097151).toArray rfl rfl (by kernel_rfl) (fun _ _ _ h => h) (Or.inl ⟨by rfl, ?_⟩) ?_ ?_
  rotate_left
  · intro w'
    go_simp
    with_reducible rfl
  rotate_left
  · simp only [Act.put, sqA, sqZ, sqS, i64_w, i32_w]
    rfl
  refine done_ (by kernel_rfl) ?_
  have ct3 := R3.out.is.thc hp (k := 3) (fun _ _ => rfl)
  go_wp2_with fail
  refine (xhad_any (S.th i).op.key (lgF (fuel f.base.treap) (some S.a) f.base.treap (S.th i).op.key).1 (lgF (fuel f.base.treap) (some S.a) f.base.treap (S.th i).op.key).2 _).mono ?_
  rintro e w4 ⟨rfl, b4⟩
  clear ct3
  have R4 := Lib.hid (R3.out.later b4)
  have K4 := Lib.hid (R3.out.below_ka b4 i)
  clear b4
  go_wp2_with fail
  refine (xtells_any R4.out.is hp (a := had (S.th i).op.key (lgF (fuel f.base.treap) (some S.a) f.base.treap (S.th i).op.key).1 (lgF (fuel f.base.treap) (some S.a) f.base.treap (S.th i).op.key).2) (pv := .slice none 0 0) (by rw [had_pairs]; exact PV.nil _ _) LEN.out).mono ?_
  rintro e w5 ⟨rfl, e5⟩
  go_wp2_with fail
  go_end0
  exact ⟨rfl, R4.out.then_ e5⟩
end Go.Proofs.YtghjnkfocjjlnaaGreat
