/- The closures of an update. -/
/- What a thread goes on with: behind a load, behind a swap. -/
import Derived.Test.YtghjnkfocjjlnaaGreatT00
import Derived.Test.YtghjnkfocjjlnaaGreatT18
set_option linter.unusedSimpArgs false
set_option linter.unusedVariables false
section
namespace Go.Proofs.YtghjnkfocjjlnaaGreat
set_option maxRecDepth 100000
open Go.RowKit Go.Proofs.YtghjnkfocjjlnaaGreatW.PrintWords Go.Proofs.YtghjnkfocjjlnaaGreatW.PrintLast
set_option linter.unusedVariables false
set_option linter.unusedSimpArgs false
set_option maxRecDepth 100000 in
set_option maxHeartbeats 4000000 in
theorem xup3_no {W w : World} {P : Pl} {own : Own} {S : Ix} (h : IS W w P own S) {i p : Nat} (hp : P.pts[i]? = some p) {bt bi ba : Nat} {id : Int} {a : AnsR} {pv : Value} (hbt : Bx w own bt #[pt_ p] 90) (hbi : Bx w own bi #[.int .i64 id] 3) (hba : Bx w own ba (ansC a pv) 45) (hps : PV w own pv a.pairs) :
    Calls Tryz.prog 81 #[.bool false, pt_ bt, pt_ bi, pt_ ba] w fun e w' => e = .returned (.tuple #[]) ∧ Ends W P w own ((S.late i).update i) w' := by
  have R0 := Lib.hid (Run.begin h)
  clear h
  have HV := Lib.hid hps
  clear hps
  have HBT := Lib.hid hbt
  clear hbt
  have HBI := Lib.hid hbi
  clear hbi
  have HBA := Lib.hid hba
  clear hba
  go_enter Tryz.func81, Tryz.ntmps81
  have cbt_0 := cell_blk (i := 0) (HBT.out).2 rfl
  have ct7 := R0.out.is.thc hp (k := 7) (fun _ _ => rfl)
  have ft7 := R0.out.is.th_free hp 7
  have ct7b := R0.out.is.th_lt hp
  have R1 := Lib.hid (R0.out.late hp)
  have K1 := Lib.hid (R0.out.set_ka hp 7 (.bool true) i)
  have cbt_0 := cell_blk (i := 0) ((HBT.out).keep K1.out.k).2 rfl
  go_wp2_with fail
  refine (xupdate_any R1.out.is hp).mono ?_
  rintro e w2 ⟨rfl, e2⟩
  clear cbt_0 ct7 ft7 ct7b
  go_wp2_with fail
  first | go_end0 | refine bodyPost_ret (results_none rfl _ _ _) rfl ?_
  exact ⟨rfl, R1.out.then_ e2⟩
set_option maxRecDepth 100000 in
set_option maxHeartbeats 4000000 in
theorem xup3_yes {W w : World} {P : Pl} {own : Own} {S : Ix} (h : IS W w P own S) {i p : Nat} (hp : P.pts[i]? = some p) {bt bi ba : Nat} {id : Int} {a : AnsR} {pv : Value} (hbt : Bx w own bt #[pt_ p] 90) (hbi : Bx w own bi #[.int .i64 id] 3) (hba : Bx w own ba (ansC a pv) 45) (hps : PV w own pv a.pairs) (hlen : S.order.length ≤ 1000000) (he : (halfO (some S.a) (S.base id).treap).2.2.2.1 ≠ 0) :
    Calls Tryz.prog 81 #[.bool true, pt_ bt, pt_ bi, pt_ ba] w fun e w' => e = .returned (.tuple #[]) ∧ Ends W P w own ((S.took (S.th i).call).bend i (S.base id) (S.th i).op.key (.ret a)) w' := by
  have R0 := Lib.hid (Run.begin h)
  clear h
  have HV := Lib.hid hps
  clear hps
  have HBT := Lib.hid hbt
  clear hbt
  have HBI := Lib.hid hbi
  clear hbi
  have HBA := Lib.hid hba
  clear hba
  have LEN := Lib.hid hlen
  clear hlen
  have HE := Lib.hid he
  clear he
  go_enter Tryz.func81, Tryz.ntmps81
  go_wp2_with fail
  have R1 := Lib.hid R0.out.drew
  have K1 := Lib.hid (R0.out.drew_ka i)
  refine start_ (n := 9) (S := fun w' => w'.cell? ⟨bt, 0, none⟩ = some (pt_ p) ∧ w'.cell? ⟨p, 0, none⟩ = some (pt_ P.px) ∧ w'.cell? ⟨p, 6, none⟩ = some (.int .i64 (S.th i).call)) (ds := [8]) (bz 9 0).toArray (by kernel_rfl) rfl rfl ⟨(cell_blk (i := 0) ((HBT.out).keep K1.out.k).2 rfl), (R1.out.is.thx hp), (R1.out.is.thc hp (k := 6) (fun _ _ => rfl))⟩ (fun hHeld => ?_)
  refine take_ (i := 0) (N := some 12) (v := ?_) (a' := ?_) (bz 9 1).toArray rfl rfl (by kernel_rfl) (fun _ _ _ h => h) (Or.inl ⟨by rfl, ?_⟩) hHeld ?_ ?_
  rotate_left
  · rintro w' ⟨s0, s1, s2⟩
    go_simp
    with_reducible rfl
  rotate_left
  · simp only [Act.put, sqA, sqZ, sqS, i64_w, i32_w]
    rfl
  refine pure_ (i := 1) (N := some 13) (v := ?_) (a' := ?_) (bz 9 3).toArray rfl rfl (by kernel_rfl) (fun _ _ _ h => h) (Or.inl ⟨by rfl, ?_⟩) ?_ ?_
  rotate_left
  · intro w'
    go_simp
    with_reducible rfl
  rotate_left
  · simp only [Act.put, sqA, sqZ, sqS, i64_w, i32_w]
    rfl
  refine pure_ (i := 2) (N := some 14) (v := ?_) (a' := ?_) (bz 9 7).toArray rfl rfl (by kernel_rfl) (fun _ _ _ h => h) (Or.inl ⟨by rfl, ?_⟩) ?_ ?_
  rotate_left
  · intro w'
    go_simp
    with_reducible rfl
  rotate_left
  · simp only [Act.put, sqA, sqZ, sqS, i64_w, i32_w]
    rfl
  refine take_ (i := 3) (N := some 15) (v := ?_) (a' := ?_) (bz 9 15).toArray rfl rfl (by kernel_rfl) (fun _ _ _ h => h) (Or.inl ⟨by rfl, ?_⟩) hHeld ?_ ?_
  rotate_left
  · rintro w' ⟨s0, s1, s2⟩
    go_simp
    with_reducible rfl
  rotate_left
  · simp only [Act.put, sqA, sqZ, sqS, i64_w, i32_w]
    rfl
  refine take_ (i := 4) (N := some 16) (v := ?_) (a' := ?_) (bz 9 31).toArray rfl rfl (by kernel_rfl) (fun _ _ _ h => h) (Or.inl ⟨by rfl, ?_⟩) hHeld ?_ ?_
  rotate_left
  · rintro w' ⟨s0, s1, s2⟩
    go_simp
    with_reducible rfl
  rotate_left
  · simp only [Act.put, sqA, sqZ, sqS, i64_w, i32_w]
    rfl
  refine pure_ (i := 5) (N := some 17) (v := ?_) (a' := ?_) (bz 9 63).toArray rfl rfl (by kernel_rfl) (fun _ _ _ h => h) (Or.inl ⟨by rfl, ?_⟩) ?_ ?_
  rotate_left
  · intro w'
    go_simp
    with_reducible rfl
  rotate_left
  · simp only [Act.put, sqA, sqZ, sqS, i64_w, i32_w]
    rfl
  refine pure_ (i := 6) (N := some 18) (v := ?_) (a' := ?_) (bz 9 127).toArray rfl rfl (by kernel_rfl) (fun _ _ _ h => h) (Or.inl ⟨by rfl, ?_⟩) ?_ ?_
  rotate_left
  · intro w'
    go_simp
    with_reducible rfl
  rotate_left
  · simp only [Act.put, sqA, sqZ, sqS, i64_w, i32_w]
    rfl
  refine take_ (i := 7) (N := some 19) (v := ?_) (a' := ?_) (bz 9 255).toArray rfl rfl (by kernel_rfl) (fun _ _ _ h => h) (Or.inl ⟨by rfl, ?_⟩) hHeld ?_ ?_
  rotate_left
  · rintro w' ⟨s0, s1, s2⟩
    go_simp
    with_reducible rfl
  rotate_left
  · simp only [Act.put, sqA, sqZ, sqS, i64_w, i32_w]
    rfl
  refine last_ (i := 8) (N := some 20) (bz 9 511).toArray rfl rfl (by kernel_rfl) (by decide) (fun K hK => ?_)
  refine goes_ Tryz.func82 (by kernel_rfl) rfl #[pt_ P.px, .int .i64 (S.th i).call] (by rfl) rfl rfl (by simp only [List.map_toArray, List.map_cons, List.map_nil]; rfl) ?_
  with_reducible refine (xtook_any R1.out.is (S.th i).call LEN.out i).mono ?_
  rintro e w2 ⟨rfl, x2⟩
  obtain ⟨o2, r2, k2⟩ := x2
  have R2 := Lib.hid (R1.out.comp r2)
  have K2 := Lib.hid k2
  clear r2 k2
  refine ⟨_, rfl, ?_⟩
  refine hK.out _ _ ?_
  clear hK K
  refine norm_ (a' := ?_) ?_ ?_
  rotate_left
  · show Act.put _ (some 20) _ = _
    simp only [Act.put, sqA, sqZ, sqS, i64_w, i32_w]
    rfl
  refine done_ (by kernel_rfl) ?_
  go_wp2_with fail
  have R3 := Lib.hid R2.out.drew
  have K3 := Lib.hid (R2.out.drew_ka i)
  refine start_ (n := 14) (S := fun w' => w'.cell? ⟨bt, 0, none⟩ = some (pt_ p) ∧ w'.cell? ⟨p, 0, none⟩ = some (pt_ P.px) ∧ w'.cell? ⟨bi, 0, none⟩ = some (.int .i64 id) ∧ w'.cell? ⟨p, 3, none⟩ = some (.int .i64 (S.th i).op.key)) (ds := [13]) (bz 14 0).toArray (by kernel_rfl) rfl rfl ⟨(cell_blk (i := 0) ((((HBT.out).keep K1.out.k).keep K2.out.k).keep K3.out.k).2 rfl), (R3.out.is.thx hp), (cell_blk (i := 0) ((((HBI.out).keep K1.out.k).keep K2.out.k).keep K3.out.k).2 rfl), (R3.out.is.thc hp (k := 3) (fun _ _ => rfl))⟩ (fun hHeld => ?_)
  refine pure_ (i := 12) (N := some 33) (v := ?_) (a' := ?_) (bz 14 4096).toArray rfl rfl (by kernel_rfl) (fun _ _ _ h => h) (Or.inl ⟨by rfl, ?_⟩) ?_ ?_
  rotate_left
  · intro w'
    go_simp
    with_reducible rfl
  rotate_left
  · simp only [Act.put, sqA, sqZ, sqS, i64_w, i32_w]
    rfl
  refine take_ (i := 0) (N := some 21) (v := ?_) (a' := ?_) (bz 14 4097).toArray rfl rfl (by kernel_rfl) (fun _ _ _ h => h) (Or.inl ⟨by rfl, ?_⟩) hHeld ?_ ?_
  rotate_left
  · rintro w' ⟨s0, s1, s2, s3⟩
    go_simp
    with_reducible rfl
  rotate_left
  · simp only [Act.put, sqA, sqZ, sqS, i64_w, i32_w]
    rfl
  refine take_ (i := 1) (N := some 22) (v := ?_) (a' := ?_) (bz 14 4099).toArray rfl rfl (by kernel_rfl) (fun _ _ _ h => h) (Or.inl ⟨by rfl, ?_⟩) hHeld ?_ ?_
  rotate_left
  · rintro w' ⟨s0, s1, s2, s3⟩
    go_simp
    with_reducible rfl
  rotate_left
  · simp only [Act.put, sqA, sqZ, sqS, i64_w, i32_w]
    rfl
  refine pure_ (i := 2) (N := some 23) (v := ?_) (a' := ?_) (bz 14 4103).toArray rfl rfl (by kernel_rfl) (fun _ _ _ h => h) (Or.inl ⟨by rfl, ?_⟩) ?_ ?_
  rotate_left
  · intro w'
    go_simp
    with_reducible rfl
  rotate_left
  · simp only [Act.put, sqA, sqZ, sqS, i64_w, i32_w]
    rfl
  refine pure_ (i := 3) (N := some 24) (v := ?_) (a' := ?_) (bz 14 4111).toArray rfl rfl (by kernel_rfl) (fun _ _ _ h => h) (Or.inl ⟨by rfl, ?_⟩) ?_ ?_
  rotate_left
  · intro w'
    go_simp
    with_reducible rfl
  rotate_left
  · simp only [Act.put, sqA, sqZ, sqS, i64_w, i32_w]
    rfl
  refine take_ (i := 4) (N := some 25) (v := ?_) (a' := ?_) (bz 14 4127).toArray rfl rfl (by kernel_rfl) (fun _ _ _ h => h) (Or.inl ⟨by rfl, ?_⟩) hHeld ?_ ?_
  rotate_left
  · rintro w' ⟨s0, s1, s2, s3⟩
    go_simp
    with_reducible rfl
  rotate_left
  · simp only [Act.put, sqA, sqZ, sqS, i64_w, i32_w]
    rfl
  refine take_ (i := 5) (N := some 26) (v := ?_) (a' := ?_) (bz 14 4159).toArray rfl rfl (by kernel_rfl) (fun _ _ _ h => h) (Or.inl ⟨by rfl, ?_⟩) hHeld ?_ ?_
  rotate_left
  · rintro w' ⟨s0, s1, s2, s3⟩
    go_simp
    with_reducible rfl
  rotate_left
  · simp only [Act.put, sqA, sqZ, sqS, i64_w, i32_w]
    rfl
  refine take_ (i := 7) (N := some 28) (v := ?_) (a' := ?_) (bz 14 4287).toArray rfl rfl (by kernel_rfl) (fun _ _ _ h => h) (Or.inl ⟨by rfl, ?_⟩) hHeld ?_ ?_
  rotate_left
  · rintro w' ⟨s0, s1, s2, s3⟩
    go_simp
    with_reducible rfl
  rotate_left
  · simp only [Act.put, sqA, sqZ, sqS, i64_w, i32_w]
    rfl
  refine pure_ (i := 8) (N := some 29) (v := ?_) (a' := ?_) (bz 14 4543).toArray rfl rfl (by kernel_rfl) (fun _ _ _ h => h) (Or.inl ⟨by rfl, ?_⟩) ?_ ?_
  rotate_left
  · intro w'
    go_simp
    with_reducible rfl
  rotate_left
  · simp only [Act.put, sqA, sqZ, sqS, i64_w, i32_w]
    rfl
  refine pure_ (i := 9) (N := some 30) (v := ?_) (a' := ?_) (bz 14 5055).toArray rfl rfl (by kernel_rfl) (fun _ _ _ h => h) (Or.inl ⟨by rfl, ?_⟩) ?_ ?_
  rotate_left
  · intro w'
    go_simp
    with_reducible rfl
  rotate_left
  · simp only [Act.put, sqA, sqZ, sqS, i64_w, i32_w]
    rfl
  refine pure_ (i := 10) (N := some 31) (v := ?_) (a' := ?_) (bz 14 6079).toArray rfl rfl (by kernel_rfl) (fun _ _ _ h => h) (Or.inl ⟨by rfl, ?_⟩) ?_ ?_
  rotate_left
  · intro w'
    go_simp
    with_reducible rfl
  rotate_left
  · simp only [Act.put, sqA, sqZ, sqS, i64_w, i32_w]
    rfl
  refine take_ (i := 11) (N := some 32) (v := ?_) (a' := ?_) (bz 14 8127).toArray rfl rfl (by kernel_rfl) (fun _ _ _ h => h) (Or.inl ⟨by rfl, ?_⟩) hHeld ?_ ?_
  rotate_left
  · rintro w' ⟨s0, s1, s2, s3⟩
    go_simp
    with_reducible rfl
  rotate_left
  · simp only [Act.put, sqA, sqZ, sqS, i64_w, i32_w]
    rfl
  refine one_ (i := 6) (N := some 27) (bz 14 8191).toArray rfl rfl (by kernel_rfl) (by decide) (fun K hK => ?_)
  refine goes_ Tryz.func84 (by kernel_rfl) rfl #[pt_ P.px, .int .i64 id] (by rfl) rfl rfl (by simp only [List.map_toArray, List.map_cons, List.map_nil]; rfl) ?_
  with_reducible refine (xbase_any R3.out.is id).mono ?_
  rintro e w4 ⟨rfl, x4⟩
  have b4 := x4
  clear x4
  have R4 := Lib.hid (R3.out.later b4)
  have K4 := Lib.hid (R3.out.below_ka b4 i)
  clear b4
  refine ⟨_, rfl, ?_⟩
  have CT := Lib.hid (xbend_any (S := S.took (S.th i).call) (b := S.base id) (key := (S.th i).op.key) (k := .ret a) (v := .func (.func 85) #[] #[pt_ bt, pt_ ba]) R4.out.is hp ⟨bt, ba, pv, rfl, (((((HBT.out).keep K1.out.k).keep K2.out.k).keep K3.out.k).keep K4.out.k), (((((HBA.out).keep K1.out.k).keep K2.out.k).keep K3.out.k).keep K4.out.k), (((((HV.out).keep K1.out.k).keep K2.out.k).keep K3.out.k).keep K4.out.k)⟩ HE.out)
  refine hK.out _ _ ⟨(cell_blk (i := 0) (((((HBT.out).keep K1.out.k).keep K2.out.k).keep K3.out.k).keep K4.out.k).2 rfl), (R4.out.is.thx hp), (cell_blk (i := 0) (((((HBI.out).keep K1.out.k).keep K2.out.k).keep K3.out.k).keep K4.out.k).2 rfl), (R4.out.is.thc hp (k := 3) (fun _ _ => rfl))⟩ (fun hHeld => ?_)
  clear hK K
  refine norm_ (a' := ?_) ?_ ?_
  rotate_left
  · show Act.put _ (some 27) _ = _
    simp only [Act.put, sqA, sqZ, sqS, i64_w, i32_w]
    rfl
  refine last_ (i := 13) (N := some 34) (bz 14 16383).toArray rfl rfl (by kernel_rfl) (by decide) (fun K hK => ?_)
  refine goes_ Tryz.func83 (by kernel_rfl) rfl #[pt_ p, .agg #[.int .i64 (S.base id).id, .int .i64 (S.base id).kind, .int .i64 (S.base id).treap, .int .i64 (S.base id).stat, .int .i64 (S.base id).home], .int .i64 (S.th i).op.key, .func (.func 85) #[] #[pt_ bt, pt_ ba]] (by rfl) rfl rfl (by simp only [List.map_toArray, List.map_cons, List.map_nil]; rfl) ?_
  with_reducible refine (CT.out).mono ?_
  rintro e w5 ⟨rfl, e5⟩
  refine ⟨_, rfl, ?_⟩
  refine hK.out _ _ ?_
  clear hK K
  refine norm_ (a' := ?_) ?_ ?_
  rotate_left
  · show Act.put _ (some 34) _ = _
    simp only [Act.put, sqA, sqZ, sqS, i64_w, i32_w]
    rfl
  refine done_ (by kernel_rfl) ?_
  go_wp2_with fail
  first | go_end0 | refine bodyPost_ret (results_none rfl _ _ _) rfl ?_
  exact ⟨rfl, R4.out.then_ e5⟩
theorem xmade_any {W w : World} {P : Pl} {own : Own} {S : Ix} (h : IS W w P own S) {i p : Nat} (hp : P.pts[i]? = some p) (b : BaseR) (pressed : Int) (hk : (S.th i).op.kind = 1 ∨ (S.th i).op.kind = 2 ∨ (S.th i).op.kind = 3) :
    Calls Tryz.prog 78 #[pt_ p, .agg #[.int .i64 b.id, .int .i64 b.kind, .int .i64 b.treap, .int .i64 b.stat, .int .i64 b.home], .int .i64 pressed] w fun e w' => e = .returned (.tuple #[.int .i64 (S.made i b pressed).1, .agg #[.int .i64 (S.made i b pressed).2.1.err, .bool (S.made i b pressed).2.1.ok, .int .i64 (S.made i b pressed).2.1.key, .int .i64 (S.made i b pressed).2.1.val, .int .i64 (S.made i b pressed).2.1.n, .slice none 0 0], .int .i64 (S.made i b pressed).2.2.1]) ∧ ∃ own', Run W P w own (S.made i b pressed).2.2.2 w' own' ∧ KA i w own w' own' := by
  rcases hk with hk | hk | hk
  · exact xmade1 h hp b pressed hk
  · exact xmade2 h hp b pressed hk
  · exact xmade3 h hp b pressed hk
theorem made_pairs (S : Ix) (i : Nat) (b : BaseR) (st : Int) : (S.made i b st).2.1.pairs = [] := by
  unfold Ix.made; split
  · rfl
  · exact had_pairs _ _ _
set_option maxRecDepth 100000 in
set_option maxHeartbeats 4000000 in
theorem xup2_any {W w : World} {P : Pl} {own : Own} {S : Ix} (h : IS W w P own S) {i p : Nat} (hp : P.pts[i]? = some p) {bt bf : Nat} {f : FoundR} {st : Int} (hbt : Bx w own bt #[pt_ p] 90) (hbf : Bx w own bf (foundC f) 137) (hk : (S.th i).op.kind = 1 ∨ (S.th i).op.kind = 2 ∨ (S.th i).op.kind = 3) :
    Calls Tryz.prog 76 #[.bool true, .int .i64 st, pt_ bt, pt_ bf] w fun e w' => e = .returned (.tuple #[]) ∧ Ends W P w own (S.freeUpd i f st) w' := by
  have R0 := Lib.hid (Run.begin h)
  clear h
  have HBT := Lib.hid hbt
  clear hbt
  have HBF := Lib.hid hbf
  clear hbf
  have HK3 := Lib.hid hk
  clear hk
  obtain ⟨MD, hMD⟩ : ∃ M, M = S.made i f.base st := ⟨_, rfl⟩
  unfold Ix.freeUpd
  have cm := fun w' own' (h : IS W w' P own' S) => xmade_any h hp f.base st HK3.out
  rw [← hMD]
  simp only [← hMD] at cm
  obtain ⟨mi, ma, me, S1⟩ := MD
  simp only [] at cm ⊢
  have hma : ma.pairs = [] := by have h2 := made_pairs S i f.base st; rw [← hMD] at h2; exact h2
  have HMP := Lib.hid hma
  have CM := Lib.hid cm
  clear cm hMD hma
  go_enter Tryz.func76, Tryz.ntmps76
  have cbt_0 := cell_blk (i := 0) (HBT.out).2 rfl
  have cbf_0 := cell_blk (i := 0) (HBF.out).2 rfl
  have cbf_1 := cell_blk (i := 1) (HBF.out).2 rfl
  have cbf_2 := cell_blk (i := 2) (HBF.out).2 rfl
  have cbf_3 := cell_blk (i := 3) (HBF.out).2 rfl
  have cbf_4 := cell_blk (i := 4) (HBF.out).2 rfl
  have cbf_5 := cell_blk (i := 5) (HBF.out).2 rfl
  have cbf_6 := cell_blk (i := 6) (HBF.out).2 rfl
  have cbf_7 := cell_blk (i := 7) (HBF.out).2 rfl
  have cbf_8 := cell_blk (i := 8) (HBF.out).2 rfl
  go_wp2_with fail
  refine (CM.out _ _ R0.out.is).mono ?_
  rintro e w1 ⟨rfl, o1, r1, k1⟩
  clear cbt_0 cbf_0 cbf_1 cbf_2 cbf_3 cbf_4 cbf_5 cbf_6 cbf_7 cbf_8
  have R1 := Lib.hid (R0.out.comp r1)
  have K1 := Lib.hid k1
  clear r1 k1
  have R2 := Lib.hid (R1.out.box (b := w1.heap.size) rfl (o := .ro) (by simp) #[.int .i64 mi] 3)
  have K2 := Lib.hid (R1.out.box_ka (b := w1.heap.size) rfl (.ro) (.cells #[.int .i64 mi] 3) i)
  have R3 := Lib.hid (R2.out.box (b := w1.heap.size + 1) (by simp) (o := .ro) (by simp) #[.int .i64 ma.err, .bool ma.ok, .int .i64 ma.key, .int .i64 ma.val, .int .i64 ma.n, .slice none 0 0] 45)
  have K3 := Lib.hid (R2.out.box_ka (b := w1.heap.size + 1) (by simp) (.ro) (.cells #[.int .i64 ma.err, .bool ma.ok, .int .i64 ma.key, .int .i64 ma.val, .int .i64 ma.n, .slice none 0 0] 45) i)
  by_cases h0 : me = 0
  · have q0 : (me == 0) = true := beq_iff_eq.2 h0
    have q1 : (me != 0) = false := by rw [bne, q0]; rfl
    have cbt_0 := cell_blk (i := 0) ((((HBT.out).keep K1.out.k).keep K2.out.k).keep K3.out.k).2 rfl
    have cbf_0 := cell_blk (i := 0) ((((HBF.out).keep K1.out.k).keep K2.out.k).keep K3.out.k).2 rfl
    have cbf_4 := cell_blk (i := 4) ((((HBF.out).keep K1.out.k).keep K2.out.k).keep K3.out.k).2 rfl
    have cc0_0 := cell_blk (i := 0) ((Run.box_bx (b := w1.heap.size) rfl _ _).keep K3.out.k).2 rfl
    go_wp2_with fail
    refine (xswap_any R3.out.is hp (k := .upd mi ma) ⟨bt, _, _, _, rfl, ((((HBT.out).keep K1.out.k).keep K2.out.k).keep K3.out.k), ((Run.box_bx (b := w1.heap.size) rfl _ _).keep K3.out.k), (Run.box_bx (b := w1.heap.size + 1) (by simp) _ _), (by rw [HMP.out]; exact PV.nil _ _)⟩).mono ?_
    rintro e w4 ⟨rfl, e4⟩
    clear cbt_0 cbf_0 cbf_4 cc0_0
    go_wp2_with fail
    first | go_end0 | refine bodyPost_ret (results_none rfl _ _ _) rfl ?_
    exact ⟨rfl, R3.out.then_ e4⟩
  · have q0 : (me == 0) = false := beq_eq_false_iff_ne.2 h0
    have q1 : (me != 0) = true := by rw [bne, q0]; rfl
    have cbt_0 := cell_blk (i := 0) ((((HBT.out).keep K1.out.k).keep K2.out.k).keep K3.out.k).2 rfl
    go_wp2_with fail
    refine (xfull_any R3.out.is hp).mono ?_
    rintro e w4 ⟨rfl, e4⟩
    clear cbt_0
    go_wp2_with fail
    first | go_end0 | refine bodyPost_ret (results_none rfl _ _ _) rfl ?_
    exact ⟨rfl, R3.out.then_ e4⟩
end Go.Proofs.YtghjnkfocjjlnaaGreat
end
section
namespace Go.Proofs.YtghjnkfocjjlnaaGreat
set_option maxRecDepth 100000
open Go.RowKit Go.Proofs.YtghjnkfocjjlnaaGreatW.PrintWords Go.Proofs.YtghjnkfocjjlnaaGreatW.PrintLast
set_option linter.unusedVariables false
set_option linter.unusedSimpArgs false
theorem xapplyS_any {W w : World} {P : Pl} {own : Own} {S : Ix} (h : IS W w P own S) {i p : Nat} (hp : P.pts[i]? = some p) {v : Value} {f : FoundR} {st : Int} (hk : RepS w own p v (.upd f)) (ho : (S.th i).op.kind = 1 ∨ (S.th i).op.kind = 2 ∨ (S.th i).op.kind = 3) :
    CallsV v #[.bool true, .int .i64 st] w fun e w' => e = .returned (.tuple #[]) ∧ Ends W P w own (S.freeUpd i f st) w' := by
  obtain ⟨bt, bf, rfl, h1, h2⟩ := hk
  exact callsV_of Tryz.func76 (by kernel_rfl) rfl (all := #[.bool true, .int .i64 st, pt_ bt, pt_ bf]) (by simp) (xup2_any h hp h1 h2 ho)
set_option maxRecDepth 100000 in
set_option maxHeartbeats 4000000 in
theorem xfree_any {W w : World} {P : Pl} {own : Own} {S : Ix} (h : IS W w P own S) {i p : Nat} (hp : P.pts[i]? = some p) {b : BaseR} {f : FoundR} {v : Value} (hk : RepS w own p v (.upd f)) (ho : (S.th i).op.kind = 1 ∨ (S.th i).op.kind = 2 ∨ (S.th i).op.kind = 3) (hn : b.kind = 3) :
    Calls Tryz.prog 75 #[pt_ p, .agg #[.int .i64 b.id, .int .i64 b.kind, .int .i64 b.treap, .int .i64 b.stat, .int .i64 b.home], v] w fun e w' => e = .returned (.tuple #[]) ∧ Ends W P w own (S.freeUpd i f b.stat) w' := by
  obtain ⟨vf, vfi, vca, rfl⟩ := hk.fn
  have R0 := Lib.hid (Run.begin h)
  clear h
  have HV := Lib.hid hk
  clear hk
  have HO := Lib.hid ho
  clear ho
  have HN := Lib.hid hn
  clear hn
  have R1 := Lib.hid (R0.out.box (b := w.heap.size) rfl (o := .ro) (by simp) #[pt_ p] 90)
  have K1 := Lib.hid (R0.out.box_ka (b := w.heap.size) rfl (.ro) (.cells #[pt_ p] 90) i)
  have R2 := Lib.hid (R1.out.box (b := w.heap.size + 1) (by simp) (o := .ro) (by simp) #[.int .i64 b.id, .int .i64 b.kind, .int .i64 b.treap, .int .i64 b.stat, .int .i64 b.home] 120)
  have K2 := Lib.hid (R1.out.box_ka (b := w.heap.size + 1) (by simp) (.ro) (.cells #[.int .i64 b.id, .int .i64 b.kind, .int .i64 b.treap, .int .i64 b.stat, .int .i64 b.home] 120) i)
  have R3 := Lib.hid (R2.out.box (b := w.heap.size + 1 + 1) (by simp) (o := .ro) (by simp) #[.func (.func vf) vfi vca] 147)
  have K3 := Lib.hid (R2.out.box_ka (b := w.heap.size + 1 + 1) (by simp) (.ro) (.cells #[.func (.func vf) vfi vca] 147) i)
  have cb1_1 : (((w.alloc (.cells #[pt_ p] 90)).alloc (.cells #[.int .i64 b.id, .int .i64 b.kind, .int .i64 b.treap, .int .i64 b.stat, .int .i64 b.home] 120)).alloc (.cells #[.func (.func vf) vfi vca] 147)).cell? ⟨w.heap.size + 1, 1, none⟩ = some (.int .i64 3) := by have h1 := cell_blk (i := 1) (((R1.out.bx (b := w.heap.size + 1) (by simp) #[.int .i64 b.id, .int .i64 b.kind, .int .i64 b.treap, .int .i64 b.stat, .int .i64 b.home] 120)).keep K3.out.k).2 rfl; rw [← HN.out]; exact h1
  go_enter Tryz.func75, Tryz.ntmps75
  have cb1_3 := cell_blk (i := 3) (((R1.out.bx (b := w.heap.size + 1) (by simp) #[.int .i64 b.id, .int .i64 b.kind, .int .i64 b.treap, .int .i64 b.stat, .int .i64 b.home] 120)).keep K3.out.k).2 rfl
  have hv4 := (xapplyS_any R3.out.is hp (st := b.stat) ((((HV.out).keep K1.out.k).keep K2.out.k).keep K3.out.k) HO.out).calls
  simp only [List.append_toArray, Array.append_assoc, Array.append_empty, Array.empty_append] at hv4
  have HV4 := Lib.hid hv4
  clear hv4
  have kf1 := (HV.out).known.enters
  go_wp2_with fail
  refine (HV4.out).mono ?_
  rintro e w4 ⟨rfl, e4⟩
  clear kf1
  go_wp2_with fail
  first | go_end0 | refine bodyPost_ret (results_none rfl _ _ _) rfl ?_
  exact ⟨rfl, R3.out.then_ e4⟩
set_option maxRecDepth 100000 in
set_option maxHeartbeats 4000000 in
theorem xup1_any {W w : World} {P : Pl} {own : Own} {S : Ix} (h : IS W w P own S) {i p : Nat} (hp : P.pts[i]? = some p) {bt : Nat} {f : FoundR} (hbt : Bx w own bt #[pt_ p] 90) (ho : (S.th i).op.kind = 1 ∨ (S.th i).op.kind = 2 ∨ (S.th i).op.kind = 3) (hn : f.base.kind = 3) :
    Calls Tryz.prog 74 #[.agg #[.int .i64 f.base.id, .int .i64 f.base.kind, .int .i64 f.base.treap, .int .i64 f.base.stat, .int .i64 f.base.home, .int .i64 f.cell, .int .i64 f.up, .int .i64 f.most, .bool f.isMost], pt_ bt] w fun e w' => e = .returned (.tuple #[]) ∧ Ends W P w own (S.freeUpd i f f.base.stat) w' := by
  have R0 := Lib.hid (Run.begin h)
  clear h
  have HBT := Lib.hid hbt
  clear hbt
  have HO := Lib.hid ho
  clear ho
  have HN := Lib.hid hn
  clear hn
  have R1 := Lib.hid (R0.out.box (b := w.heap.size) rfl (o := .ro) (by simp) #[.int .i64 f.base.id, .int .i64 f.base.kind, .int .i64 f.base.treap, .int .i64 f.base.stat, .int .i64 f.base.home, .int .i64 f.cell, .int .i64 f.up, .int .i64 f.most, .bool f.isMost] 137)
  have K1 := Lib.hid (R0.out.box_ka (b := w.heap.size) rfl (.ro) (.cells #[.int .i64 f.base.id, .int .i64 f.base.kind, .int .i64 f.base.treap, .int .i64 f.base.stat, .int .i64 f.base.home, .int .i64 f.cell, .int .i64 f.up, .int .i64 f.most, .bool f.isMost] 137) i)
  go_enter Tryz.func74, Tryz.ntmps74
  have cbt_0 := cell_blk (i := 0) ((HBT.out).keep K1.out.k).2 rfl
  go_wp2_with fail
  refine (xfree_any R1.out.is hp (b := f.base) (f := f) ⟨_, _, rfl, ((HBT.out).keep K1.out.k), ((R0.out.bx (b := w.heap.size) rfl #[.int .i64 f.base.id, .int .i64 f.base.kind, .int .i64 f.base.treap, .int .i64 f.base.stat, .int .i64 f.base.home, .int .i64 f.cell, .int .i64 f.up, .int .i64 f.most, .bool f.isMost] 137))⟩ HO.out HN.out).mono ?_
  rintro e w2 ⟨rfl, e2⟩
  clear cbt_0
  go_wp2_with fail
  first | go_end0 | refine bodyPost_ret (results_none rfl _ _ _) rfl ?_
  exact ⟨rfl, R1.out.then_ e2⟩
theorem xapply0_any {W w : World} {P : Pl} {own : Own} {S : Ix} (h : IS W w P own S) {i p : Nat} (hp : P.pts[i]? = some p) {v : Value} {f : FoundR} (hk : Rep0 w own p v .gets) (hlen : S.order.length ≤ 1000000) :
    CallsV v #[.agg #[.int .i64 f.base.id, .int .i64 f.base.kind, .int .i64 f.base.treap, .int .i64 f.base.stat, .int .i64 f.base.home, .int .i64 f.cell, .int .i64 f.up, .int .i64 f.most, .bool f.isMost]] w fun e w' => e = .returned (.tuple #[]) ∧ Ends W P w own (S.gets i f) w' := by
  obtain rfl := hk
  exact callsV_of Tryz.func55 (by kernel_rfl) rfl (all := #[pt_ p, .agg #[.int .i64 f.base.id, .int .i64 f.base.kind, .int .i64 f.base.treap, .int .i64 f.base.stat, .int .i64 f.base.home, .int .i64 f.cell, .int .i64 f.up, .int .i64 f.most, .bool f.isMost]]) (by simp) (xgets_any h hp hlen)
set_option maxRecDepth 100000 in
set_option maxHeartbeats 4000000 in
theorem xlk2_any {W w : World} {P : Pl} {own : Own} {S : Ix} (h : IS W w P own S) {i p : Nat} (hp : P.pts[i]? = some p) {bt bg bh : Nat} {f : FoundR} {vg v : Value} (hbt : Bx w own bt #[pt_ p] 90) (hbg : Bx w own bg #[vg] 1) (hbh : Bx w own bh #[v] 117) (hk : Rep0 w own p v .gets) (hlen : S.order.length ≤ 1000000) (hn : f.base.kind = 3) (hc : f.cell = f.base.home) :
    Calls Tryz.prog 88 #[.agg #[.int .i64 f.base.id, .int .i64 f.base.kind, .int .i64 f.base.treap, .int .i64 f.base.stat, .int .i64 f.base.home, .int .i64 f.cell, .int .i64 f.up, .int .i64 f.most, .bool f.isMost], pt_ bt, pt_ bg, pt_ bh] w fun e w' => e = .returned (.tuple #[]) ∧ Ends W P w own (S.gets i f) w' := by
  obtain ⟨vf, vfi, vca, rfl⟩ := hk.fn
  obtain ⟨⟨fid, fk, ft, fs, fh⟩, fc, fu, fm, fi⟩ := f
  dsimp only at hn hc ⊢
  subst hn
  subst hc
  have R0 := Lib.hid (Run.begin h)
  clear h
  have HV := Lib.hid hk
  clear hk
  have HBT := Lib.hid hbt
  clear hbt
  have HBG := Lib.hid hbg
  clear hbg
  have HBH := Lib.hid hbh
  clear hbh
  have LEN := Lib.hid hlen
  clear hlen
  have R1 := Lib.hid (R0.out.box (b := w.heap.size) rfl (o := .ro) (by simp) #[.int .i64 fid, .int .i64 3, .int .i64 ft, .int .i64 fs, .int .i64 fc, .int .i64 fc, .int .i64 fu, .int .i64 fm, .bool fi] 137)
  have K1 := Lib.hid (R0.out.box_ka (b := w.heap.size) rfl (.ro) (.cells #[.int .i64 fid, .int .i64 3, .int .i64 ft, .int .i64 fs, .int .i64 fc, .int .i64 fc, .int .i64 fu, .int .i64 fm, .bool fi] 137) i)
  have qc : (fc == fc) = true := beq_self_eq_true _
  have qd : (fc != fc) = false := by rw [bne, qc]; rfl
  go_enter Tryz.func88, Tryz.ntmps88
  have cb0_0 := cell_blk (i := 0) ((R0.out.bx (b := w.heap.size) rfl #[.int .i64 fid, .int .i64 3, .int .i64 ft, .int .i64 fs, .int .i64 fc, .int .i64 fc, .int .i64 fu, .int .i64 fm, .bool fi] 137)).2 rfl
  have cb0_1 := cell_blk (i := 1) ((R0.out.bx (b := w.heap.size) rfl #[.int .i64 fid, .int .i64 3, .int .i64 ft, .int .i64 fs, .int .i64 fc, .int .i64 fc, .int .i64 fu, .int .i64 fm, .bool fi] 137)).2 rfl
  have cb0_2 := cell_blk (i := 2) ((R0.out.bx (b := w.heap.size) rfl #[.int .i64 fid, .int .i64 3, .int .i64 ft, .int .i64 fs, .int .i64 fc, .int .i64 fc, .int .i64 fu, .int .i64 fm, .bool fi] 137)).2 rfl
  have cb0_3 := cell_blk (i := 3) ((R0.out.bx (b := w.heap.size) rfl #[.int .i64 fid, .int .i64 3, .int .i64 ft, .int .i64 fs, .int .i64 fc, .int .i64 fc, .int .i64 fu, .int .i64 fm, .bool fi] 137)).2 rfl
  have cb0_4 := cell_blk (i := 4) ((R0.out.bx (b := w.heap.size) rfl #[.int .i64 fid, .int .i64 3, .int .i64 ft, .int .i64 fs, .int .i64 fc, .int .i64 fc, .int .i64 fu, .int .i64 fm, .bool fi] 137)).2 rfl
  have cb0_5 := cell_blk (i := 5) ((R0.out.bx (b := w.heap.size) rfl #[.int .i64 fid, .int .i64 3, .int .i64 ft, .int .i64 fs, .int .i64 fc, .int .i64 fc, .int .i64 fu, .int .i64 fm, .bool fi] 137)).2 rfl
  have cb0_6 := cell_blk (i := 6) ((R0.out.bx (b := w.heap.size) rfl #[.int .i64 fid, .int .i64 3, .int .i64 ft, .int .i64 fs, .int .i64 fc, .int .i64 fc, .int .i64 fu, .int .i64 fm, .bool fi] 137)).2 rfl
  have cb0_7 := cell_blk (i := 7) ((R0.out.bx (b := w.heap.size) rfl #[.int .i64 fid, .int .i64 3, .int .i64 ft, .int .i64 fs, .int .i64 fc, .int .i64 fc, .int .i64 fu, .int .i64 fm, .bool fi] 137)).2 rfl
  have cb0_8 := cell_blk (i := 8) ((R0.out.bx (b := w.heap.size) rfl #[.int .i64 fid, .int .i64 3, .int .i64 ft, .int .i64 fs, .int .i64 fc, .int .i64 fc, .int .i64 fu, .int .i64 fm, .bool fi] 137)).2 rfl
  have cbh_0 := cell_blk (i := 0) ((HBH.out).keep K1.out.k).2 rfl
  have cbt_0 := cell_blk (i := 0) ((HBT.out).keep K1.out.k).2 rfl
  have hv2 := (xapply0_any R1.out.is hp (f := ⟨⟨fid, 3, ft, fs, fc⟩, fc, fu, fm, fi⟩) ((HV.out).keep K1.out.k) LEN.out).calls
  rw [show vfi ++ #[.agg #[.int .i64 fid, .int .i64 3, .int .i64 ft, .int .i64 fs, .int .i64 fc, .int .i64 fc, .int .i64 fu, .int .i64 fm, .bool fi]] ++ vca = vfi.push (.agg #[.int .i64 fid, .int .i64 3, .int .i64 ft, .int .i64 fs, .int .i64 fc, .int .i64 fc, .int .i64 fu, .int .i64 fm, .bool fi]) ++ vca by simp] at hv2
  have HV2 := Lib.hid hv2
  clear hv2
  have kf1 := (HV.out).known.enters
  go_wp2_with fail
  refine (HV2.out).mono ?_
  rintro e w2 ⟨rfl, e2⟩
  clear kf1
  go_wp2_with fail
  first | go_end0 | refine bodyPost_ret (results_none rfl _ _ _) rfl ?_
  exact ⟨rfl, R1.out.then_ e2⟩
set_option maxRecDepth 100000 in
set_option maxHeartbeats 4000000 in
theorem xj1_any {W w : World} {P : Pl} {own : Own} {S : Ix} (h : IS W w P own S) {i p : Nat} (hp : P.pts[i]? = some p) {bb bh bt : Nat} {f : FoundR} {b : BaseR} {v : Value} {k : KU} (hbb : Bx w own bb (baseC b) 120) (hbh : Bx w own bh #[v] 1) (hbt : Bx w own bt #[pt_ p] 90) (hk : RepU w own p v k) (hu : f.up = 0) :
    Calls Tryz.prog 168 #[.agg #[.int .i64 f.base.id, .int .i64 f.base.kind, .int .i64 f.base.treap, .int .i64 f.base.stat, .int .i64 f.base.home, .int .i64 f.cell, .int .i64 f.up, .int .i64 f.most, .bool f.isMost], pt_ bb, pt_ bh, pt_ bt] w fun e w' => e = .returned (.tuple #[]) ∧ Ends W P w own (S.applyU i k) w' := by
  obtain ⟨vf, vfi, vca, rfl⟩ := hk.fn
  obtain ⟨⟨fid, fk, ft, fs, fh⟩, fc, fu, fm, fi⟩ := f
  dsimp only at hu ⊢
  subst hu
  have R0 := Lib.hid (Run.begin h)
  clear h
  have HV := Lib.hid hk
  clear hk
  have HBB := Lib.hid hbb
  clear hbb
  have HBH := Lib.hid hbh
  clear hbh
  have HBT := Lib.hid hbt
  clear hbt
  have R1 := Lib.hid (R0.out.box (b := w.heap.size) rfl (o := .ro) (by simp) #[.int .i64 fid, .int .i64 fk, .int .i64 ft, .int .i64 fs, .int .i64 fh, .int .i64 fc, .int .i64 0, .int .i64 fm, .bool fi] 137)
  have K1 := Lib.hid (R0.out.box_ka (b := w.heap.size) rfl (.ro) (.cells #[.int .i64 fid, .int .i64 fk, .int .i64 ft, .int .i64 fs, .int .i64 fh, .int .i64 fc, .int .i64 0, .int .i64 fm, .bool fi] 137) i)
  by_cases h0 : fid = b.id
  · have q0 : (fid == b.id) = true := beq_iff_eq.2 h0
    have q1 : (fid != b.id) = false := by rw [bne, q0]; rfl
    clear h0
    go_enter Tryz.func168, Tryz.ntmps168
    have cb0_0 := cell_blk (i := 0) ((R0.out.bx (b := w.heap.size) rfl #[.int .i64 fid, .int .i64 fk, .int .i64 ft, .int .i64 fs, .int .i64 fh, .int .i64 fc, .int .i64 0, .int .i64 fm, .bool fi] 137)).2 rfl
    have cb0_6 := cell_blk (i := 6) ((R0.out.bx (b := w.heap.size) rfl #[.int .i64 fid, .int .i64 fk, .int .i64 ft, .int .i64 fs, .int .i64 fh, .int .i64 fc, .int .i64 0, .int .i64 fm, .bool fi] 137)).2 rfl
    have cbh_0 := cell_blk (i := 0) ((HBH.out).keep K1.out.k).2 rfl
    have cbb_0 : (w.alloc (.cells #[.int .i64 fid, .int .i64 fk, .int .i64 ft, .int .i64 fs, .int .i64 fh, .int .i64 fc, .int .i64 0, .int .i64 fm, .bool fi] 137)).cell? ⟨bb, 0, none⟩ = some (.int .i64 b.id) := cell_blk (i := 0) ((HBB.out).keep K1.out.k).2 rfl
    have hv2 := (xapplyU_any R1.out.is hp ((HV.out).keep K1.out.k)).calls
    simp only [List.append_toArray, Array.append_assoc, Array.append_empty, Array.empty_append] at hv2
    have HV2 := Lib.hid hv2
    clear hv2
    have kf1 := (HV.out).known.enters
    go_wp2_with fail
    refine (HV2.out).mono ?_
    rintro e w2 ⟨rfl, e2⟩
    clear kf1
    go_wp2_with fail
    first | go_end0 | refine bodyPost_ret (results_none rfl _ _ _) rfl ?_
    exact ⟨rfl, R1.out.then_ e2⟩
  · have q0 : (fid == b.id) = false := beq_eq_false_iff_ne.2 h0
    have q1 : (fid != b.id) = true := by rw [bne, q0]; rfl
    clear h0
    go_enter Tryz.func168, Tryz.ntmps168
    have cb0_0 := cell_blk (i := 0) ((R0.out.bx (b := w.heap.size) rfl #[.int .i64 fid, .int .i64 fk, .int .i64 ft, .int .i64 fs, .int .i64 fh, .int .i64 fc, .int .i64 0, .int .i64 fm, .bool fi] 137)).2 rfl
    have cb0_6 := cell_blk (i := 6) ((R0.out.bx (b := w.heap.size) rfl #[.int .i64 fid, .int .i64 fk, .int .i64 ft, .int .i64 fs, .int .i64 fh, .int .i64 fc, .int .i64 0, .int .i64 fm, .bool fi] 137)).2 rfl
    have cbh_0 := cell_blk (i := 0) ((HBH.out).keep K1.out.k).2 rfl
    have cbb_0 : (w.alloc (.cells #[.int .i64 fid, .int .i64 fk, .int .i64 ft, .int .i64 fs, .int .i64 fh, .int .i64 fc, .int .i64 0, .int .i64 fm, .bool fi] 137)).cell? ⟨bb, 0, none⟩ = some (.int .i64 b.id) := cell_blk (i := 0) ((HBB.out).keep K1.out.k).2 rfl
    have hv2 := (xapplyU_any R1.out.is hp ((HV.out).keep K1.out.k)).calls
    simp only [List.append_toArray, Array.append_assoc, Array.append_empty, Array.empty_append] at hv2
    have HV2 := Lib.hid hv2
    clear hv2
    have kf1 := (HV.out).known.enters
    go_wp2_with fail
    refine (HV2.out).mono ?_
    rintro e w2 ⟨rfl, e2⟩
    clear kf1
    go_wp2_with fail
    first | go_end0 | refine bodyPost_ret (results_none rfl _ _ _) rfl ?_
    exact ⟨rfl, R1.out.then_ e2⟩
/-- What a found base must be for a thread to go on with it here. -/
def OKF (S : Ix) (i : Nat) (f : FoundR) : KF → Prop
  | .upd => f.base.kind = 3 ∧ ((S.th i).op.kind = 1 ∨ (S.th i).op.kind = 2 ∨ (S.th i).op.kind = 3)
  | .looks _ k => f.base.kind = 3 ∧ f.cell = f.base.home ∧ k = .gets ∧ S.order.length ≤ 1000000
  | .joins _ _ => f.up = 0
  | .leaf _ _ _ => False
theorem xapplyF_any {W w : World} {P : Pl} {own : Own} {S : Ix} (h : IS W w P own S) {i p : Nat} (hp : P.pts[i]? = some p) {v : Value} {k : KF} {f : FoundR} (hk : RepF w own p v k) (ho : OKF S i f k) :
    CallsV v #[.agg #[.int .i64 f.base.id, .int .i64 f.base.kind, .int .i64 f.base.treap, .int .i64 f.base.stat, .int .i64 f.base.home, .int .i64 f.cell, .int .i64 f.up, .int .i64 f.most, .bool f.isMost]] w fun e w' => e = .returned (.tuple #[]) ∧ Ends W P w own (S.applyF i f k) w' := by
  cases k with
  | upd => obtain ⟨bt, rfl, h1⟩ := hk; exact callsV_of Tryz.func74 (by kernel_rfl) rfl (all := #[.agg #[.int .i64 f.base.id, .int .i64 f.base.kind, .int .i64 f.base.treap, .int .i64 f.base.stat, .int .i64 f.base.home, .int .i64 f.cell, .int .i64 f.up, .int .i64 f.most, .bool f.isMost], pt_ bt]) (by simp) (xup1_any h hp h1 ho.2 ho.1)
  | looks key k => obtain ⟨bt, bg, bh, vg, vh, rfl, h1, h2, h3, h4, h5⟩ := hk; obtain ⟨o1, o2, rfl, o4⟩ := ho; exact callsV_of Tryz.func88 (by kernel_rfl) rfl (all := #[.agg #[.int .i64 f.base.id, .int .i64 f.base.kind, .int .i64 f.base.treap, .int .i64 f.base.stat, .int .i64 f.base.home, .int .i64 f.cell, .int .i64 f.up, .int .i64 f.most, .bool f.isMost], pt_ bt, pt_ bg, pt_ bh]) (by simp) (xlk2_any h hp h1 h2 h3 h5 o4 o1 o2)
  | joins b k => obtain ⟨bb, bh, bt, vh, rfl, h1, h2, h3, h4⟩ := hk; exact callsV_of Tryz.func168 (by kernel_rfl) rfl (all := #[.agg #[.int .i64 f.base.id, .int .i64 f.base.kind, .int .i64 f.base.treap, .int .i64 f.base.stat, .int .i64 f.base.home, .int .i64 f.cell, .int .i64 f.up, .int .i64 f.most, .bool f.isMost], pt_ bb, pt_ bh, pt_ bt]) (by simp) (xj1_any h hp h1 h2 h3 h4 ho)
  | leaf _ _ _ => exact hk.elim
end Go.Proofs.YtghjnkfocjjlnaaGreat
end
