/- A load, a swap are made, and the thread goes on. -/
import Derived.Test.YtghjnkfocjjlnaaGreatT00
import Derived.Test.YtghjnkfocjjlnaaGreatT19
set_option linter.unusedSimpArgs false
set_option linter.unusedVariables false
namespace Go.Proofs.YtghjnkfocjjlnaaGreat
set_option maxRecDepth 100000
open Go.RowKit Go.Proofs.YtghjnkfocjjlnaaGreatW.PrintWords Go.Proofs.YtghjnkfocjjlnaaGreatW.PrintLast
set_option linter.unusedVariables false
set_option linter.unusedSimpArgs false
theorem setM_keep {w : World} {own : Own} {i b : Nat} (hb : own b = some (.mu i)) (k : Nat) (v : Value) : Keeps (i + 1) w own (w.setCell ⟨b, k, none⟩ v) own := fun x hx =>
  ⟨rfl, setCell_other v (by rintro rfl; rw [hb] at hx; simp at hx)⟩
def set5 (w : World) (b : Nat) (v0 v1 v2 v3 v4 : Value) : World := ((((w.setCell ⟨b, 0, none⟩ v0).setCell ⟨b, 1, none⟩ v1).setCell ⟨b, 2, none⟩ v2).setCell ⟨b, 3, none⟩ v3).setCell ⟨b, 4, none⟩ v4
theorem Run.set5 {W w0 w : World} {P : Pl} {own0 own : Own} {S : Ix} (h : Run W P w0 own0 S w own) {i b : Nat} (hn : (S.th i).next = none) (hb : own b = some (.mu i)) (v0 v1 v2 v3 v4 : Value) : Run W P w0 own0 S (set5 w b v0 v1 v2 v3 v4) own :=
  ((((h.setM hn hb 0 v0).setM hn hb 1 v1).setM hn hb 2 v2).setM hn hb 3 v3).setM hn hb 4 v4
theorem set5_keep {w : World} {own : Own} {i b : Nat} (hb : own b = some (.mu i)) (v0 v1 v2 v3 v4 : Value) : Keeps (i + 1) w own (set5 w b v0 v1 v2 v3 v4) own :=
  ((((setM_keep hb 0 v0).trans (setM_keep hb 1 v1)).trans (setM_keep hb 2 v2)).trans (setM_keep hb 3 v3)).trans (setM_keep hb 4 v4)
theorem RepF.keep_any {i : Nat} {w w' : World} {own own' : Own} {pt : Nat} {v : Value} {k : KF} (h : RepF w own pt v k) (hk : Keeps i w own w' own') : RepF w' own' pt v k := h.keep hk
set_option maxRecDepth 100000 in
set_option maxHeartbeats 4000000 in
theorem xdn1_any {W w : World} {P : Pl} {own : Own} {S : Ix} (h : IS W w P own S) {i p : Nat} (hp : P.pts[i]? = some p) {bt bf bh bk : Nat} {v : Int} {f : FoundR} {key : Int} {k : KF} {vh : Value} (hbt : Bx w own bt #[pt_ p] 90) (hbf : Mx w own i bf (foundC f) 137) (hbh : Bx w own bh #[vh] 117) (hbk : Bx w own bk #[.int .i64 key] 3) (hk : RepF w own p vh k) (hn : (S.th i).next = none) (hv : kindO (some S.a) v ≠ 2) (ho : OKF S i { f with base := S.base v } k) :
    Calls Tryz.prog 151 #[.int .i64 v, pt_ bt, pt_ bf, pt_ bh, pt_ bk] w fun e w' => e = .returned (.tuple #[]) ∧ Ends W P w own (S.applyF i { f with base := S.base v } k) w' := by
  obtain ⟨vf, vfi, vca, rfl⟩ := hk.fn
  obtain ⟨⟨fid, fk, ft, fs, fh⟩, fc, fu, fm, fi⟩ := f
  have R0 := Lib.hid (Run.begin h)
  clear h
  have HV := Lib.hid hk
  clear hk
  have HBT := Lib.hid hbt
  clear hbt
  have HBF := Lib.hid hbf
  clear hbf
  have HBH := Lib.hid hbh
  clear hbh
  have HBK := Lib.hid hbk
  clear hbk
  have HO := Lib.hid ho
  clear ho
  have HN := Lib.hid hn
  clear hn
  have q0 : (kindO (some S.a) v == 2) = false := beq_eq_false_iff_ne.2 hv
  have q1 : (kindO (some S.a) v != 2) = true := by rw [bne, q0]; rfl
  clear hv
  go_enter Tryz.func151, Tryz.ntmps151
  have cbt_0 := cell_blk (i := 0) (HBT.out).2 rfl
  have ct0 := R0.out.is.thx hp
  have cx0 := R0.out.is.xa
  go_wp2_with fail
  refine (kind_any R0.out.is.arena v).mono ?_
  rintro e w' ⟨rfl, rfl⟩
  go_wp2_with fail
  refine (xbase_any R0.out.is v).mono ?_
  rintro e w1 ⟨rfl, b1⟩
  clear cbt_0 ct0 cx0
  have R1 := Lib.hid (R0.out.later b1)
  have K1 := Lib.hid (R0.out.below_ka b1 i)
  clear b1
  have cbf_0 : w1.cell? ⟨bf, 0, none⟩ = some (.int .i64 fid) := cell_blk (i := 0) ((HBF.out).keep K1.out.k).2 rfl
  have cbf_1 : w1.cell? ⟨bf, 1, none⟩ = some (.int .i64 fk) := cell_blk (i := 1) ((HBF.out).keep K1.out.k).2 rfl
  have cbf_2 : w1.cell? ⟨bf, 2, none⟩ = some (.int .i64 ft) := cell_blk (i := 2) ((HBF.out).keep K1.out.k).2 rfl
  have cbf_3 : w1.cell? ⟨bf, 3, none⟩ = some (.int .i64 fs) := cell_blk (i := 3) ((HBF.out).keep K1.out.k).2 rfl
  have cbf_4 : w1.cell? ⟨bf, 4, none⟩ = some (.int .i64 fh) := cell_blk (i := 4) ((HBF.out).keep K1.out.k).2 rfl
  have cbf_5 : w1.cell? ⟨bf, 5, none⟩ = some (.int .i64 fc) := cell_blk (i := 5) ((HBF.out).keep K1.out.k).2 rfl
  have cbf_6 : w1.cell? ⟨bf, 6, none⟩ = some (.int .i64 fu) := cell_blk (i := 6) ((HBF.out).keep K1.out.k).2 rfl
  have cbf_7 : w1.cell? ⟨bf, 7, none⟩ = some (.int .i64 fm) := cell_blk (i := 7) ((HBF.out).keep K1.out.k).2 rfl
  have cbf_8 : w1.cell? ⟨bf, 8, none⟩ = some (.bool fi) := cell_blk (i := 8) ((HBF.out).keep K1.out.k).2 rfl
  have fbf_0 := free_blk (i := 0) ((HBF.out).keep K1.out.k).2
  have fbf_1 := free_blk (i := 1) ((HBF.out).keep K1.out.k).2
  have fbf_2 := free_blk (i := 2) ((HBF.out).keep K1.out.k).2
  have fbf_3 := free_blk (i := 3) ((HBF.out).keep K1.out.k).2
  have fbf_4 := free_blk (i := 4) ((HBF.out).keep K1.out.k).2
  have cbh_0 : w1.cell? ⟨bh, 0, none⟩ = some (.func (.func vf) vfi vca) := cell_blk (i := 0) ((HBH.out).keep K1.out.k).2 rfl
  have hlf := (Array.getElem?_eq_some_iff.1 ((HBF.out).keep K1.out.k).2).1
  have hne1 : ¬ (bh = bf) := by rintro rfl; have h1 := ((HBH.out).keep K1.out.k).1; have h2 := ((HBF.out).keep K1.out.k).1; rw [h1] at h2; cases h2
  have hne2 : ¬ (bf = bh) := fun e => hne1 e.symm
  have R2 := Lib.hid (R1.out.set5 HN.out ((HBF.out).keep K1.out.k).1 (.int .i64 (S.base v).id) (.int .i64 (S.base v).kind) (.int .i64 (S.base v).treap) (.int .i64 (S.base v).stat) (.int .i64 (S.base v).home))
  have HV5 := Lib.hid (((HV.out).keep K1.out.k).keep_any (set5_keep ((HBF.out).keep K1.out.k).1 (.int .i64 (S.base v).id) (.int .i64 (S.base v).kind) (.int .i64 (S.base v).treap) (.int .i64 (S.base v).stat) (.int .i64 (S.base v).home)))
  have hv3 := (xapplyF_any R2.out.is hp (f := ⟨S.base v, fc, fu, fm, fi⟩) HV5.out HO.out).calls
  rw [show vfi ++ #[.agg #[.int .i64 (S.base v).id, .int .i64 (S.base v).kind, .int .i64 (S.base v).treap, .int .i64 (S.base v).stat, .int .i64 (S.base v).home, .int .i64 fc, .int .i64 fu, .int .i64 fm, .bool fi]] ++ vca = vfi.push (.agg #[.int .i64 (S.base v).id, .int .i64 (S.base v).kind, .int .i64 (S.base v).treap, .int .i64 (S.base v).stat, .int .i64 (S.base v).home, .int .i64 fc, .int .i64 fu, .int .i64 fm, .bool fi]) ++ vca by simp] at hv3
  have HV3 := Lib.hid hv3
  clear hv3
  have kf1 := (HV.out).known.enters
  go_wp2_with fail
  refine (HV3.out).mono ?_
  rintro e w3 ⟨rfl, e3⟩
  clear kf1
  go_wp2_with fail
  first | go_end0 | refine bodyPost_ret (results_none rfl _ _ _) rfl ?_
  exact ⟨rfl, R2.out.then_ e3⟩
/-- What a thread must have come to for its load to go on here. -/
def OKI (S : Ix) (i : Nat) (v : Int) : KI → Prop
  | .down f _ k => kindO (some S.a) v ≠ 2 ∧ OKF S i { f with base := S.base v } k
  | _ => False
theorem xapplyI_any {W w : World} {P : Pl} {own : Own} {S : Ix} (h : IS W w P own S) {i p : Nat} (hp : P.pts[i]? = some p) {v : Value} {x : Int} {k : KI} (hk : RepI w own i p v k) (hn : (S.th i).next = none) (ho : OKI S i x k) :
    CallsV v #[.int .i64 x] w fun e w' => e = .returned (.tuple #[]) ∧ Ends W P w own (S.applyI i x k) w' := by
  cases k with
  | down f key k => obtain ⟨bt, bf, bh, bk, vh, rfl, h1, h2, h3, h4, h5⟩ := hk; exact callsV_of Tryz.func151 (by kernel_rfl) rfl (all := #[.int .i64 x, pt_ bt, pt_ bf, pt_ bh, pt_ bk]) (by simp) (xdn1_any h hp h1 h2 h3 h4 h5 hn ho.1 ho.2)
  | _ => exact hk.elim
def OKW (S : Ix) (i : Nat) (ok : Bool) : KW → Prop
  | .upd id _ => ok = true → S.order.length ≤ 1000000 ∧ (halfO (some S.a) (S.base id).treap).2.2.2.1 ≠ 0
  | _ => False
theorem xapplyW_any {W w : World} {P : Pl} {own : Own} {S : Ix} (h : IS W w P own S) {i p : Nat} (hp : P.pts[i]? = some p) {v : Value} {ok : Bool} {k : KW} (hk : RepW w own i p v k) (ho : OKW S i ok k) :
    CallsV v #[.bool ok] w fun e w' => e = .returned (.tuple #[]) ∧ Ends W P w own (S.applyW i ok k) w' := by
  cases k with
  | upd id a =>
    obtain ⟨bt, bi, ba, pv, rfl, h1, h2, h3, h4⟩ := hk
    cases ok with
    | false => exact callsV_of Tryz.func81 (by kernel_rfl) rfl (all := #[.bool false, pt_ bt, pt_ bi, pt_ ba]) (by simp) (xup3_no h hp h1 h2 h3 h4)
    | true => exact callsV_of Tryz.func81 (by kernel_rfl) rfl (all := #[.bool true, pt_ bt, pt_ bi, pt_ ba]) (by simp) (xup3_yes h hp h1 h2 h3 h4 (ho rfl).1 (ho rfl).2)
  | _ => exact hk.elim
set_option maxRecDepth 100000 in
set_option maxHeartbeats 4000000 in
theorem xload1_any {W w : World} {P : Pl} {own : Own} {S : Ix} (h : IS W w P own S) {i p : Nat} (hp : P.pts[i]? = some p) {bh bt bc : Nat} {c : Int} {k : KI} {vh : Value} (hbh : Bx w own bh #[vh] 143) (hbt : Bx w own bt #[pt_ p] 90) (hbc : Bx w own bc #[.int .i64 c] 3) (hk : RepI w own i p vh k) (hn : (S.th i).next = none) (ho : OKI (S.ofA (loadO (some S.a) c).2) i (loadO (some S.a) c).1 k) :
    Calls Tryz.prog 152 #[pt_ bh, pt_ bt, pt_ bc] w fun e w' => e = .returned (.tuple #[]) ∧ Ends W P w own ((S.ofA (loadO (some S.a) c).2).applyI i (loadO (some S.a) c).1 k) w' := by
  have R0 := Lib.hid (Run.begin h)
  clear h
  have HV := Lib.hid hk
  clear hk
  have HO := Lib.hid ho
  clear ho
  have HBH := Lib.hid hbh
  clear hbh
  have HBT := Lib.hid hbt
  clear hbt
  have HBC := Lib.hid hbc
  clear hbc
  obtain ⟨AC, hAC⟩ : ∃ x, x = loadO (some S.a) c := ⟨_, rfl⟩
  rw [← hAC]
  have HAC := Lib.hid hAC
  clear hAC
  go_enter Tryz.func152, Tryz.ntmps152
  go_wp2_with fail
  have R1 := Lib.hid R0.out.drew
  have K1 := Lib.hid (R0.out.drew_ka i)
  have cc := load_any R1.out.is.arena c
  rw [← HAC.out] at cc
  have CC := Lib.hid cc
  clear cc
  refine start_ (n := 11) (S := fun w' => w'.cell? ⟨bh, 0, none⟩ = some (vh) ∧ w'.cell? ⟨bt, 0, none⟩ = some (pt_ p) ∧ w'.cell? ⟨bc, 0, none⟩ = some (.int .i64 c) ∧ w'.cell? ⟨p, 0, none⟩ = some (pt_ P.px) ∧ w'.cell? ⟨P.px, 0, none⟩ = some (pt_ P.pa)) (ds := [10]) (bz 11 0).toArray (by kernel_rfl) rfl rfl ⟨(cell_blk (i := 0) ((HBH.out).keep K1.out.k).2 rfl), (cell_blk (i := 0) ((HBT.out).keep K1.out.k).2 rfl), (cell_blk (i := 0) ((HBC.out).keep K1.out.k).2 rfl), (R1.out.is.thx hp), (R1.out.is.xa)⟩ (fun hHeld => ?_)
  refine take_ (i := 0) (N := some 3) (v := ?_) (a' := ?_) (bz 11 1).toArray rfl rfl (by kernel_rfl) (fun _ _ _ h => h) (Or.inl ⟨by rfl, ?_⟩) hHeld ?_ ?_
  rotate_left
  · rintro w' ⟨s0, s1, s2, s3, s4⟩
    go_simp
    with_reducible rfl
  rotate_left
  · simp only [Act.put, sqA, sqZ, sqS, i64_w, i32_w]
    rfl
  refine take_ (i := 1) (N := some 4) (v := ?_) (a' := ?_) (bz 11 3).toArray rfl rfl (by kernel_rfl) (fun _ _ _ h => h) (Or.inl ⟨by rfl, ?_⟩) hHeld ?_ ?_
  rotate_left
  · rintro w' ⟨s0, s1, s2, s3, s4⟩
    go_simp
    with_reducible rfl
  rotate_left
  · simp only [Act.put, sqA, sqZ, sqS, i64_w, i32_w]
    rfl
  refine pure_ (i := 2) (N := some 5) (v := ?_) (a' := ?_) (bz 11 7).toArray rfl rfl (by kernel_rfl) (fun _ _ _ h => h) (Or.inl ⟨by rfl, ?_⟩) ?_ ?_
  rotate_left
  · intro w'
    go_simp
    with_reducible rfl
  rotate_left
  · simp only [Act.put, sqA, sqZ, sqS, i64_w, i32_w]
    rfl
  refine pure_ (i := 3) (N := some 6) (v := ?_) (a' := ?_) (bz 11 15).toArray rfl rfl (by kernel_rfl) (fun _ _ _ h => h) (Or.inl ⟨by rfl, ?_⟩) ?_ ?_
  rotate_left
  · intro w'
    go_simp
    with_reducible rfl
  rotate_left
  · simp only [Act.put, sqA, sqZ, sqS, i64_w, i32_w]
    rfl
  refine take_ (i := 4) (N := some 7) (v := ?_) (a' := ?_) (bz 11 31).toArray rfl rfl (by kernel_rfl) (fun _ _ _ h => h) (Or.inl ⟨by rfl, ?_⟩) hHeld ?_ ?_
  rotate_left
  · rintro w' ⟨s0, s1, s2, s3, s4⟩
    go_simp
    with_reducible rfl
  rotate_left
  · simp only [Act.put, sqA, sqZ, sqS, i64_w, i32_w]
    rfl
  refine pure_ (i := 5) (N := some 8) (v := ?_) (a' := ?_) (bz 11 63).toArray rfl rfl (by kernel_rfl) (fun _ _ _ h => h) (Or.inl ⟨by rfl, ?_⟩) ?_ ?_
  rotate_left
  · intro w'
    go_simp
    with_reducible rfl
  rotate_left
  · simp only [Act.put, sqA, sqZ, sqS, i64_w, i32_w]
    rfl
  refine pure_ (i := 6) (N := some 9) (v := ?_) (a' := ?_) (bz 11 127).toArray rfl rfl (by kernel_rfl) (fun _ _ _ h => h) (Or.inl ⟨by rfl, ?_⟩) ?_ ?_
  rotate_left
  · intro w'
    go_simp
    with_reducible rfl
  rotate_left
  · simp only [Act.put, sqA, sqZ, sqS, i64_w, i32_w]
    rfl
  refine take_ (i := 7) (N := some 10) (v := ?_) (a' := ?_) (bz 11 255).toArray rfl rfl (by kernel_rfl) (fun _ _ _ h => h) (Or.inl ⟨by rfl, ?_⟩) hHeld ?_ ?_
  rotate_left
  · rintro w' ⟨s0, s1, s2, s3, s4⟩
    go_simp
    with_reducible rfl
  rotate_left
  · simp only [Act.put, sqA, sqZ, sqS, i64_w, i32_w]
    rfl
  refine take_ (i := 8) (N := some 11) (v := ?_) (a' := ?_) (bz 11 511).toArray rfl rfl (by kernel_rfl) (fun _ _ _ h => h) (Or.inl ⟨by rfl, ?_⟩) hHeld ?_ ?_
  rotate_left
  · rintro w' ⟨s0, s1, s2, s3, s4⟩
    go_simp
    with_reducible rfl
  rotate_left
  · simp only [Act.put, sqA, sqZ, sqS, i64_w, i32_w]
    rfl
  refine one_ (i := 9) (N := some 12) (bz 11 1023).toArray rfl rfl (by kernel_rfl) (by decide) (fun K hK => ?_)
  refine goes_ Tryz.func58 (by kernel_rfl) rfl #[pt_ P.pa, .int .i64 c] (by rfl) rfl rfl (by simp only [List.map_toArray, List.map_cons, List.map_nil]; rfl) ?_
  with_reducible refine (CC.out).mono ?_
  rintro e w2 ⟨rfl, x2⟩
  have m2 := x2
  clear x2
  obtain ⟨o2, r2, k2⟩ := R1.out.madeO m2 i
  have R2 := Lib.hid r2
  have K2 := Lib.hid k2
  clear m2 r2 k2
  refine ⟨_, rfl, ?_⟩
  have ho := HO.out
  rw [← HAC.out] at ho
  have HO2 := Lib.hid ho
  clear ho
  have CV := Lib.hid (xapplyI_any R2.out.is hp (x := AC.1) (((HV.out).keep K1.out.k).keep K2.out.k) hn HO2.out)
  refine hK.out _ _ ⟨(cell_blk (i := 0) (((HBH.out).keep K1.out.k).keep K2.out.k).2 rfl), (cell_blk (i := 0) (((HBT.out).keep K1.out.k).keep K2.out.k).2 rfl), (cell_blk (i := 0) (((HBC.out).keep K1.out.k).keep K2.out.k).2 rfl), (R2.out.is.thx hp), (R2.out.is.xa)⟩ (fun hHeld => ?_)
  clear hK K
  refine norm_ (a' := ?_) ?_ ?_
  rotate_left
  · show Act.put _ (some 12) _ = _
    simp only [Act.put, sqA, sqZ, sqS, i64_w, i32_w]
    rfl
  refine last_ (i := 10) (N := some 13) (bz 11 2047).toArray rfl rfl (by kernel_rfl) (by decide) (fun K hK => ?_)
  refine step_v (by rfl) rfl (.tmp 3) vh #[.int .i64 AC.1] rfl rfl (by simp only [List.map_toArray, List.map_cons, List.map_nil]; rfl) ((CV.out).mono ?_)
  rintro e w3 ⟨rfl, e3⟩
  refine ⟨_, rfl, ?_⟩
  refine hK.out _ _ ?_
  clear hK K
  refine norm_ (a' := ?_) ?_ ?_
  rotate_left
  · show Act.put _ (some 13) _ = _
    simp only [Act.put, sqA, sqZ, sqS, i64_w, i32_w]
    rfl
  refine done_ (by kernel_rfl) ?_
  go_wp2_with fail
  first | go_end0 | refine bodyPost_ret (results_none rfl _ _ _) rfl ?_
  exact ⟨rfl, R2.out.then_ e3⟩
set_option maxRecDepth 100000 in
set_option maxHeartbeats 4000000 in
theorem xswap1_any {W w : World} {P : Pl} {own : Own} {S : Ix} (h : IS W w P own S) {i p : Nat} (hp : P.pts[i]? = some p) {bh bt bc bo bn : Nat} {c o n : Int} {k : KW} {vh : Value} (hbh : Bx w own bh #[vh] 146) (hbt : Bx w own bt #[pt_ p] 90) (hbc : Bx w own bc #[.int .i64 c] 3) (hbo : Bx w own bo #[.int .i64 o] 3) (hbn : Bx w own bn #[.int .i64 n] 3) (hk : RepW w own i p vh k) (ho : OKW (S.ofA (swapO (some S.a) c o n).2) i (swapO (some S.a) c o n).1 k) :
    Calls Tryz.prog 131 #[pt_ bh, pt_ bt, pt_ bc, pt_ bo, pt_ bn] w fun e w' => e = .returned (.tuple #[]) ∧ Ends W P w own ((S.ofA (swapO (some S.a) c o n).2).applyW i (swapO (some S.a) c o n).1 k) w' := by
  have R0 := Lib.hid (Run.begin h)
  clear h
  have HV := Lib.hid hk
  clear hk
  have HO := Lib.hid ho
  clear ho
  have HBH := Lib.hid hbh
  clear hbh
  have HBT := Lib.hid hbt
  clear hbt
  have HBC := Lib.hid hbc
  clear hbc
  have HBO := Lib.hid hbo
  clear hbo
  have HBN := Lib.hid hbn
  clear hbn
  obtain ⟨AC, hAC⟩ : ∃ x, x = swapO (some S.a) c o n := ⟨_, rfl⟩
  rw [← hAC]
  have HAC := Lib.hid hAC
  clear hAC
  go_enter Tryz.func131, Tryz.ntmps131
  go_wp2_with fail
  have R1 := Lib.hid R0.out.drew
  have K1 := Lib.hid (R0.out.drew_ka i)
  have cc := swap_any R1.out.is.arena c o n
  rw [← HAC.out] at cc
  have CC := Lib.hid cc
  clear cc
  refine start_ (n := 13) (S := fun w' => w'.cell? ⟨bh, 0, none⟩ = some (vh) ∧ w'.cell? ⟨bt, 0, none⟩ = some (pt_ p) ∧ w'.cell? ⟨bc, 0, none⟩ = some (.int .i64 c) ∧ w'.cell? ⟨bo, 0, none⟩ = some (.int .i64 o) ∧ w'.cell? ⟨bn, 0, none⟩ = some (.int .i64 n) ∧ w'.cell? ⟨p, 0, none⟩ = some (pt_ P.px) ∧ w'.cell? ⟨P.px, 0, none⟩ = some (pt_ P.pa)) (ds := [12]) (bz 13 0).toArray (by kernel_rfl) rfl rfl ⟨(cell_blk (i := 0) ((HBH.out).keep K1.out.k).2 rfl), (cell_blk (i := 0) ((HBT.out).keep K1.out.k).2 rfl), (cell_blk (i := 0) ((HBC.out).keep K1.out.k).2 rfl), (cell_blk (i := 0) ((HBO.out).keep K1.out.k).2 rfl), (cell_blk (i := 0) ((HBN.out).keep K1.out.k).2 rfl), (R1.out.is.thx hp), (R1.out.is.xa)⟩ (fun hHeld => ?_)
  refine take_ (i := 0) (N := some 5) (v := ?_) (a' := ?_) (bz 13 1).toArray rfl rfl (by kernel_rfl) (fun _ _ _ h => h) (Or.inl ⟨by rfl, ?_⟩) hHeld ?_ ?_
  rotate_left
  · rintro w' ⟨s0, s1, s2, s3, s4, s5, s6⟩
    go_simp
    with_reducible rfl
  rotate_left
  · simp only [Act.put, sqA, sqZ, sqS, i64_w, i32_w]
    rfl
  refine take_ (i := 1) (N := some 6) (v := ?_) (a' := ?_) (bz 13 3).toArray rfl rfl (by kernel_rfl) (fun _ _ _ h => h) (Or.inl ⟨by rfl, ?_⟩) hHeld ?_ ?_
  rotate_left
  · rintro w' ⟨s0, s1, s2, s3, s4, s5, s6⟩
    go_simp
    with_reducible rfl
  rotate_left
  · simp only [Act.put, sqA, sqZ, sqS, i64_w, i32_w]
    rfl
  refine pure_ (i := 2) (N := some 7) (v := ?_) (a' := ?_) (bz 13 7).toArray rfl rfl (by kernel_rfl) (fun _ _ _ h => h) (Or.inl ⟨by rfl, ?_⟩) ?_ ?_
  rotate_left
  · intro w'
    go_simp
    with_reducible rfl
  rotate_left
  · simp only [Act.put, sqA, sqZ, sqS, i64_w, i32_w]
    rfl
  refine pure_ (i := 3) (N := some 8) (v := ?_) (a' := ?_) (bz 13 15).toArray rfl rfl (by kernel_rfl) (fun _ _ _ h => h) (Or.inl ⟨by rfl, ?_⟩) ?_ ?_
  rotate_left
  · intro w'
    go_simp
    with_reducible rfl
  rotate_left
  · simp only [Act.put, sqA, sqZ, sqS, i64_w, i32_w]
    rfl
  refine take_ (i := 4) (N := some 9) (v := ?_) (a' := ?_) (bz 13 31).toArray rfl rfl (by kernel_rfl) (fun _ _ _ h => h) (Or.inl ⟨by rfl, ?_⟩) hHeld ?_ ?_
  rotate_left
  · rintro w' ⟨s0, s1, s2, s3, s4, s5, s6⟩
    go_simp
    with_reducible rfl
  rotate_left
  · simp only [Act.put, sqA, sqZ, sqS, i64_w, i32_w]
    rfl
  refine pure_ (i := 5) (N := some 10) (v := ?_) (a' := ?_) (bz 13 63).toArray rfl rfl (by kernel_rfl) (fun _ _ _ h => h) (Or.inl ⟨by rfl, ?_⟩) ?_ ?_
  rotate_left
  · intro w'
    go_simp
    with_reducible rfl
  rotate_left
  · simp only [Act.put, sqA, sqZ, sqS, i64_w, i32_w]
    rfl
  refine pure_ (i := 6) (N := some 11) (v := ?_) (a' := ?_) (bz 13 127).toArray rfl rfl (by kernel_rfl) (fun _ _ _ h => h) (Or.inl ⟨by rfl, ?_⟩) ?_ ?_
  rotate_left
  · intro w'
    go_simp
    with_reducible rfl
  rotate_left
  · simp only [Act.put, sqA, sqZ, sqS, i64_w, i32_w]
    rfl
  refine take_ (i := 7) (N := some 12) (v := ?_) (a' := ?_) (bz 13 255).toArray rfl rfl (by kernel_rfl) (fun _ _ _ h => h) (Or.inl ⟨by rfl, ?_⟩) hHeld ?_ ?_
  rotate_left
  · rintro w' ⟨s0, s1, s2, s3, s4, s5, s6⟩
    go_simp
    with_reducible rfl
  rotate_left
  · simp only [Act.put, sqA, sqZ, sqS, i64_w, i32_w]
    rfl
  refine take_ (i := 8) (N := some 13) (v := ?_) (a' := ?_) (bz 13 511).toArray rfl rfl (by kernel_rfl) (fun _ _ _ h => h) (Or.inl ⟨by rfl, ?_⟩) hHeld ?_ ?_
  rotate_left
  · rintro w' ⟨s0, s1, s2, s3, s4, s5, s6⟩
    go_simp
    with_reducible rfl
  rotate_left
  · simp only [Act.put, sqA, sqZ, sqS, i64_w, i32_w]
    rfl
  refine take_ (i := 9) (N := some 14) (v := ?_) (a' := ?_) (bz 13 1023).toArray rfl rfl (by kernel_rfl) (fun _ _ _ h => h) (Or.inl ⟨by rfl, ?_⟩) hHeld ?_ ?_
  rotate_left
  · rintro w' ⟨s0, s1, s2, s3, s4, s5, s6⟩
    go_simp
    with_reducible rfl
  rotate_left
  · simp only [Act.put, sqA, sqZ, sqS, i64_w, i32_w]
    rfl
  refine take_ (i := 10) (N := some 15) (v := ?_) (a' := ?_) (bz 13 2047).toArray rfl rfl (by kernel_rfl) (fun _ _ _ h => h) (Or.inl ⟨by rfl, ?_⟩) hHeld ?_ ?_
  rotate_left
  · rintro w' ⟨s0, s1, s2, s3, s4, s5, s6⟩
    go_simp
    with_reducible rfl
  rotate_left
  · simp only [Act.put, sqA, sqZ, sqS, i64_w, i32_w]
    rfl
  refine one_ (i := 11) (N := some 16) (bz 13 4095).toArray rfl rfl (by kernel_rfl) (by decide) (fun K hK => ?_)
  refine goes_ Tryz.func132 (by kernel_rfl) rfl #[pt_ P.pa, .int .i64 c, .int .i64 o, .int .i64 n] (by rfl) rfl rfl (by simp only [List.map_toArray, List.map_cons, List.map_nil]; rfl) ?_
  with_reducible refine (CC.out).mono ?_
  rintro e w2 ⟨rfl, x2⟩
  have m2 := x2
  clear x2
  obtain ⟨o2, r2, k2⟩ := R1.out.madeO m2 i
  have R2 := Lib.hid r2
  have K2 := Lib.hid k2
  clear m2 r2 k2
  refine ⟨_, rfl, ?_⟩
  have ho := HO.out
  rw [← HAC.out] at ho
  have HO2 := Lib.hid ho
  clear ho
  have CV := Lib.hid (xapplyW_any R2.out.is hp (ok := AC.1) (((HV.out).keep K1.out.k).keep K2.out.k) HO2.out)
  refine hK.out _ _ ⟨(cell_blk (i := 0) (((HBH.out).keep K1.out.k).keep K2.out.k).2 rfl), (cell_blk (i := 0) (((HBT.out).keep K1.out.k).keep K2.out.k).2 rfl), (cell_blk (i := 0) (((HBC.out).keep K1.out.k).keep K2.out.k).2 rfl), (cell_blk (i := 0) (((HBO.out).keep K1.out.k).keep K2.out.k).2 rfl), (cell_blk (i := 0) (((HBN.out).keep K1.out.k).keep K2.out.k).2 rfl), (R2.out.is.thx hp), (R2.out.is.xa)⟩ (fun hHeld => ?_)
  clear hK K
  refine norm_ (a' := ?_) ?_ ?_
  rotate_left
  · show Act.put _ (some 16) _ = _
    simp only [Act.put, sqA, sqZ, sqS, i64_w, i32_w]
    rfl
  refine last_ (i := 12) (N := some 17) (bz 13 8191).toArray rfl rfl (by kernel_rfl) (by decide) (fun K hK => ?_)
  refine step_v (by rfl) rfl (.tmp 5) vh #[.bool AC.1] rfl rfl (by simp only [List.map_toArray, List.map_cons, List.map_nil]; rfl) ((CV.out).mono ?_)
  rintro e w3 ⟨rfl, e3⟩
  refine ⟨_, rfl, ?_⟩
  refine hK.out _ _ ?_
  clear hK K
  refine norm_ (a' := ?_) ?_ ?_
  rotate_left
  · show Act.put _ (some 17) _ = _
    simp only [Act.put, sqA, sqZ, sqS, i64_w, i32_w]
    rfl
  refine done_ (by kernel_rfl) ?_
  go_wp2_with fail
  first | go_end0 | refine bodyPost_ret (results_none rfl _ _ _) rfl ?_
  exact ⟨rfl, R2.out.then_ e3⟩
end Go.Proofs.YtghjnkfocjjlnaaGreat
