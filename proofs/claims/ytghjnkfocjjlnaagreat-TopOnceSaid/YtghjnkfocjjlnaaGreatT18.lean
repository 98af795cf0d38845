/- Function values whose function is a known one. -/
/- What a thread goes on with: func(). -/
import Derived.Test.YtghjnkfocjjlnaaGreatT10
import Derived.Test.YtghjnkfocjjlnaaGreatT00
import Derived.Test.YtghjnkfocjjlnaaGreatT17
set_option linter.unusedSimpArgs false
set_option linter.unusedVariables false
section
namespace Go.Proofs.YtghjnkfocjjlnaaGreat
set_option maxRecDepth 100000
open Go.RowKit
set_option linter.unusedVariables false
set_option linter.unusedSimpArgs false
theorem CallsV.calls {f : FuncId} {fi ca args : Array Value} {w : World} {R : Ending → World → Prop} (h : CallsV (.func (.func f) fi ca) args w R) : Calls Tryz.prog f (fi ++ args ++ ca) w R := by
  obtain ⟨f', first, cap, fn, e, _, _, _, hc⟩ := h
  simp only [Value.func.injEq, Fn.func.injEq] at e
  obtain ⟨rfl, rfl, rfl⟩ := e
  exact hc
/-- A function of the program, with a body. -/
def KnownF (f : FuncId) : Prop := ∃ fn, Tryz.prog.funcs[f]? = some fn ∧ ¬ fn.name = "runtime.NumGoroutine" ∧ fn.body.isSome = true
theorem KnownF.enters {f : FuncId} (h : KnownF f) (args : Array Value) (w : World) : (callFunc f args).run Tryz.prog w = .ok (.enter f args) w := by
  obtain ⟨fn, h1, h2, h3⟩ := h
  exact Go.Proofs.YtghjnkfocjjlnaaGreatW.PrintLast.enters_ h1 (by simpa using h2) h3 args w
theorem known_of {f g : FuncId} {a b c d : Array Value} (h : Value.func (.func f) a b = .func (.func g) c d) (hg : KnownF g) : KnownF f := by
  simp only [Value.func.injEq, Fn.func.injEq] at h
  rw [h.1]; exact hg
theorem known_mk {g : FuncId} {fn : Func} (h : Tryz.prog.funcs[g]? = some fn) (h1 : (fn.name == "runtime.NumGoroutine") = false) (h2 : fn.body.isSome = true) : KnownF g := ⟨fn, h, by simpa using h1, h2⟩
theorem known_upd : KnownF 53 := known_mk Tryz.func53 (by kernel_rfl) rfl
theorem known_lk1 : KnownF 87 := known_mk Tryz.func87 (by kernel_rfl) rfl
theorem known_ret : KnownF 85 := known_mk Tryz.func85 (by kernel_rfl) rfl
theorem known_lk2 : KnownF 88 := known_mk Tryz.func88 (by kernel_rfl) rfl
theorem known_up1 : KnownF 74 := known_mk Tryz.func74 (by kernel_rfl) rfl
theorem known_j1 : KnownF 168 := known_mk Tryz.func168 (by kernel_rfl) rfl
theorem known_gets : KnownF 55 := known_mk Tryz.func55 (by kernel_rfl) rfl
theorem known_ends : KnownF 56 := known_mk Tryz.func56 (by kernel_rfl) rfl
theorem known_sp2 : KnownF 97 := known_mk Tryz.func97 (by kernel_rfl) rfl
theorem known_up2 : KnownF 76 := known_mk Tryz.func76 (by kernel_rfl) rfl
theorem known_dn1 : KnownF 151 := known_mk Tryz.func151 (by kernel_rfl) rfl
theorem known_up3 : KnownF 81 := known_mk Tryz.func81 (by kernel_rfl) rfl
theorem known_ld : KnownF 152 := known_mk Tryz.func152 (by kernel_rfl) rfl
theorem known_sw : KnownF 131 := known_mk Tryz.func131 (by kernel_rfl) rfl
theorem Rep0.known {w : World} {own : Own} {pt : Nat} {f : FuncId} {fi ca : Array Value} {k : K0} (h : Rep0 w own pt (.func (.func f) fi ca) k) : KnownF f := by
  cases k with
  | gets => exact known_of h known_gets
  | ends => exact known_of h known_ends
  | spans => obtain ⟨_, h, _⟩ := h; exact known_of h known_sp2
theorem RepU.known {w : World} {own : Own} {pt : Nat} {f : FuncId} {fi ca : Array Value} {k : KU} (h : RepU w own pt (.func (.func f) fi ca) k) : KnownF f := by
  cases k with
  | upd => exact known_of h known_upd
  | looks _ _ => obtain ⟨_, _, _, _, h, _⟩ := h; exact known_of h known_lk1
  | leaf _ _ _ => exact h.elim
  | ret _ => obtain ⟨_, _, _, h, _⟩ := h; exact known_of h known_ret
  | retS _ => exact h.elim
theorem RepF.known {w : World} {own : Own} {pt : Nat} {f : FuncId} {fi ca : Array Value} {k : KF} (h : RepF w own pt (.func (.func f) fi ca) k) : KnownF f := by
  cases k with
  | looks _ _ => obtain ⟨_, _, _, _, _, h, _⟩ := h; exact known_of h known_lk2
  | upd => obtain ⟨_, h, _⟩ := h; exact known_of h known_up1
  | leaf _ _ _ => exact h.elim
  | joins _ _ => obtain ⟨_, _, _, _, h, _⟩ := h; exact known_of h known_j1
theorem RepS.known {w : World} {own : Own} {pt : Nat} {f : FuncId} {fi ca : Array Value} {k : KS} (h : RepS w own pt (.func (.func f) fi ca) k) : KnownF f := by
  cases k with
  | upd _ => obtain ⟨_, _, h, _⟩ := h; exact known_of h known_up2
  | joins _ _ => exact h.elim
  | leaf _ _ _ _ => exact h.elim
theorem RepI.known {w : World} {own : Own} {i pt : Nat} {f : FuncId} {fi ca : Array Value} {k : KI} (h : RepI w own i pt (.func (.func f) fi ca) k) : KnownF f := by
  cases k with
  | down _ _ _ => obtain ⟨_, _, _, _, _, h, _⟩ := h; exact known_of h known_dn1
  | _ => exact h.elim
theorem RepW.known {w : World} {own : Own} {i pt : Nat} {f : FuncId} {fi ca : Array Value} {k : KW} (h : RepW w own i pt (.func (.func f) fi ca) k) : KnownF f := by
  cases k with
  | upd _ _ => obtain ⟨_, _, _, _, h, _⟩ := h; exact known_of h known_up3
  | _ => exact h.elim
theorem Run.bx {W w0 w : World} {P : Pl} {own0 own : Own} {S : Ix} (h : Run W P w0 own0 S w own) {b : Nat} (hb : b = w.heap.size) (cs : Array Value) (t : TypeId) : Bx (w.alloc (.cells cs t)) (setO own b .ro) b cs t := Run.box_bx hb cs t
/-- A store into a block of thread i alone, while its next step is not laid. -/
theorem Run.setM {W w0 w : World} {P : Pl} {own0 own : Own} {S : Ix} (h : Run W P w0 own0 S w own) {i b : Nat} (hn : (S.th i).next = none) (hb : own b = some (.mu i)) (k : Nat) (v : Value) : Run W P w0 own0 S (w.setCell ⟨b, k, none⟩ v) own := by
  have hoth : ∀ x o, own x = some o → o ≠ .mu i → (w.setCell ⟨b, k, none⟩ v).heap[x]? = w.heap[x]? := fun x o ho hne => setCell_other v (by rintro rfl; rw [hb] at ho; exact hne (Option.some.inj ho).symm)
  have hI := h.is
  refine ⟨⟨hI.arena.same (fun x hx => hoth x _ hx (by simp)) (by simp [World.setCell]), hI.below.setCell (hI.mine b _ hb).1 v, fun x o ho => ⟨(hI.mine x o ho).1, by simpa [World.setCell] using (hI.mine x o ho).2⟩, ?_, hI.ownix, hI.ownth, hI.len, hI.nodup, ?_⟩, h.fk.set v (by rw [hb]; simp)⟩
  · obtain ⟨tv, ov, hx⟩ := hI.ix
    exact ⟨tv, ov, (hoth _ _ hI.ownix (by simp)).trans hx.blk, ownsRow_same hx.row (fun x hb => hoth x _ (hx.rowo x hb) (by simp)), hx.rowo, ownsRow_same hx.ord (fun x hb => hoth x _ (hx.ordo x hb) (by simp)), hx.ordo⟩
  · intro j q hq
    obtain ⟨nv, pv, ht⟩ := hI.ths j q hq
    refine ⟨nv, pv, (hoth q _ (hI.own_th hq) (by simp)).trans ht.blk, ?_, ?_⟩
    · by_cases e : j = i
      · subst e
        have hr := ht.rep
        rw [hn] at hr ⊢
        exact hr
      · exact ht.rep.keep (fun x hx => by
          rcases hx with hx | hx
          · exact ⟨rfl, hoth x _ hx (by simp)⟩
          · exact ⟨rfl, hoth x _ hx (by simpa using e)⟩)
    · exact ⟨ownsRow_same ht.ps.1 (fun x hx => hoth x _ (ht.ps.2 x hx) (by simp)), ht.ps.2⟩
end Go.Proofs.YtghjnkfocjjlnaaGreat
end
section
namespace Go.Proofs.YtghjnkfocjjlnaaGreat
set_option maxRecDepth 100000
open Go.RowKit Go.Proofs.YtghjnkfocjjlnaaGreatW.PrintWords Go.Proofs.YtghjnkfocjjlnaaGreatW.PrintLast
set_option linter.unusedVariables false
set_option linter.unusedSimpArgs false
/-- A function of the program called through a value. -/
theorem callsV_of {f : FuncId} {fn : Func} {first cap args all : Array Value} {w : World} {R : Ending → World → Prop} (hf : Tryz.prog.funcs[f]? = some fn) (hname : (fn.name == "runtime.NumGoroutine") = false) (hb : fn.body.isSome = true) (ha : first ++ args ++ cap = all) (h : Calls Tryz.prog f all w R) : CallsV (.func (.func f) first cap) args w R :=
  ⟨f, first, cap, fn, rfl, hf, hname, hb, by rw [ha]; exact h⟩
set_option maxRecDepth 100000 in
set_option maxHeartbeats 4000000 in
theorem xret_any {W w : World} {P : Pl} {own : Own} {S : Ix} (h : IS W w P own S) {i p : Nat} (hp : P.pts[i]? = some p) {bt ba : Nat} {a : AnsR} {pv : Value} (hbt : Bx w own bt #[pt_ p] 90) (hba : Bx w own ba (ansC a pv) 45) (hps : PV w own pv a.pairs) :
    Calls Tryz.prog 85 #[pt_ bt, pt_ ba] w fun e w' => e = .returned (.tuple #[]) ∧ Ends W P w own (S.returns i a) w' := by
  obtain ⟨pad, pn, pc, rfl⟩ := hps.slice
  have R0 := Lib.hid (Run.begin h)
  clear h
  have HV := Lib.hid hps
  clear hps
  have HBT := Lib.hid hbt
  clear hbt
  have HBA := Lib.hid hba
  clear hba
  go_enter Tryz.func85, Tryz.ntmps85
  have cbt_0 := cell_blk (i := 0) (HBT.out).2 rfl
  have cba_0 := cell_blk (i := 0) (HBA.out).2 rfl
  have cba_1 := cell_blk (i := 1) (HBA.out).2 rfl
  have cba_2 := cell_blk (i := 2) (HBA.out).2 rfl
  have cba_3 := cell_blk (i := 3) (HBA.out).2 rfl
  have cba_4 := cell_blk (i := 4) (HBA.out).2 rfl
  have cba_5 := cell_blk (i := 5) (HBA.out).2 rfl
  go_wp2_with fail
  refine (xreturns_any R0.out.is hp (a := a) (pv := .slice pad pn pc) (HV.out)).mono ?_
  rintro e w1 ⟨rfl, e1⟩
  clear cbt_0 cba_0 cba_1 cba_2 cba_3 cba_4 cba_5
  go_wp2_with fail
  first | go_end0 | refine bodyPost_ret (results_none rfl _ _ _) rfl ?_
  exact ⟨rfl, R0.out.then_ e1⟩
set_option maxRecDepth 100000 in
set_option maxHeartbeats 4000000 in
theorem xlooks1_any {W w : World} {P : Pl} {own : Own} {S : Ix} (h : IS W w P own S) {i p : Nat} (hp : P.pts[i]? = some p) {bt bk bh : Nat} {key : Int} {k : K0} {v : Value} (hbt : Bx w own bt #[pt_ p] 90) (hbk : Bx w own bk #[.int .i64 key] 3) (hbh : Bx w own bh #[v] 117) (hk : Rep0 w own p v k) :
    Calls Tryz.prog 87 #[pt_ bt, pt_ bk, pt_ bh] w fun e w' => e = .returned (.tuple #[]) ∧ Ends W P w own (S.looks i key k) w' := by
  obtain ⟨vf, vfi, vca, rfl⟩ := hk.fn
  have R0 := Lib.hid (Run.begin h)
  clear h
  have HV := Lib.hid hk
  clear hk
  have HBT := Lib.hid hbt
  clear hbt
  have HBK := Lib.hid hbk
  clear hbk
  have HBH := Lib.hid hbh
  clear hbh
  go_enter Tryz.func87, Tryz.ntmps87
  have cbt_0 := cell_blk (i := 0) (HBT.out).2 rfl
  have cbk_0 := cell_blk (i := 0) (HBK.out).2 rfl
  have cbh_0 := cell_blk (i := 0) (HBH.out).2 rfl
  go_wp2_with fail
  refine (xlooks_any R0.out.is hp (key := key) (k := k) (HV.out)).mono ?_
  rintro e w1 ⟨rfl, e1⟩
  clear cbt_0 cbk_0 cbh_0
  go_wp2_with fail
  first | go_end0 | refine bodyPost_ret (results_none rfl _ _ _) rfl ?_
  exact ⟨rfl, R0.out.then_ e1⟩
theorem xapplyU_any {W w : World} {P : Pl} {own : Own} {S : Ix} (h : IS W w P own S) {i p : Nat} (hp : P.pts[i]? = some p) {v : Value} {k : KU} (hk : RepU w own p v k) :
    CallsV v #[] w fun e w' => e = .returned (.tuple #[]) ∧ Ends W P w own (S.applyU i k) w' := by
  cases k with
  | upd => obtain rfl := hk; exact callsV_of Tryz.func53 (by kernel_rfl) rfl (all := #[pt_ p]) (by simp) (xupdate_any h hp)
  | looks key k => obtain ⟨bt, bk, bh, vh, rfl, h1, h2, h3, h4⟩ := hk; exact callsV_of Tryz.func87 (by kernel_rfl) rfl (all := #[pt_ bt, pt_ bk, pt_ bh]) (by simp) (xlooks1_any h hp h1 h2 h3 h4)
  | ret a => obtain ⟨bt, ba, pv, rfl, h1, h2, h3⟩ := hk; exact callsV_of Tryz.func85 (by kernel_rfl) rfl (all := #[pt_ bt, pt_ ba]) (by simp) (xret_any h hp h1 h2 h3)
  | leaf _ _ _ => exact hk.elim
  | retS _ => exact hk.elim
set_option maxRecDepth 100000 in
set_option maxHeartbeats 4000000 in
theorem xsplit_no {W w : World} {P : Pl} {own : Own} {S : Ix} (h : IS W w P own S) {i p : Nat} (hp : P.pts[i]? = some p) {b : BaseR} {v : Value} {k : KU} (hk : RepU w own p v k) (he : (halfO (some S.a) b.treap).2.2.2.1 ≠ 0) :
    Calls Tryz.prog 134 #[pt_ p, .agg #[.int .i64 b.id, .int .i64 b.kind, .int .i64 b.treap, .int .i64 b.stat, .int .i64 b.home], v] w fun e w' => e = .returned (.tuple #[]) ∧ Ends W P w own ((S.ofA (halfO (some S.a) b.treap).2.2.2.2).applyU i k) w' := by
  obtain ⟨vf, vfi, vca, rfl⟩ := hk.fn
  have R0 := Lib.hid (Run.begin h)
  clear h
  have HV := Lib.hid hk
  clear hk
  have HE := Lib.hid he
  clear he
  have R1 := Lib.hid (R0.out.box (b := w.heap.size) rfl (o := .ro) (by simp) #[pt_ p] 90)
  have K1 := Lib.hid (R0.out.box_ka (b := w.heap.size) rfl (.ro) (.cells #[pt_ p] 90) i)
  have R2 := Lib.hid (R1.out.box (b := w.heap.size + 1) (by simp) (o := .ro) (by simp) #[.int .i64 b.id, .int .i64 b.kind, .int .i64 b.treap, .int .i64 b.stat, .int .i64 b.home] 120)
  have K2 := Lib.hid (R1.out.box_ka (b := w.heap.size + 1) (by simp) (.ro) (.cells #[.int .i64 b.id, .int .i64 b.kind, .int .i64 b.treap, .int .i64 b.stat, .int .i64 b.home] 120) i)
  have R3 := Lib.hid (R2.out.box (b := w.heap.size + 1 + 1) (by simp) (o := .ro) (by simp) #[.func (.func vf) vfi vca] 1)
  have K3 := Lib.hid (R2.out.box_ka (b := w.heap.size + 1 + 1) (by simp) (.ro) (.cells #[.func (.func vf) vfi vca] 1) i)
  obtain ⟨HO, hHO⟩ : ∃ H, H = halfO (some S.a) b.treap := ⟨_, rfl⟩
  have he := HE.out
  have ch0 := fun w' own' (h : IS W w' P own' S) => halfO_any h.arena b.treap
  rw [← hHO] at he
  rw [← hHO]
  simp only [← hHO] at ch0
  have CH := Lib.hid ch0
  clear ch0 HE hHO
  obtain ⟨hk0, hl0, hr0, he0, HA⟩ := HO
  have HE0 := Lib.hid he
  clear he
  go_enter Tryz.func134, Tryz.ntmps134
  go_wp2_with fail
  have R4 := Lib.hid R3.out.drew
  have K4 := Lib.hid (R3.out.drew_ka i)
  refine start_ (n := 19) (S := fun w' => w'.cell? ⟨w.heap.size, 0, none⟩ = some (pt_ p) ∧ w'.cell? ⟨p, 0, none⟩ = some (pt_ P.px) ∧ w'.cell? ⟨P.px, 0, none⟩ = some (pt_ P.pa) ∧ w'.cell? ⟨w.heap.size + 1, 2, none⟩ = some (.int .i64 b.treap)) (ds := [9]) (bz 19 0).toArray (by kernel_rfl) rfl rfl ⟨(cell_blk (i := 0) ((((Run.box_bx (b := w.heap.size) rfl _ _).keep K2.out.k).keep K3.out.k).keep K4.out.k).2 rfl), (R4.out.is.thx hp), (R4.out.is.xa), (cell_blk (i := 2) (((Run.box_bx (b := w.heap.size + 1) (by simp) _ _).keep K3.out.k).keep K4.out.k).2 rfl)⟩ (fun hHeld => ?_)
  refine pure_ (i := 7) (N := some 27) (v := ?_) (a' := ?_) (bz 19 128).toArray rfl rfl (by kernel_rfl) (fun _ _ _ h => h) (Or.inl ⟨by rfl, ?_⟩) ?_ ?_
  rotate_left
  · intro w'
    go_simp
    with_reducible rfl
  rotate_left
  · simp only [Act.put, sqA, sqZ, sqS, i64_w, i32_w]
    rfl
  refine take_ (i := 0) (N := some 20) (v := ?_) (a' := ?_) (bz 19 129).toArray rfl rfl (by kernel_rfl) (fun _ _ _ h => h) (Or.inl ⟨by rfl, ?_⟩) hHeld ?_ ?_
  rotate_left
  · rintro w' ⟨s0, s1, s2, s3⟩
    go_simp
    with_reducible rfl
  rotate_left
  · simp only [Act.put, sqA, sqZ, sqS, i64_w, i32_w]
    rfl
  refine pure_ (i := 1) (N := some 21) (v := ?_) (a' := ?_) (bz 19 131).toArray rfl rfl (by kernel_rfl) (fun _ _ _ h => h) (Or.inl ⟨by rfl, ?_⟩) ?_ ?_
  rotate_left
  · intro w'
    go_simp
    with_reducible rfl
  rotate_left
  · simp only [Act.put, sqA, sqZ, sqS, i64_w, i32_w]
    rfl
  refine pure_ (i := 2) (N := some 22) (v := ?_) (a' := ?_) (bz 19 135).toArray rfl rfl (by kernel_rfl) (fun _ _ _ h => h) (Or.inl ⟨by rfl, ?_⟩) ?_ ?_
  rotate_left
  · intro w'
    go_simp
    with_reducible rfl
  rotate_left
  · simp only [Act.put, sqA, sqZ, sqS, i64_w, i32_w]
    rfl
  refine take_ (i := 3) (N := some 23) (v := ?_) (a' := ?_) (bz 19 143).toArray rfl rfl (by kernel_rfl) (fun _ _ _ h => h) (Or.inl ⟨by rfl, ?_⟩) hHeld ?_ ?_
  rotate_left
  · rintro w' ⟨s0, s1, s2, s3⟩
    go_simp
    with_reducible rfl
  rotate_left
  · simp only [Act.put, sqA, sqZ, sqS, i64_w, i32_w]
    rfl
  refine pure_ (i := 4) (N := some 24) (v := ?_) (a' := ?_) (bz 19 159).toArray rfl rfl (by kernel_rfl) (fun _ _ _ h => h) (Or.inl ⟨by rfl, ?_⟩) ?_ ?_
  rotate_left
  · intro w'
    go_simp
    with_reducible rfl
  rotate_left
  · simp only [Act.put, sqA, sqZ, sqS, i64_w, i32_w]
    rfl
  refine pure_ (i := 5) (N := some 25) (v := ?_) (a' := ?_) (bz 19 191).toArray rfl rfl (by kernel_rfl) (fun _ _ _ h => h) (Or.inl ⟨by rfl, ?_⟩) ?_ ?_
  rotate_left
  · intro w'
    go_simp
    with_reducible rfl
  rotate_left
  · simp only [Act.put, sqA, sqZ, sqS, i64_w, i32_w]
    rfl
  refine take_ (i := 6) (N := some 26) (v := ?_) (a' := ?_) (bz 19 255).toArray rfl rfl (by kernel_rfl) (fun _ _ _ h => h) (Or.inl ⟨by rfl, ?_⟩) hHeld ?_ ?_
  rotate_left
  · rintro w' ⟨s0, s1, s2, s3⟩
    go_simp
    with_reducible rfl
  rotate_left
  · simp only [Act.put, sqA, sqZ, sqS, i64_w, i32_w]
    rfl
  refine take_ (i := 8) (N := some 28) (v := ?_) (a' := ?_) (bz 19 511).toArray rfl rfl (by kernel_rfl) (fun _ _ _ h => h) (Or.inl ⟨by rfl, ?_⟩) hHeld ?_ ?_
  rotate_left
  · rintro w' ⟨s0, s1, s2, s3⟩
    go_simp
    with_reducible rfl
  rotate_left
  · simp only [Act.put, sqA, sqZ, sqS, i64_w, i32_w]
    rfl
  refine last_ (i := 9) (N := some 29) (bz 19 1023).toArray rfl rfl (by kernel_rfl) (by decide) (fun K hK => ?_)
  refine goes_ Tryz.func166 (by kernel_rfl) rfl #[pt_ P.pa, .int .i64 b.treap] (by rfl) rfl rfl (by simp only [List.map_toArray, List.map_cons, List.map_nil]; rfl) ?_
  with_reducible refine (CH.out _ _ R4.out.is).mono ?_
  rintro e w5 ⟨rfl, x5⟩
  have m5 := x5
  clear x5
  obtain ⟨o5, r5, k5⟩ := R4.out.madeO m5 i
  have R5 := Lib.hid r5
  have K5 := Lib.hid k5
  clear m5 r5 k5
  refine ⟨_, rfl, ?_⟩
  refine hK.out _ _ ?_
  clear hK K
  refine norm_ (a' := ?_) ?_ ?_
  rotate_left
  · show Act.put _ (some 29) _ = _
    simp only [Act.put, sqA, sqZ, sqS, i64_w, i32_w]
    rfl
  refine pure_ (i := 10) (N := some 19) (v := ?_) (a' := ?_) (bz 19 2047).toArray rfl rfl (by kernel_rfl) (fun _ _ _ h => h) (Or.inl ⟨by rfl, ?_⟩) ?_ ?_
  rotate_left
  · intro w'
    go_simp
    with_reducible rfl
  rotate_left
  · simp only [Act.put, sqA, sqZ, sqS, i64_w, i32_w]
    rfl
  refine pure_ (i := 11) (N := some 30) (v := ?_) (a' := ?_) (bz 19 4095).toArray rfl rfl (by kernel_rfl) (fun _ _ _ h => h) (Or.inl ⟨by rfl, ?_⟩) ?_ ?_
  rotate_left
  · intro w'
    go_simp
    with_reducible rfl
  rotate_left
  · simp only [Act.put, sqA, sqZ, sqS, i64_w, i32_w]
    rfl
  refine pure_ (i := 12) (N := some 31) (v := ?_) (a' := ?_) (bz 19 8191).toArray rfl rfl (by kernel_rfl) (fun _ _ _ h => h) (Or.inl ⟨by rfl, ?_⟩) ?_ ?_
  rotate_left
  · intro w'
    go_simp
    with_reducible rfl
  rotate_left
  · simp only [Act.put, sqA, sqZ, sqS, i64_w, i32_w]
    rfl
  refine pure_ (i := 13) (N := some 32) (v := ?_) (a' := ?_) (bz 19 16383).toArray rfl rfl (by kernel_rfl) (fun _ _ _ h => h) (Or.inl ⟨by rfl, ?_⟩) ?_ ?_
  rotate_left
  · intro w'
    go_simp
    with_reducible rfl
  rotate_left
  · simp only [Act.put, sqA, sqZ, sqS, i64_w, i32_w]
    rfl
  refine pure_ (i := 14) (N := some 33) (v := ?_) (a' := ?_) (bz 19 32767).toArray rfl rfl (by kernel_rfl) (fun _ _ _ h => h) (Or.inl ⟨by rfl, ?_⟩) ?_ ?_
  rotate_left
  · intro w'
    go_simp
    with_reducible rfl
  rotate_left
  · simp only [Act.put, sqA, sqZ, sqS, i64_w, i32_w]
    rfl
  refine pure_ (i := 15) (N := some 6) (v := ?_) (a' := ?_) (bz 19 65535).toArray rfl rfl (by kernel_rfl) (fun _ _ _ h => h) (Or.inl ⟨by rfl, ?_⟩) ?_ ?_
  rotate_left
  · intro w'
    go_simp
    with_reducible rfl
  rotate_left
  · simp only [Act.put, sqA, sqZ, sqS, i64_w, i32_w]
    rfl
  refine pure_ (i := 16) (N := some 7) (v := ?_) (a' := ?_) (bz 19 131071).toArray rfl rfl (by kernel_rfl) (fun _ _ _ h => h) (Or.inl ⟨by rfl, ?_⟩) ?_ ?_
  rotate_left
  · intro w'
    go_simp
    with_reducible rfl
  rotate_left
  · simp only [Act.put, sqA, sqZ, sqS, i64_w, i32_w]
    rfl
  refine pure_ (i := 17) (N := some 8) (v := ?_) (a' := ?_) (bz 19 262143).toArray rfl rfl (by kernel_rfl) (fun _ _ _ h => h) (Or.inl ⟨by rfl, ?_⟩) ?_ ?_
  rotate_left
  · intro w'
    go_simp
    with_reducible rfl
  rotate_left
  · simp only [Act.put, sqA, sqZ, sqS, i64_w, i32_w]
    rfl
  refine pure_ (i := 18) (N := some 9) (v := ?_) (a' := ?_) (bz 19 524287).toArray rfl rfl (by kernel_rfl) (fun _ _ _ h => h) (Or.inl ⟨by rfl, ?_⟩) ?_ ?_
  rotate_left
  · intro w'
    go_simp
    with_reducible rfl
  rotate_left
  · simp only [Act.put, sqA, sqZ, sqS, i64_w, i32_w]
    rfl
  refine done_ (by kernel_rfl) ?_
  have q0 : (he0 == 0) = false := beq_eq_false_iff_ne.2 HE0.out
  have q1 : (he0 != 0) = true := by rw [bne, q0]; rfl
  have cb2_0 := cell_blk (i := 0) (((Run.box_bx (b := w.heap.size + 1 + 1) (by simp) _ _).keep K4.out.k).keep K5.out.k).2 rfl
  have hv6 := (xapplyU_any R5.out.is hp ((((((HV.out).keep K1.out.k).keep K2.out.k).keep K3.out.k).keep K4.out.k).keep K5.out.k)).calls
  simp only [List.append_toArray, Array.append_assoc, Array.append_empty, Array.empty_append] at hv6
  have HV6 := Lib.hid hv6
  clear hv6
  have kf1 := (HV.out).known.enters
  go_wp2_with fail
  refine (HV6.out).mono ?_
  rintro e w6 ⟨rfl, e6⟩
  clear kf1
  go_wp2_with fail
  first | go_end0 | refine bodyPost_ret (results_none rfl _ _ _) rfl ?_
  exact ⟨rfl, R5.out.then_ e6⟩
theorem xsplit_any {W w : World} {P : Pl} {own : Own} {S : Ix} (h : IS W w P own S) {i p : Nat} (hp : P.pts[i]? = some p) {b : BaseR} {v : Value} {k : KU} (hk : RepU w own p v k) (he : (halfO (some S.a) b.treap).2.2.2.1 ≠ 0) :
    Calls Tryz.prog 134 #[pt_ p, .agg #[.int .i64 b.id, .int .i64 b.kind, .int .i64 b.treap, .int .i64 b.stat, .int .i64 b.home], v] w fun e w' => e = .returned (.tuple #[]) ∧ Ends W P w own (S.split i b k) w' := by
  unfold Ix.split; rw [if_pos he]; exact xsplit_no h hp hk he
set_option maxRecDepth 100000 in
set_option maxHeartbeats 4000000 in
theorem xbend0 {W w : World} {P : Pl} {own : Own} {S : Ix} (h : IS W w P own S) {i p : Nat} (hp : P.pts[i]? = some p) {b : BaseR} {key : Int} {v : Value} {k : KU} (hk : RepU w own p v k) (hd : decideS S.p b.stat = 0) :
    Calls Tryz.prog 83 #[pt_ p, .agg #[.int .i64 b.id, .int .i64 b.kind, .int .i64 b.treap, .int .i64 b.stat, .int .i64 b.home], .int .i64 key, v] w fun e w' => e = .returned (.tuple #[]) ∧ Ends W P w own (S.applyU i k) w' := by
  obtain ⟨vf, vfi, vca, rfl⟩ := hk.fn
  have R0 := Lib.hid (Run.begin h)
  clear h
  have HV := Lib.hid hk
  clear hk
  have HD := Lib.hid hd
  clear hd
  have R1 := Lib.hid (R0.out.box (b := w.heap.size) rfl (o := .ro) (by simp) #[.int .i64 b.id, .int .i64 b.kind, .int .i64 b.treap, .int .i64 b.stat, .int .i64 b.home] 120)
  have K1 := Lib.hid (R0.out.box_ka (b := w.heap.size) rfl (.ro) (.cells #[.int .i64 b.id, .int .i64 b.kind, .int .i64 b.treap, .int .i64 b.stat, .int .i64 b.home] 120) i)
  go_enter Tryz.func83, Tryz.ntmps83
  go_wp2_with fail
  have R2 := Lib.hid R1.out.drew
  have K2 := Lib.hid (R1.out.drew_ka i)
  refine start_ (n := 10) (S := fun w' => w'.cell? ⟨p, 0, none⟩ = some (pt_ P.px) ∧ w'.cell? ⟨P.px, 1, none⟩ = some (.int .i64 S.p.high) ∧ w'.cell? ⟨P.px, 2, none⟩ = some (.int .i64 S.p.low) ∧ w'.cell? ⟨P.px, 3, none⟩ = some (.int .i64 S.p.cont) ∧ w'.cell? ⟨P.px, 4, none⟩ = some (.int .i64 S.p.uncont) ∧ w'.cell? ⟨P.px, 5, none⟩ = some (.int .i64 S.p.multi) ∧ w'.cell? ⟨w.heap.size, 3, none⟩ = some (.int .i64 b.stat)) (ds := [9]) (bz 10 0).toArray (by kernel_rfl) rfl rfl ⟨(R2.out.is.thx hp), (R2.out.is.ixc (k := 1) (fun _ _ => rfl)), (R2.out.is.ixc (k := 2) (fun _ _ => rfl)), (R2.out.is.ixc (k := 3) (fun _ _ => rfl)), (R2.out.is.ixc (k := 4) (fun _ _ => rfl)), (R2.out.is.ixc (k := 5) (fun _ _ => rfl)), (cell_blk (i := 3) ((Run.box_bx (b := w.heap.size) rfl _ _).keep K2.out.k).2 rfl)⟩ (fun hHeld => ?_)
  refine pure_ (i := 0) (N := some 8) (v := ?_) (a' := ?_) (bz 10 1).toArray rfl rfl (by kernel_rfl) (fun _ _ _ h => h) (Or.inl ⟨by rfl, ?_⟩) ?_ ?_
  rotate_left
  · intro w'
    go_simp
    with_reducible rfl
  rotate_left
  · simp only [Act.put, sqA, sqZ, sqS, i64_w, i32_w]
    rfl
  refine pure_ (i := 1) (N := some 9) (v := ?_) (a' := ?_) (bz 10 3).toArray rfl rfl (by kernel_rfl) (fun _ _ _ h => h) (Or.inl ⟨by rfl, ?_⟩) ?_ ?_
  rotate_left
  · intro w'
    go_simp
    with_reducible rfl
  rotate_left
  · simp only [Act.put, sqA, sqZ, sqS, i64_w, i32_w]
    rfl
  refine pure_ (i := 2) (N := some 10) (v := ?_) (a' := ?_) (bz 10 7).toArray rfl rfl (by kernel_rfl) (fun _ _ _ h => h) (Or.inl ⟨by rfl, ?_⟩) ?_ ?_
  rotate_left
  · intro w'
    go_simp
    with_reducible rfl
  rotate_left
  · simp only [Act.put, sqA, sqZ, sqS, i64_w, i32_w]
    rfl
  refine pure_ (i := 7) (N := some 15) (v := ?_) (a' := ?_) (bz 10 135).toArray rfl rfl (by kernel_rfl) (fun _ _ _ h => h) (Or.inl ⟨by rfl, ?_⟩) ?_ ?_
  rotate_left
  · intro w'
    go_simp
    with_reducible rfl
  rotate_left
  · simp only [Act.put, sqA, sqZ, sqS, i64_w, i32_w]
    rfl
  refine take_ (i := 3) (N := some 11) (v := ?_) (a' := ?_) (bz 10 143).toArray rfl rfl (by kernel_rfl) (fun _ _ _ h => h) (Or.inl ⟨by rfl, ?_⟩) hHeld ?_ ?_
  rotate_left
  · rintro w' ⟨s0, s1, s2, s3, s4, s5, s6⟩
    go_simp
    with_reducible rfl
  rotate_left
  · simp only [Act.put, sqA, sqZ, sqS, i64_w, i32_w]
    rfl
  refine pure_ (i := 4) (N := some 12) (v := ?_) (a' := ?_) (bz 10 159).toArray rfl rfl (by kernel_rfl) (fun _ _ _ h => h) (Or.inl ⟨by rfl, ?_⟩) ?_ ?_
  rotate_left
  · intro w'
    go_simp
    with_reducible rfl
  rotate_left
  · simp only [Act.put, sqA, sqZ, sqS, i64_w, i32_w]
    rfl
  refine pure_ (i := 5) (N := some 13) (v := ?_) (a' := ?_) (bz 10 191).toArray rfl rfl (by kernel_rfl) (fun _ _ _ h => h) (Or.inl ⟨by rfl, ?_⟩) ?_ ?_
  rotate_left
  · intro w'
    go_simp
    with_reducible rfl
  rotate_left
  · simp only [Act.put, sqA, sqZ, sqS, i64_w, i32_w]
    rfl
  refine take_ (i := 6) (N := some 14) (v := ?_) (a' := ?_) (bz 10 255).toArray rfl rfl (by kernel_rfl) (fun _ _ _ h => h) (Or.inl ⟨by rfl, ?_⟩) hHeld ?_ ?_
  rotate_left
  · rintro w' ⟨s0, s1, s2, s3, s4, s5, s6⟩
    go_simp
    with_reducible rfl
  rotate_left
  · simp only [Act.put, sqA, sqZ, sqS, i64_w, i32_w]
    rfl
  refine take_ (i := 8) (N := some 16) (v := ?_) (a' := ?_) (bz 10 511).toArray rfl rfl (by kernel_rfl) (fun _ _ _ h => h) (Or.inl ⟨by rfl, ?_⟩) hHeld ?_ ?_
  rotate_left
  · rintro w' ⟨s0, s1, s2, s3, s4, s5, s6⟩
    go_simp
    with_reducible rfl
  rotate_left
  · simp only [Act.put, sqA, sqZ, sqS, i64_w, i32_w]
    rfl
  refine last_ (i := 9) (N := some 17) (bz 10 1023).toArray rfl rfl (by kernel_rfl) (by decide) (fun K hK => ?_)
  refine goes_ Tryz.func133 (by kernel_rfl) rfl #[.agg #[.int .i64 S.p.high, .int .i64 S.p.low, .int .i64 S.p.cont, .int .i64 S.p.uncont, .int .i64 S.p.multi], .int .i64 b.stat] (by rfl) rfl rfl (by simp only [List.map_toArray, List.map_cons, List.map_nil]; rfl) ?_
  with_reducible refine (xdecide_any S.p b.stat _).mono ?_
  rintro e w3 ⟨rfl, x3⟩
  have b3 := x3
  clear x3
  have R3 := Lib.hid (R2.out.later b3)
  have K3 := Lib.hid (R2.out.below_ka b3 i)
  clear b3
  rw [HD.out]
  refine ⟨_, rfl, ?_⟩
  refine hK.out _ _ ?_
  clear hK K
  refine norm_ (a' := ?_) ?_ ?_
  rotate_left
  · show Act.put _ (some 17) _ = _
    simp only [Act.put, sqA, sqZ, sqS, i64_w, i32_w]
    rfl
  refine done_ (by kernel_rfl) ?_
  have hv4 := (xapplyU_any R3.out.is hp ((((HV.out).keep K1.out.k).keep K2.out.k).keep K3.out.k)).calls
  simp only [List.append_toArray, Array.append_assoc, Array.append_empty, Array.empty_append] at hv4
  have HV4 := Lib.hid hv4
  clear hv4
  have kf1 := (HV.out).known.enters
  go_wp2_with fail
  refine (HV4.out).mono ?_
  rintro e w4 ⟨rfl, e4⟩
  clear kf1
  go_wp2_with fail
  first | go_end0 | refine bodyPost_ret (results_none rfl _ _ _) rfl ?_
  exact ⟨rfl, R3.out.then_ e4⟩
set_option maxRecDepth 100000 in
set_option maxHeartbeats 4000000 in
theorem xbend1 {W w : World} {P : Pl} {own : Own} {S : Ix} (h : IS W w P own S) {i p : Nat} (hp : P.pts[i]? = some p) {b : BaseR} {key : Int} {v : Value} {k : KU} (hk : RepU w own p v k) (hd : decideS S.p b.stat = 1) (he : (halfO (some S.a) b.treap).2.2.2.1 ≠ 0) :
    Calls Tryz.prog 83 #[pt_ p, .agg #[.int .i64 b.id, .int .i64 b.kind, .int .i64 b.treap, .int .i64 b.stat, .int .i64 b.home], .int .i64 key, v] w fun e w' => e = .returned (.tuple #[]) ∧ Ends W P w own (S.split i b k) w' := by
  obtain ⟨vf, vfi, vca, rfl⟩ := hk.fn
  have R0 := Lib.hid (Run.begin h)
  clear h
  have HV := Lib.hid hk
  clear hk
  have HD := Lib.hid hd
  clear hd
  have HE := Lib.hid he
  clear he
  have R1 := Lib.hid (R0.out.box (b := w.heap.size) rfl (o := .ro) (by simp) #[.int .i64 b.id, .int .i64 b.kind, .int .i64 b.treap, .int .i64 b.stat, .int .i64 b.home] 120)
  have K1 := Lib.hid (R0.out.box_ka (b := w.heap.size) rfl (.ro) (.cells #[.int .i64 b.id, .int .i64 b.kind, .int .i64 b.treap, .int .i64 b.stat, .int .i64 b.home] 120) i)
  go_enter Tryz.func83, Tryz.ntmps83
  go_wp2_with fail
  have R2 := Lib.hid R1.out.drew
  have K2 := Lib.hid (R1.out.drew_ka i)
  refine start_ (n := 10) (S := fun w' => w'.cell? ⟨p, 0, none⟩ = some (pt_ P.px) ∧ w'.cell? ⟨P.px, 1, none⟩ = some (.int .i64 S.p.high) ∧ w'.cell? ⟨P.px, 2, none⟩ = some (.int .i64 S.p.low) ∧ w'.cell? ⟨P.px, 3, none⟩ = some (.int .i64 S.p.cont) ∧ w'.cell? ⟨P.px, 4, none⟩ = some (.int .i64 S.p.uncont) ∧ w'.cell? ⟨P.px, 5, none⟩ = some (.int .i64 S.p.multi) ∧ w'.cell? ⟨w.heap.size, 3, none⟩ = some (.int .i64 b.stat)) (ds := [9]) (bz 10 0).toArray (by kernel_rfl) rfl rfl ⟨(R2.out.is.thx hp), (R2.out.is.ixc (k := 1) (fun _ _ => rfl)), (R2.out.is.ixc (k := 2) (fun _ _ => rfl)), (R2.out.is.ixc (k := 3) (fun _ _ => rfl)), (R2.out.is.ixc (k := 4) (fun _ _ => rfl)), (R2.out.is.ixc (k := 5) (fun _ _ => rfl)), (cell_blk (i := 3) ((Run.box_bx (b := w.heap.size) rfl _ _).keep K2.out.k).2 rfl)⟩ (fun hHeld => ?_)
  refine pure_ (i := 0) (N := some 8) (v := ?_) (a' := ?_) (bz 10 1).toArray rfl rfl (by kernel_rfl) (fun _ _ _ h => h) (Or.inl ⟨by rfl, ?_⟩) ?_ ?_
  rotate_left
  · intro w'
    go_simp
    with_reducible rfl
  rotate_left
  · simp only [Act.put, sqA, sqZ, sqS, i64_w, i32_w]
    rfl
  refine pure_ (i := 1) (N := some 9) (v := ?_) (a' := ?_) (bz 10 3).toArray rfl rfl (by kernel_rfl) (fun _ _ _ h => h) (Or.inl ⟨by rfl, ?_⟩) ?_ ?_
  rotate_left
  · intro w'
    go_simp
    with_reducible rfl
  rotate_left
  · simp only [Act.put, sqA, sqZ, sqS, i64_w, i32_w]
    rfl
  refine pure_ (i := 2) (N := some 10) (v := ?_) (a' := ?_) (bz 10 7).toArray rfl rfl (by kernel_rfl) (fun _ _ _ h => h) (Or.inl ⟨by rfl, ?_⟩) ?_ ?_
  rotate_left
  · intro w'
    go_simp
    with_reducible rfl
  rotate_left
  · simp only [Act.put, sqA, sqZ, sqS, i64_w, i32_w]
    rfl
  refine pure_ (i := 7) (N := some 15) (v := ?_) (a' := ?_) (bz 10 135).toArray rfl rfl (by kernel_rfl) (fun _ _ _ h => h) (Or.inl ⟨by rfl, ?_⟩) ?_ ?_
  rotate_left
  · intro w'
    go_simp
    with_reducible rfl
  rotate_left
  · simp only [Act.put, sqA, sqZ, sqS, i64_w, i32_w]
    rfl
  refine take_ (i := 3) (N := some 11) (v := ?_) (a' := ?_) (bz 10 143).toArray rfl rfl (by kernel_rfl) (fun _ _ _ h => h) (Or.inl ⟨by rfl, ?_⟩) hHeld ?_ ?_
  rotate_left
  · rintro w' ⟨s0, s1, s2, s3, s4, s5, s6⟩
    go_simp
    with_reducible rfl
  rotate_left
  · simp only [Act.put, sqA, sqZ, sqS, i64_w, i32_w]
    rfl
  refine pure_ (i := 4) (N := some 12) (v := ?_) (a' := ?_) (bz 10 159).toArray rfl rfl (by kernel_rfl) (fun _ _ _ h => h) (Or.inl ⟨by rfl, ?_⟩) ?_ ?_
  rotate_left
  · intro w'
    go_simp
    with_reducible rfl
  rotate_left
  · simp only [Act.put, sqA, sqZ, sqS, i64_w, i32_w]
    rfl
  refine pure_ (i := 5) (N := some 13) (v := ?_) (a' := ?_) (bz 10 191).toArray rfl rfl (by kernel_rfl) (fun _ _ _ h => h) (Or.inl ⟨by rfl, ?_⟩) ?_ ?_
  rotate_left
  · intro w'
    go_simp
    with_reducible rfl
  rotate_left
  · simp only [Act.put, sqA, sqZ, sqS, i64_w, i32_w]
    rfl
  refine take_ (i := 6) (N := some 14) (v := ?_) (a' := ?_) (bz 10 255).toArray rfl rfl (by kernel_rfl) (fun _ _ _ h => h) (Or.inl ⟨by rfl, ?_⟩) hHeld ?_ ?_
  rotate_left
  · rintro w' ⟨s0, s1, s2, s3, s4, s5, s6⟩
    go_simp
    with_reducible rfl
  rotate_left
  · simp only [Act.put, sqA, sqZ, sqS, i64_w, i32_w]
    rfl
  refine take_ (i := 8) (N := some 16) (v := ?_) (a' := ?_) (bz 10 511).toArray rfl rfl (by kernel_rfl) (fun _ _ _ h => h) (Or.inl ⟨by rfl, ?_⟩) hHeld ?_ ?_
  rotate_left
  · rintro w' ⟨s0, s1, s2, s3, s4, s5, s6⟩
    go_simp
    with_reducible rfl
  rotate_left
  · simp only [Act.put, sqA, sqZ, sqS, i64_w, i32_w]
    rfl
  refine last_ (i := 9) (N := some 17) (bz 10 1023).toArray rfl rfl (by kernel_rfl) (by decide) (fun K hK => ?_)
  refine goes_ Tryz.func133 (by kernel_rfl) rfl #[.agg #[.int .i64 S.p.high, .int .i64 S.p.low, .int .i64 S.p.cont, .int .i64 S.p.uncont, .int .i64 S.p.multi], .int .i64 b.stat] (by rfl) rfl rfl (by simp only [List.map_toArray, List.map_cons, List.map_nil]; rfl) ?_
  with_reducible refine (xdecide_any S.p b.stat _).mono ?_
  rintro e w3 ⟨rfl, x3⟩
  have b3 := x3
  clear x3
  have R3 := Lib.hid (R2.out.later b3)
  have K3 := Lib.hid (R2.out.below_ka b3 i)
  clear b3
  rw [HD.out]
  refine ⟨_, rfl, ?_⟩
  refine hK.out _ _ ?_
  clear hK K
  refine norm_ (a' := ?_) ?_ ?_
  rotate_left
  · show Act.put _ (some 17) _ = _
    simp only [Act.put, sqA, sqZ, sqS, i64_w, i32_w]
    rfl
  refine done_ (by kernel_rfl) ?_
  have cb0_0 := cell_blk (i := 0) (((Run.box_bx (b := w.heap.size) rfl _ _).keep K2.out.k).keep K3.out.k).2 rfl
  have cb0_1 := cell_blk (i := 1) (((Run.box_bx (b := w.heap.size) rfl _ _).keep K2.out.k).keep K3.out.k).2 rfl
  have cb0_2 := cell_blk (i := 2) (((Run.box_bx (b := w.heap.size) rfl _ _).keep K2.out.k).keep K3.out.k).2 rfl
  have cb0_3 := cell_blk (i := 3) (((Run.box_bx (b := w.heap.size) rfl _ _).keep K2.out.k).keep K3.out.k).2 rfl
  have cb0_4 := cell_blk (i := 4) (((Run.box_bx (b := w.heap.size) rfl _ _).keep K2.out.k).keep K3.out.k).2 rfl
  go_wp2_with fail
  refine (xsplit_any R3.out.is hp (b := b) ((((HV.out).keep K1.out.k).keep K2.out.k).keep K3.out.k) HE.out).mono ?_
  rintro e w4 ⟨rfl, e4⟩
  clear cb0_0 cb0_1 cb0_2 cb0_3 cb0_4
  go_wp2_with fail
  first | go_end0 | refine bodyPost_ret (results_none rfl _ _ _) rfl ?_
  exact ⟨rfl, R3.out.then_ e4⟩
set_option maxRecDepth 100000 in
set_option maxHeartbeats 4000000 in
theorem xbend2 {W w : World} {P : Pl} {own : Own} {S : Ix} (h : IS W w P own S) {i p : Nat} (hp : P.pts[i]? = some p) {b : BaseR} {key : Int} {v : Value} {k : KU} (hk : RepU w own p v k) (hd : decideS S.p b.stat = 2) :
    Calls Tryz.prog 83 #[pt_ p, .agg #[.int .i64 b.id, .int .i64 b.kind, .int .i64 b.treap, .int .i64 b.stat, .int .i64 b.home], .int .i64 key, v] w fun e w' => e = .returned (.tuple #[]) ∧ Ends W P w own (S.joinsAt i b key k) w' := by
  obtain ⟨vf, vfi, vca, rfl⟩ := hk.fn
  have R0 := Lib.hid (Run.begin h)
  clear h
  have HV := Lib.hid hk
  clear hk
  have HD := Lib.hid hd
  clear hd
  have R1 := Lib.hid (R0.out.box (b := w.heap.size) rfl (o := .ro) (by simp) #[.int .i64 b.id, .int .i64 b.kind, .int .i64 b.treap, .int .i64 b.stat, .int .i64 b.home] 120)
  have K1 := Lib.hid (R0.out.box_ka (b := w.heap.size) rfl (.ro) (.cells #[.int .i64 b.id, .int .i64 b.kind, .int .i64 b.treap, .int .i64 b.stat, .int .i64 b.home] 120) i)
  go_enter Tryz.func83, Tryz.ntmps83
  go_wp2_with fail
  have R2 := Lib.hid R1.out.drew
  have K2 := Lib.hid (R1.out.drew_ka i)
  refine start_ (n := 10) (S := fun w' => w'.cell? ⟨p, 0, none⟩ = some (pt_ P.px) ∧ w'.cell? ⟨P.px, 1, none⟩ = some (.int .i64 S.p.high) ∧ w'.cell? ⟨P.px, 2, none⟩ = some (.int .i64 S.p.low) ∧ w'.cell? ⟨P.px, 3, none⟩ = some (.int .i64 S.p.cont) ∧ w'.cell? ⟨P.px, 4, none⟩ = some (.int .i64 S.p.uncont) ∧ w'.cell? ⟨P.px, 5, none⟩ = some (.int .i64 S.p.multi) ∧ w'.cell? ⟨w.heap.size, 3, none⟩ = some (.int .i64 b.stat)) (ds := [9]) (bz 10 0).toArray (by kernel_rfl) rfl rfl ⟨(R2.out.is.thx hp), (R2.out.is.ixc (k := 1) (fun _ _ => rfl)), (R2.out.is.ixc (k := 2) (fun _ _ => rfl)), (R2.out.is.ixc (k := 3) (fun _ _ => rfl)), (R2.out.is.ixc (k := 4) (fun _ _ => rfl)), (R2.out.is.ixc (k := 5) (fun _ _ => rfl)), (cell_blk (i := 3) ((Run.box_bx (b := w.heap.size) rfl _ _).keep K2.out.k).2 rfl)⟩ (fun hHeld => ?_)
  refine pure_ (i := 0) (N := some 8) (v := ?_) (a' := ?_) (bz 10 1).toArray rfl rfl (by kernel_rfl) (fun _ _ _ h => h) (Or.inl ⟨by rfl, ?_⟩) ?_ ?_
  rotate_left
  · intro w'
    go_simp
    with_reducible rfl
  rotate_left
  · simp only [Act.put, sqA, sqZ, sqS, i64_w, i32_w]
    rfl
  refine pure_ (i := 1) (N := some 9) (v := ?_) (a' := ?_) (bz 10 3).toArray rfl rfl (by kernel_rfl) (fun _ _ _ h => h) (Or.inl ⟨by rfl, ?_⟩) ?_ ?_
  rotate_left
  · intro w'
    go_simp
    with_reducible rfl
  rotate_left
  · simp only [Act.put, sqA, sqZ, sqS, i64_w, i32_w]
    rfl
  refine pure_ (i := 2) (N := some 10) (v := ?_) (a' := ?_) (bz 10 7).toArray rfl rfl (by kernel_rfl) (fun _ _ _ h => h) (Or.inl ⟨by rfl, ?_⟩) ?_ ?_
  rotate_left
  · intro w'
    go_simp
    with_reducible rfl
  rotate_left
  · simp only [Act.put, sqA, sqZ, sqS, i64_w, i32_w]
    rfl
  refine pure_ (i := 7) (N := some 15) (v := ?_) (a' := ?_) (bz 10 135).toArray rfl rfl (by kernel_rfl) (fun _ _ _ h => h) (Or.inl ⟨by rfl, ?_⟩) ?_ ?_
  rotate_left
  · intro w'
    go_simp
    with_reducible rfl
  rotate_left
  · simp only [Act.put, sqA, sqZ, sqS, i64_w, i32_w]
    rfl
  refine take_ (i := 3) (N := some 11) (v := ?_) (a' := ?_) (bz 10 143).toArray rfl rfl (by kernel_rfl) (fun _ _ _ h => h) (Or.inl ⟨by rfl, ?_⟩) hHeld ?_ ?_
  rotate_left
  · rintro w' ⟨s0, s1, s2, s3, s4, s5, s6⟩
    go_simp
    with_reducible rfl
  rotate_left
  · simp only [Act.put, sqA, sqZ, sqS, i64_w, i32_w]
    rfl
  refine pure_ (i := 4) (N := some 12) (v := ?_) (a' := ?_) (bz 10 159).toArray rfl rfl (by kernel_rfl) (fun _ _ _ h => h) (Or.inl ⟨by rfl, ?_⟩) ?_ ?_
  rotate_left
  · intro w'
    go_simp
    with_reducible rfl
  rotate_left
  · simp only [Act.put, sqA, sqZ, sqS, i64_w, i32_w]
    rfl
  refine pure_ (i := 5) (N := some 13) (v := ?_) (a' := ?_) (bz 10 191).toArray rfl rfl (by kernel_rfl) (fun _ _ _ h => h) (Or.inl ⟨by rfl, ?_⟩) ?_ ?_
  rotate_left
  · intro w'
    go_simp
    with_reducible rfl
  rotate_left
  · simp only [Act.put, sqA, sqZ, sqS, i64_w, i32_w]
    rfl
  refine take_ (i := 6) (N := some 14) (v := ?_) (a' := ?_) (bz 10 255).toArray rfl rfl (by kernel_rfl) (fun _ _ _ h => h) (Or.inl ⟨by rfl, ?_⟩) hHeld ?_ ?_
  rotate_left
  · rintro w' ⟨s0, s1, s2, s3, s4, s5, s6⟩
    go_simp
    with_reducible rfl
  rotate_left
  · simp only [Act.put, sqA, sqZ, sqS, i64_w, i32_w]
    rfl
  refine take_ (i := 8) (N := some 16) (v := ?_) (a' := ?_) (bz 10 511).toArray rfl rfl (by kernel_rfl) (fun _ _ _ h => h) (Or.inl ⟨by rfl, ?_⟩) hHeld ?_ ?_
  rotate_left
  · rintro w' ⟨s0, s1, s2, s3, s4, s5, s6⟩
    go_simp
    with_reducible rfl
  rotate_left
  · simp only [Act.put, sqA, sqZ, sqS, i64_w, i32_w]
    rfl
  refine last_ (i := 9) (N := some 17) (bz 10 1023).toArray rfl rfl (by kernel_rfl) (by decide) (fun K hK => ?_)
  refine goes_ Tryz.func133 (by kernel_rfl) rfl #[.agg #[.int .i64 S.p.high, .int .i64 S.p.low, .int .i64 S.p.cont, .int .i64 S.p.uncont, .int .i64 S.p.multi], .int .i64 b.stat] (by rfl) rfl rfl (by simp only [List.map_toArray, List.map_cons, List.map_nil]; rfl) ?_
  with_reducible refine (xdecide_any S.p b.stat _).mono ?_
  rintro e w3 ⟨rfl, x3⟩
  have b3 := x3
  clear x3
  have R3 := Lib.hid (R2.out.later b3)
  have K3 := Lib.hid (R2.out.below_ka b3 i)
  clear b3
  rw [HD.out]
  refine ⟨_, rfl, ?_⟩
  refine hK.out _ _ ?_
  clear hK K
  refine norm_ (a' := ?_) ?_ ?_
  rotate_left
  · show Act.put _ (some 17) _ = _
    simp only [Act.put, sqA, sqZ, sqS, i64_w, i32_w]
    rfl
  refine done_ (by kernel_rfl) ?_
  have cb0_0 := cell_blk (i := 0) (((Run.box_bx (b := w.heap.size) rfl _ _).keep K2.out.k).keep K3.out.k).2 rfl
  have cb0_1 := cell_blk (i := 1) (((Run.box_bx (b := w.heap.size) rfl _ _).keep K2.out.k).keep K3.out.k).2 rfl
  have cb0_2 := cell_blk (i := 2) (((Run.box_bx (b := w.heap.size) rfl _ _).keep K2.out.k).keep K3.out.k).2 rfl
  have cb0_3 := cell_blk (i := 3) (((Run.box_bx (b := w.heap.size) rfl _ _).keep K2.out.k).keep K3.out.k).2 rfl
  have cb0_4 := cell_blk (i := 4) (((Run.box_bx (b := w.heap.size) rfl _ _).keep K2.out.k).keep K3.out.k).2 rfl
  go_wp2_with fail
  refine (xjoins_any R3.out.is hp (b := b) (key := key) ((((HV.out).keep K1.out.k).keep K2.out.k).keep K3.out.k)).mono ?_
  rintro e w4 ⟨rfl, e4⟩
  clear cb0_0 cb0_1 cb0_2 cb0_3 cb0_4
  go_wp2_with fail
  first | go_end0 | refine bodyPost_ret (results_none rfl _ _ _) rfl ?_
  exact ⟨rfl, R3.out.then_ e4⟩
theorem decide_bd (p : PolR) (s : Int) : decideS p s = 0 ∨ decideS p s = 1 ∨ decideS p s = 2 := by
  unfold decideS; split
  · simp
  · split <;> simp
theorem xbend_any {W w : World} {P : Pl} {own : Own} {S : Ix} (h : IS W w P own S) {i p : Nat} (hp : P.pts[i]? = some p) {b : BaseR} {key : Int} {v : Value} {k : KU} (hk : RepU w own p v k) (he : (halfO (some S.a) b.treap).2.2.2.1 ≠ 0) :
    Calls Tryz.prog 83 #[pt_ p, .agg #[.int .i64 b.id, .int .i64 b.kind, .int .i64 b.treap, .int .i64 b.stat, .int .i64 b.home], .int .i64 key, v] w fun e w' => e = .returned (.tuple #[]) ∧ Ends W P w own (S.bend i b key k) w' := by
  unfold Ix.bend
  rcases decide_bd S.p b.stat with hd | hd | hd
  · rw [if_neg (by omega), if_neg (by omega)]; exact xbend0 h hp hk hd
  · rw [if_pos hd]; exact xbend1 h hp hk hd he
  · rw [if_neg (by omega), if_pos hd]; exact xbend2 h hp hk hd
end Go.Proofs.YtghjnkfocjjlnaaGreat
end
