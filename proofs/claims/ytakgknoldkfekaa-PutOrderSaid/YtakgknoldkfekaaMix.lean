/- The priority of a key as a natural number: it can be gone back, and 'above' is a strict total order. No program in sight. -/
import Derived.Laws.Bits64
namespace Go.Proofs.Ytakgknoldkfekaa.Mix
set_option maxRecDepth 100000

def stepN (X s C : Nat) : Nat := (X ^^^ X / s) * C % 18446744073709551616
def prioC (a : Int) : Nat :=
  let x0 := ((a % 18446744073709551616 + 11400714819323198485) % 18446744073709551616).toNat
  let x1 := stepN x0 1073741824 13787848793156543929
  let x2 := stepN x1 134217728 10723151780598845931
  x2 ^^^ x2 / 2147483648

theorem prio_is : ∃ f : Int → Nat, f = prioC := ⟨_, rfl⟩
/-- The priority, behind a name that nothing unfolds (the kernel, too, would count up its factors). -/
noncomputable def prioN : Int → Nat := prio_is.choose
theorem prioN_eq : prioN = prioC := prio_is.choose_spec

/-- One step back behind 'x ^ x>>s': the shift doubled each time. -/
theorem xs_inj (s : Nat) (h1 : 64 ≤ 3 * s) {x y : Nat} (hx : x < 2 ^ 64) (hy : y < 2 ^ 64) (h : x ^^^ x >>> s = y ^^^ y >>> s) : x = y := by
  have key : ∀ z : Nat, z < 2 ^ 64 → (z ^^^ z >>> s) ^^^ ((z ^^^ z >>> s) >>> s) ^^^ ((z ^^^ z >>> s) >>> (2 * s)) = z := by
    intro z hz
    have h3 : z >>> (3 * s) = 0 := by
      rw [Nat.shiftRight_eq_div_pow]
      exact Nat.div_eq_of_lt (Nat.lt_of_lt_of_le hz (Nat.pow_le_pow_right (by decide) h1))
    have e1 : (z ^^^ z >>> s) >>> s = z >>> s ^^^ z >>> (2 * s) := by
      rw [Nat.shiftRight_xor_distrib, ← Nat.shiftRight_add, show s + s = 2 * s by omega]
    have e2 : (z ^^^ z >>> s) >>> (2 * s) = z >>> (2 * s) := by
      rw [Nat.shiftRight_xor_distrib, ← Nat.shiftRight_add, show s + 2 * s = 3 * s by omega, h3, Nat.xor_zero]
    rw [e1, e2]
    generalize z >>> s = p
    generalize z >>> (2 * s) = q
    rw [Nat.xor_assoc, Nat.xor_assoc, Nat.xor_assoc, Nat.xor_self, Nat.xor_zero, Nat.xor_self, Nat.xor_zero]
  rw [← key x hx, ← key y hy, h]

theorem xor_div_inj {d x y : Nat} (s : Nat) (hd : d = 2 ^ s) (h1 : 64 ≤ 3 * s) (hx : x < 2 ^ 64) (hy : y < 2 ^ 64) (h : x ^^^ x / d = y ^^^ y / d) : x = y := by
  subst hd
  rw [← Nat.shiftRight_eq_div_pow, ← Nat.shiftRight_eq_div_pow] at h
  exact xs_inj s h1 hx hy h

theorem mul_inj (C D : Nat) (hD : C * D % 18446744073709551616 = 1) {x y : Nat} (hx : x < 18446744073709551616) (hy : y < 18446744073709551616)
    (h : x * C % 18446744073709551616 = y * C % 18446744073709551616) : x = y := by
  have go : ∀ z : Nat, z < 18446744073709551616 → (z * C % 18446744073709551616) * D % 18446744073709551616 = z := by
    intro z hz
    rw [Nat.mod_mul_mod, Nat.mul_assoc, Nat.mul_mod, hD, Nat.mul_one, Nat.mod_mod, Nat.mod_eq_of_lt hz]
  rw [← go x hx, ← go y hy, h]

theorem stepN_lt (X s C : Nat) : stepN X s C < 18446744073709551616 := Nat.mod_lt _ (by decide)

theorem xor_div_lt {x d : Nat} (hx : x < 18446744073709551616) : x ^^^ x / d < 18446744073709551616 :=
  Nat.xor_lt_two_pow (n := 64) hx (Nat.lt_of_le_of_lt (Nat.div_le_self _ _) hx)

theorem stepN_inj {d C : Nat} (s D : Nat) (hd : d = 2 ^ s) (h1 : 64 ≤ 3 * s) (hD : C * D % 18446744073709551616 = 1) {x y : Nat} (hx : x < 18446744073709551616) (hy : y < 18446744073709551616)
    (h : stepN x d C = stepN y d C) : x = y :=
  xor_div_inj s hd h1 hx hy (mul_inj C D hD (xor_div_lt hx) (xor_div_lt hy) h)

theorem prioN_inj {a b : Int} (ha : -9223372036854775808 ≤ a ∧ a ≤ 9223372036854775807) (hb : -9223372036854775808 ≤ b ∧ b ≤ 9223372036854775807) (h : prioN a = prioN b) : a = b := by
  rw [prioN_eq] at h
  have x0 : ∀ c : Int, ((c % 18446744073709551616 + 11400714819323198485) % 18446744073709551616).toNat < 18446744073709551616 := by intro c; omega
  have h3 := xor_div_inj 31 (by decide) (by decide) (stepN_lt _ _ _) (stepN_lt _ _ _) h
  have h2 := stepN_inj 27 3573116690164977347 (by decide) (by decide) (by decide) (stepN_lt _ _ _) (stepN_lt _ _ _) h3
  have h1 := stepN_inj 30 10871156337175269513 (by decide) (by decide) (by decide) (x0 a) (x0 b) h2
  omega

/-- Which key is above which. -/
noncomputable def above (a b : Int) : Bool := if prioN a = prioN b then decide (a < b) else decide (prioN b < prioN a)

theorem above_irrefl (a : Int) : above a a = false := by simp [above]
theorem above_asymm {a b : Int} (h : above a b = true) : above b a = false := by
  unfold above at *
  by_cases e : prioN a = prioN b
  · rw [if_pos e] at h; rw [if_pos e.symm]; simp at *; omega
  · rw [if_neg e] at h; rw [if_neg (fun x => e x.symm)]; simp at *; omega
theorem above_trans {a b c : Int} (h1 : above a b = true) (h2 : above b c = true) : above a c = true := by
  unfold above at *
  by_cases e : prioN a = prioN b <;> by_cases f : prioN b = prioN c <;> by_cases g : prioN a = prioN c <;> simp_all <;> omega
theorem above_total {a b : Int} (h : a ≠ b) : above a b = true ∨ above b a = true := by
  unfold above
  by_cases e : prioN a = prioN b
  · rw [if_pos e, if_pos e.symm]; simp; omega
  · rw [if_neg e, if_neg (fun x => e x.symm)]; simp; omega
theorem above_false {a b : Int} (h : above a b = false) : a = b ∨ above b a = true := by
  by_cases e : a = b
  · exact .inl e
  · rcases above_total e with h' | h'
    · rw [h] at h'; cases h'
    · exact .inr h'

/-- The comparison as the program writes it, and as the reference does, on any two numbers. -/
theorem above_core (p q : Nat) (a b : Int) : (if (p : Int) = (q : Int) then some (decide (a < b)) else some (decide ((p : Int) > (q : Int)))) = some (if p = q then decide (a < b) else decide (q < p)) := by
  by_cases e : p = q
  · rw [if_pos e, if_pos (by rw [e])]
  · rw [if_neg e, if_neg (by omega)]
    congr 1
    exact decide_eq_decide.2 (by omega)
theorem above_core1 (p q : Nat) (a b : Int) : (if (p : Int) > (q : Int) then some true else if (p : Int) = (q : Int) then some (decide (a < b)) else some false) = some (if p = q then decide (a < b) else decide (q < p)) := by
  by_cases e : p = q
  · rw [if_pos e, if_neg (by omega), if_pos (by rw [e])]
  · rw [if_neg e]
    by_cases g : q < p
    · rw [if_pos (by omega)]; simp [g]
    · rw [if_neg (by omega), if_neg (by omega)]; simp [g]

theorem above_of (f : Int → Option Int) (g : Int → Nat) (h : ∀ a, f a = some (g a : Int)) (a b : Int) :
    ((f a).bind fun p => ((f b).bind fun q => (if p = q then (some (decide (a < b))) else (some (decide (p > q)))))) = some (if g a = g b then decide (a < b) else decide (g b < g a)) := by
  rw [h, h]
  exact above_core _ _ _ _
theorem above_of1 (f : Int → Option Int) (g : Int → Nat) (h : ∀ a, f a = some (g a : Int)) (a b : Int) :
    ((f a).bind fun p => ((f b).bind fun q => (if p > q then (some true) else (if p = q then (some (decide (a < b))) else (some false))))) = some (if g a = g b then decide (a < b) else decide (g b < g a)) := by
  rw [h, h]
  exact above_core1 _ _ _ _
theorem above_mk (a b : Int) : above a b = if prioN a = prioN b then decide (a < b) else decide (prioN b < prioN a) := rfl

/-- The mixing as the model reckons it. -/
theorem prio_eq (a : Int) :
    bits .xor .u64 (IntKind.u64.wrap ((bits .xor .u64 (IntKind.u64.wrap ((bits .xor .u64 (IntKind.u64.wrap ((IntKind.u64.wrap a) + 11400714819323198485)) ((IntKind.u64.wrap ((IntKind.u64.wrap a) + 11400714819323198485)) / 1073741824)) * 13787848793156543929)) ((IntKind.u64.wrap ((bits .xor .u64 (IntKind.u64.wrap ((IntKind.u64.wrap a) + 11400714819323198485)) ((IntKind.u64.wrap ((IntKind.u64.wrap a) + 11400714819323198485)) / 1073741824)) * 13787848793156543929)) / 134217728)) * 10723151780598845931)) ((IntKind.u64.wrap ((bits .xor .u64 (IntKind.u64.wrap ((bits .xor .u64 (IntKind.u64.wrap ((IntKind.u64.wrap a) + 11400714819323198485)) ((IntKind.u64.wrap ((IntKind.u64.wrap a) + 11400714819323198485)) / 1073741824)) * 13787848793156543929)) ((IntKind.u64.wrap ((bits .xor .u64 (IntKind.u64.wrap ((IntKind.u64.wrap a) + 11400714819323198485)) ((IntKind.u64.wrap ((IntKind.u64.wrap a) + 11400714819323198485)) / 1073741824)) * 13787848793156543929)) / 134217728)) * 10723151780598845931)) / 2147483648) = (prioN a : Int) := by
  have w0 : IntKind.u64.wrap ((IntKind.u64.wrap a) + 11400714819323198485) = ((((a % 18446744073709551616 + 11400714819323198485) % 18446744073709551616).toNat : Nat) : Int) := by
    rw [IntKind.wrap_u64, IntKind.wrap_u64]; omega
  have hx : ((a % 18446744073709551616 + 11400714819323198485) % 18446744073709551616).toNat < 18446744073709551616 := by omega
  rw [prioN_eq]
  unfold prioC
  generalize ((a % 18446744073709551616 + 11400714819323198485) % 18446744073709551616).toNat = x at *
  rw [w0]
  have s1 : IntKind.u64.wrap (bits .xor .u64 (x : Int) ((x : Int) / 1073741824) * 13787848793156543929) = ((stepN x 1073741824 13787848793156543929 : Nat) : Int) := mixStep_u64 x 1073741824 13787848793156543929 hx
  rw [s1]
  generalize hy : stepN x 1073741824 13787848793156543929 = y
  have hy' : y < 18446744073709551616 := by rw [← hy]; exact stepN_lt _ _ _
  have s2 : IntKind.u64.wrap (bits .xor .u64 (y : Int) ((y : Int) / 134217728) * 10723151780598845931) = ((stepN y 134217728 10723151780598845931 : Nat) : Int) := mixStep_u64 y 134217728 10723151780598845931 hy'
  rw [s2]
  generalize hz : stepN y 134217728 10723151780598845931 = z
  have hz' : z < 18446744073709551616 := by rw [← hz]; exact stepN_lt _ _ _
  have s3 : bits .xor .u64 (z : Int) ((z : Int) / 2147483648) = ((z ^^^ z / 2147483648 : Nat) : Int) := xorShift_u64 z 2147483648 hz'
  rw [s3]
  subst hz; subst hy; rfl

end Go.Proofs.Ytakgknoldkfekaa.Mix
