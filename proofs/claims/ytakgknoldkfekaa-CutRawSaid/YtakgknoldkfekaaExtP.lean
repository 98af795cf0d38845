/- Whatever is cut, no record that was is another one. Plain Lean. -/
import Derived.Test.YtakgknoldkfekaaExact
namespace Go.Proofs.Ytakgknoldkfekaa
set_option maxRecDepth 100000
open Go.Proofs.Ytakgknoldkfekaa.Mix

def Later (a : Ar) (A : OA) : Prop := ∃ a', A = some a' ∧ Ext a a'
theorem Later.refl (a : Ar) : Later a (some a) := ⟨a, rfl, Ext.refl a⟩
theorem makeN_later (a : Ar) (k v l r : Int) : Later a (makeN (some a) k v l r).2.2 := by
  unfold makeN
  split
  · exact Later.refl a
  · show Later a (if _ then _ else _ : Int × Int × OA).2.2
    split
    · exact Later.refl a
    · unfold addA
      split
      · exact Later.refl a
      · exact ⟨_, rfl, rfl, rfl, _, rfl⟩
theorem then_later {a : Ar} {R : Int × Int × OA} (h : Later a R.2.2) (k v : Int) (f g : OA → Int) : Later a (if R.2.1 = 0 then makeN R.2.2 k v (f R.2.2) (g R.2.2) else (0, R.2)).2.2 := by
  obtain ⟨a', e, x⟩ := h
  split
  · rw [e]
    obtain ⟨b, e2, x2⟩ := makeN_later a' k v (f (some a')) (g (some a'))
    exact ⟨b, e2, x.trans x2⟩
  · exact ⟨a', e, x⟩
theorem mergeF_later (a : Ar) : ∀ (n : Nat) (l r : Int), Later a (mergeF n (some a) l r).2.2
  | 0, _, _ => Later.refl a
  | n + 1, l, r => by
    simp only [mergeF]
    split
    · exact Later.refl a
    · split
      · exact Later.refl a
      · split
        · exact then_later (mergeF_later a n _ _) _ _ (fun A => hangO A l (getN (some a) l).left) (fun _ => _)
        · exact then_later (mergeF_later a n _ _) _ _ (fun _ => _) (fun A => hangO A r (getN (some a) r).right)
theorem cutF_later (a : Ar) : ∀ (n : Nat) (t key : Int), Later a (cutF n (some a) t key).2.2
  | 0, _, _ => Later.refl a
  | n + 1, t, key => by
    simp only [cutF]
    split
    · exact Later.refl a
    · split
      · exact mergeF_later a _ _ _
      · split
        · exact then_later (cutF_later a n _ _) _ _ (fun _ => _) (fun _ => _)
        · exact then_later (cutF_later a n _ _) _ _ (fun _ => _) (fun _ => _)
theorem cutO_later (a : Ar) (t key : Int) : Later a (cutO (some a) t key).2.2.2.2 := by
  unfold cutO
  split
  · exact Later.refl a
  · split
    · exact Later.refl a
    · split
      · exact cutF_later a _ _ _
      · exact cutF_later a _ _ _

end Go.Proofs.Ytakgknoldkfekaa
