/- The field of bytes: products by shifts and sums, over natural numbers. -/
namespace Go.Proofs.Ytkgijkfcmbpgpaa.Giv
def Lin (f : Nat → Nat) : Prop := ∀ x y, f (x ^^^ y) = f x ^^^ f y
theorem xor4 (a b c d : Nat) : (a ^^^ b) ^^^ (c ^^^ d) = (a ^^^ c) ^^^ (b ^^^ d) := by
  rw [Nat.xor_assoc, Nat.xor_assoc]; congr 1; rw [← Nat.xor_assoc, ← Nat.xor_assoc, Nat.xor_comm b c]
theorem Lin.zero {f : Nat → Nat} (h : Lin f) : f 0 = 0 := by
  have := h 0 0
  simpa using this
theorem Lin.xor {f g : Nat → Nat} (hf : Lin f) (hg : Lin g) : Lin fun x => f x ^^^ g x := fun x y => by
  show f (x ^^^ y) ^^^ g (x ^^^ y) = _; rw [hf, hg, xor4]
theorem Lin.shl (k : Nat) : Lin fun x => x <<< k := fun _ _ => Nat.shiftLeft_xor_distrib
theorem Lin.shr (k : Nat) : Lin fun x => x >>> k := fun _ _ => Nat.shiftRight_xor_distrib
theorem Lin.id : Lin fun x => x := fun _ _ => rfl
end Go.Proofs.Ytkgijkfcmbpgpaa.Giv
