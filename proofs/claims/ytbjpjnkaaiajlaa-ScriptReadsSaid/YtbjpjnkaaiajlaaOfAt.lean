/- The reference's Of at a place of some bytes. -/
import Derived.Test.YtbjpjnkaaiajlaaRdAt
import Derived.Test.YtbjpjnkaaiajlaaWireNum
namespace Go.Proofs.Ytbjpjnkaaiajlaa
open Go.RowKit

theorem segB_rds {w : World} {b o : Nat} {xs : List Nat} {c : Nat} (h : Rds w 1 (.slice (some ⟨b, o, none⟩) xs.length c) xs.length (bytesV xs)) (p k : Nat) (hp : p + k ≤ xs.length) (c' : Nat) : Rds w 1 (.slice (some ⟨b, o + p, none⟩) (segB xs p k).length c') (segB xs p k).length (bytesV (segB xs p k)) := by
  have h1 := Rds.dropB h (n := p) (by omega) c'
  have h2 := Rds.takeB h1 (n := k) (by rw [List.length_drop]; omega) c'
  have e : k = (segB xs p k).length := (segB_len hp).symm
  have h3 : Rds w 1 (.slice (some ⟨b, o + p, none⟩) k c') k (bytesV (segB xs p k)) := h2
  rw [e] at h3
  rwa [← e] at h3 ⊢

theorem of_at {w : World} {b o : Nat} {xs : List Nat} {c : Nat} (h : Rds w 1 (.slice (some ⟨b, o, none⟩) xs.length c) xs.length (bytesV xs)) (hs : ∀ x ∈ xs, x < 256) (p k : Nat) (hp : p + k ≤ xs.length) (hk : k ≤ 8) (c' : Nat) :
    Calls Try.prog 44 #[.slice (some ⟨b, o + p, none⟩) k c'] w fun e w' => e = .returned (.int .u64 (numAt xs p k : Nat)) ∧ w = w' := by
  have h1 := rof_any (segB xs p k) (some ⟨b, o + p, none⟩) c' w (by rw [segB_len hp]; exact hk) (segB_small hs p k) (segB_rds h p k hp c')
  rw [segB_len hp] at h1
  rw [numAt_in hp]
  exact h1

end Go.Proofs.Ytbjpjnkaaiajlaa
