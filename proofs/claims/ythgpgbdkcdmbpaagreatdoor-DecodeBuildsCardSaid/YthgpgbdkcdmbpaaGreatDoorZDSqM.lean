/- A square whose parts decode.parts does not refuse may be laid. Conditions: none. -/
import Derived.Test.YthgpgbdkcdmbpaaGreatDoorZDPartsW
import Derived.Test.YthgpgbdkcdmbpaaGreatDoorS4
namespace Go.Proofs.YthgpgbdkcdmbpaaGreatDoor
set_option linter.unusedVariables false
theorem nchk_ok {l : List Int} (h : nchkB l = false) : LevOk l := by
 unfold nchkB checkL at h
 split at h
 ·simp at h
 ·cases hb : levB l with
  | false => simp [hb] at h
  | true =>
   intro x hx
   have := List.all_eq_true.1 hb x hx
   simpa using this
theorem sqMay_of {s : SqD} {mo : Int} (hk : s.kind ≤ 3) (hml : s.modes.length = 4) (hsl : s.small.length = 4) (hmo : s.kind = 2 → mo = s.mode)
  (h : partsC (formD s.kind mo s.modes s.vx s.vy) (wideD s.kind) (listsD s.kind s.large s.small) = none) : SqMay s := by
 unfold partsC at h
 split at h
 ·cases h
 ·split at h
  ·cases h
  ·split at h
   ·cases h
   ·rename_i h1 h2 h3
    simp only [Bool.not_eq_false, Bool.not_eq_true, List.any_eq_false] at h1 h2 h3
    refine ⟨hk, fun k2 => ?_, fun k12 => ?_, fun k1 => ?_, fun k3 => ?_⟩
    ·rw [k2] at h1
     simp [formD] at h1
     have := hmo k2
     omega
    ·have hl : listsD s.kind s.large s.small = [s.large] := by rcases k12 with e | e <;> simp [listsD, e]
     have hw : wideD s.kind = 64 := by rcases k12 with e | e <;> simp [wideD, e]
     rw [hl] at h2 h3
     rw [hw] at h2
     have a := h2 s.large (by simp)
     have b := h3 s.large (by simp)
     simp [nlenB] at a
     exact ⟨by omega, nchk_ok (by simpa using b)⟩
    ·rw [k1] at h1
     simp [formD, vpartB] at h1
     omega
    ·have hl : listsD s.kind s.large s.small = [s.small.getD 0 [], s.small.getD 1 [], s.small.getD 2 [], s.small.getD 3 []] := by simp [listsD, k3]
     have hw : wideD s.kind = 16 := by simp [wideD, k3]
     rw [hl] at h2 h3
     rw [hw] at h2
     obtain ⟨a, b, c, d, hs⟩ := len4 hsl
     rw [hs] at h2 h3 ⊢
     rw [k3] at h1
     simp [formD, nmodeB] at h1
     refine ⟨hml, rfl, fun x hx => ?_, fun l hl' => ?_⟩
     ·have := h1 x hx
      omega
     ·have e2 := h2 l (by simpa using hl')
      have e3 := h3 l (by simpa using hl')
      simp [nlenB] at e2
      exact ⟨by omega, nchk_ok (by simpa using e3)⟩
end Go.Proofs.YthgpgbdkcdmbpaaGreatDoor
