/- Joined texts: DCoefA. Conditions: each part names its own. -/
import Derived.Test.YthgpgbdkcdmbpaaGreatDoorZDLevel
import Derived.Test.YthgpgbdkcdmbpaaGreatDoorZDOrder
import Derived.Test.YthgpgbdkcdmbpaaGreatDoorK2
/- coef.Code as the decoder asks it. Conditions: the coder is a reader that may stand so; the list is of zeros. -/
namespace Go.Proofs.YthgpgbdkcdmbpaaGreatDoor
open Go.RowKit
set_option linter.unusedVariables false
set_option linter.unusedSimpArgs false

/-- what a list of levels is handed back as -/
def CoefP (lo hi R D : Nat) (bv : Value) (w : World) (r : Except Err (List Int) × Mod) (e : Ending) (w' : World) : Prop :=
  Only [R, D] w w' ∧ ModAt lo hi R D bv w' r.2 ∧ match r.1 with
    | .ok l => ∃ v, e = .returned (.tuple #[v, .nilIface]) ∧ Own .i64 3 w.heap.size w' v l
    | .error er => ∃ ev, e = .returned (.tuple #[.slice none 0 0, ev]) ∧ ErrV w.heap.size w'.heap.size w' ev er
theorem base_any4 (w : World) : Calls Tryz.prog 143 #[.int .i64 4] w fun e w' => e = .returned (.int .i64 14) ∧ w = w' := by
  go_enter Tryz.func143, Tryz.ntmps143
  go_wp2
  go_ret
  exact ⟨rfl, rfl⟩
theorem base_any8 (w : World) : Calls Tryz.prog 143 #[.int .i64 8] w fun e w' => e = .returned (.int .i64 39) ∧ w = w' := by
  go_enter Tryz.func143, Tryz.ntmps143
  go_wp2
  go_ret
  exact ⟨rfl, rfl⟩
theorem zeros_nz (n : Nat) : (List.replicate n (0 : Int)).any nzB = false := by
  rw [List.any_eq_false]
  intro x hx
  rw [(List.mem_replicate.1 hx).2]
  decide
theorem zeros_lev (n : Nat) : levB (List.replicate n (0 : Int)) = true := by
  unfold levB
  rw [List.all_eq_true]
  intro x hx
  rw [(List.mem_replicate.1 hx).2]
  decide

theorem zeros_at (n i : Nat) : (List.replicate n (0 : Int)).getD i 0 = 0 := by
  rw [List.getD_eq_getElem?_getD]
  cases h : (List.replicate n (0 : Int))[i]? with
  | none => rfl
  | some x => exact (List.mem_replicate.1 (List.mem_of_getElem? h)).2
theorem natI_at (l : List Nat) (i : Nat) : (natI l).getD i 0 = ((l.getD i 0 : Nat) : Int) := by
  unfold natI
  rw [List.getD_eq_getElem?_getD, List.getD_eq_getElem?_getD, List.getElem?_map]
  cases l[i]? <;> rfl
section
variable {base last a i : Nat} {rest : List Nat} {out : List Int} {m : Mod}
theorem coefGo_skip (hi : i < last) (hb : (bitD (base + 1 + min i 7) m).1 = false) : coefGo base last (a :: rest) i out m = coefGo base last rest (i + 1) out (bitD (base + 1 + min i 7) m).2 := by
  rw [coefGo, if_pos hi, if_neg (by rw [hb]; simp)]
theorem coefGo_bad (hi : i < last) (hb : (bitD (base + 1 + min i 7) m).1 = true) (hv : (levelD base (bitD (base + 1 + min i 7) m).2).1 < -16320 ∨ 16320 < (levelD base (bitD (base + 1 + min i 7) m).2).1) :
    coefGo base last (a :: rest) i out m = (.error ⟨[(sCoef, (i : Int))], 3⟩, (levelD base (bitD (base + 1 + min i 7) m).2).2) := by
  rw [coefGo, if_pos hi, if_pos hb, if_pos hv]
theorem coefGo_done (hi : i < last) (hb : (bitD (base + 1 + min i 7) m).1 = true) (hv : ¬ ((levelD base (bitD (base + 1 + min i 7) m).2).1 < -16320 ∨ 16320 < (levelD base (bitD (base + 1 + min i 7) m).2).1)) (he : (bitD (base + 9 + min i 7) (levelD base (bitD (base + 1 + min i 7) m).2).2).1 = true) :
    coefGo base last (a :: rest) i out m = (.ok (out.set a (levelD base (bitD (base + 1 + min i 7) m).2).1), (bitD (base + 9 + min i 7) (levelD base (bitD (base + 1 + min i 7) m).2).2).2) := by
  rw [coefGo, if_pos hi, if_pos hb, if_neg hv, if_pos he]
theorem coefGo_more (hi : i < last) (hb : (bitD (base + 1 + min i 7) m).1 = true) (hv : ¬ ((levelD base (bitD (base + 1 + min i 7) m).2).1 < -16320 ∨ 16320 < (levelD base (bitD (base + 1 + min i 7) m).2).1)) (he : (bitD (base + 9 + min i 7) (levelD base (bitD (base + 1 + min i 7) m).2).2).1 = false) :
    coefGo base last (a :: rest) i out m = coefGo base last rest (i + 1) (out.set a (levelD base (bitD (base + 1 + min i 7) m).2).1) (bitD (base + 9 + min i 7) (levelD base (bitD (base + 1 + min i 7) m).2).2).2 := by
  rw [coefGo, if_pos hi, if_pos hb, if_neg hv, if_neg (by rw [he]; simp)]
theorem coefGo_bad' (hi : ¬ i < last) (hv : (levelD base m).1 < -16320 ∨ 16320 < (levelD base m).1) : coefGo base last (a :: rest) i out m = (.error ⟨[(sCoef, (i : Int))], 3⟩, (levelD base m).2) := by
  rw [coefGo, if_neg hi, if_pos hv]
theorem coefGo_more' (hi : ¬ i < last) (hv : ¬ ((levelD base m).1 < -16320 ∨ 16320 < (levelD base m).1)) : coefGo base last (a :: rest) i out m = coefGo base last rest (i + 1) (out.set a (levelD base m).1) (levelD base m).2 := by
  rw [coefGo, if_neg hi, if_neg hv]
end
theorem Only.three {R D g : Nat} {a b c : World} (h : Only [R, D, g] a b) (k : Only [R, D] b c) : Only [R, D, g] a c :=
  h.trans k (fun x h _ => h) (fun x h _ => by simp only [List.mem_cons, List.not_mem_nil, or_false] at h ⊢; rcases h with h | h <;> simp [h])
theorem Only.third {R D g : Nat} {a b c : World} (h : Only [R, D, g] a b) (k : Only [g] b c) : Only [R, D, g] a c :=
  h.trans k (fun x h _ => h) (fun x h _ => by rw [List.mem_singleton] at h; simp [h])
/-- what the call made itself falls away -/
theorem Only.own3 {R D g : Nat} {a b c : World} (h : Only [R, D] a b) (k : Only [R, D, g] b c) (hg : a.heap.size ≤ g) : Only [R, D] a c :=
  h.trans k (fun x h _ => h) (fun x h hlt => by simp only [List.mem_cons, List.not_mem_nil, or_false] at h ⊢; rcases h with h | h | h; exact .inl h; exact .inr h; omega)
end Go.Proofs.YthgpgbdkcdmbpaaGreatDoor
