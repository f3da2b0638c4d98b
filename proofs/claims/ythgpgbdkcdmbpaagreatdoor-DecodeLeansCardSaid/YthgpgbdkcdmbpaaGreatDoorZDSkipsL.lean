/- Joined texts: DSkipsL. Conditions: each part names its own. -/
import Derived.Test.YthgpgbdkcdmbpaaGreatDoorZDOwnF
/- Coded frames, one behind the other: skips, a flat one. Conditions: none. -/
namespace Go.Proofs.YthgpgbdkcdmbpaaGreatDoor
open Go.RowKit
set_option linter.unusedVariables false
set_option linter.unusedSimpArgs false

def skipC : Coded := ⟨3, []⟩
def flatC : Coded := ⟨4, []⟩
theorem newB_of {f : FrameD} (h : FrOk f) : newB f.W f.H 128 = true := newB_iff.2 ⟨⟨h.w0, h.w1, h.w8⟩, ⟨h.h0, h.h1, h.h8⟩, by omega, by omega⟩
theorem frameD_skipped {f : FrameD} {W H : Int} (h : FrOk f) (hw : f.W = W) (hh : f.H = H) : frameD skipC f W H = .ok f := by
  subst hw; subst hh
  have hm : matesB f f.W f.H = true := by unfold matesB; rw [mayF_iff.2 h]; simp
  unfold frameD
  rw [if_neg (by rw [newB_of h]; simp), show readB skipC = none from rfl]
  simp only
  rw [if_neg (by rw [hm]; simp), if_neg (by simp [skipC]), if_pos (show skipC.kind = 3 from rfl)]
theorem frameD_flatted {f : FrameD} {W H : Int} (h : newB W H 128 = true) : frameD flatC f W H = .ok (newF W H 128) := by
  unfold frameD
  rw [if_neg (by rw [h]; simp), show readB flatC = none from rfl]
  simp only
  rw [if_neg (by simp [flatC]), if_pos (show flatC.kind = 4 from rfl)]
theorem framesGo_skips {W H : Int} {f : FrameD} (h : FrOk f) (hw : f.W = W) (hh : f.H = H) : ∀ (n i : Nat) (acc : List FrameD), framesGo W H (List.replicate n skipC ++ [flatC]) i f acc = .ok (acc ++ List.replicate n f ++ [newF W H 128])
  | 0, i, acc => by
    subst hw; subst hh
    rw [List.replicate_zero, List.nil_append, framesGo_more (frameD_flatted (newB_of h)), framesGo, List.replicate_zero, List.append_nil]
  | n + 1, i, acc => by
    rw [List.replicate_succ, List.cons_append, framesGo_more (frameD_skipped h hw hh), framesGo_skips h hw hh n (i + 1) (acc ++ [f])]
    congr 2
    rw [List.append_assoc]
    rfl
/-- what the law's list of coded frames means -/
theorem framesD_skips {c : Coded} {n : Nat} {W H : Int} (hd : ∀ x ∈ c.data, InK .u8 x) (hn : n + 2 ≤ 16) :
    (∀ f, frameD c frame0 W H = .ok f → framesD ([c] ++ List.replicate n skipC ++ [flatC]) W H = .ok (List.replicate (n + 1) f ++ [newF W H 128])) ∧ (∀ e, frameD c frame0 W H = .error e → framesD ([c] ++ List.replicate n skipC ++ [flatC]) W H = .error (inE sFrames 0 e)) := by
  have hl : ¬ 16 < ([c] ++ List.replicate n skipC ++ [flatC]).length := by simp; omega
  have hb := frameD_both (c := c) (prev := frame0) (w := W) (h := H) hd
  have e0 : framesD ([c] ++ List.replicate n skipC ++ [flatC]) W H = framesGo W H (c :: (List.replicate n skipC ++ [flatC])) 0 frame0 [] := by
    unfold framesD
    rw [if_neg hl]
    rfl
  refine ⟨fun f hf => ?_, fun e he => ?_⟩
  · obtain ⟨hok, hw, hh⟩ := hb.1 f hf
    rw [e0, framesGo_more hf, framesGo_skips hok hw hh]
    rfl
  · rw [e0, framesGo_bad he]; rfl
#print axioms framesD_skips
end Go.Proofs.YthgpgbdkcdmbpaaGreatDoor
