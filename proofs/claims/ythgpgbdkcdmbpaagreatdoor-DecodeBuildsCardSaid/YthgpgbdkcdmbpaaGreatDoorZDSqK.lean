/- A square that may be laid keeps a frame that may be. Conditions: the place lies in the frame. -/
import Derived.Test.YthgpgbdkcdmbpaaGreatDoorZDSqM
namespace Go.Proofs.YthgpgbdkcdmbpaaGreatDoor
set_option linter.unusedVariables false
theorem laySq_may {f prev : FrameD} (h : FrOk f) {s : SqD} (g : s.kind < 2 → SamOk prev.pix) {x y : Int} (hx : 0 ≤ x) (hxn : x + 8 ≤ f.W) (hy : 0 ≤ y) (hyn : y + 8 ≤ f.H) (hs : SqMay s) (qp : Int) : FrOk (laySq f prev x y qp s) := by
 unfold laySq
 split
 ·rename_i h0
  exact layD_ok h hx hxn hy hyn (blockD_len _ _ _ _ _ _) (blockD_in (g (by omega)) _ _ _ _ _)
 rename_i h0
 split
 ·rename_i h1
  refine layD_ok h hx hxn hy hyn ?_ (addD_in _ _ _)
  rw [addD_len (by rw [blockD_len, (hs.large (.inl h1)).1]), blockD_len]
 rename_i h1
 split
 ·rename_i h2
  exact oneD_ok (n := 8) h hx hxn hy hyn (hs.large (.inr h2)).1 (by omega) _ _
 ·rename_i h2
  have h3 : s.kind = 3 := by have := hs.kind; omega
  obtain ⟨a, b, c, d⟩ := hs.small h3
  have step : ∀ (g : FrameD) (i : Nat), i < 4 → FrOk g → g.W = f.W → g.H = f.H → FrOk (smallD x y qp s g i) ∧ (smallD x y qp s g i).W = f.W ∧ (smallD x y qp s g i).H = f.H := by
   intro g i hi hg hgw hgh
   refine ⟨(show FrOk (oneD g (x + ((i % 2 : Nat) : Int) * 4) (y + ((i / 2 : Nat) : Int) * 4) 4 (s.modes.getD i 0) qp (s.small.getD i [])) from oneD_ok hg (by omega) (by omega) (by omega) (by omega) ?_ (by omega) _ _), hgw, hgh⟩
   exact (d (s.small.getD i []) (by rw [List.getD_eq_getElem?_getD, List.getElem?_eq_getElem (by omega)]; exact List.getElem_mem _)).1
  obtain ⟨h0, w0, e0⟩ := step f 0 (by omega) h rfl rfl
  obtain ⟨h1', w1, e1⟩ := step _ 1 (by omega) h0 w0 e0
  obtain ⟨h2', w2, e2⟩ := step _ 2 (by omega) h1' w1 e1
  exact (step _ 3 (by omega) h2' w2 e2).1
end Go.Proofs.YthgpgbdkcdmbpaaGreatDoor
