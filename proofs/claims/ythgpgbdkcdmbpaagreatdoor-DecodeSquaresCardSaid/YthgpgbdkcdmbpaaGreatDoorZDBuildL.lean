/- Joined texts: DBuildL. Conditions: each part names its own. -/
import Derived.Test.YthgpgbdkcdmbpaaGreatDoorZDBuild
import Derived.Test.YthgpgbdkcdmbpaaGreatDoorK8
/- Plain laws for DecodeSquares: what a square that is built gives. Conditions: none. -/
namespace Go.Proofs.YthgpgbdkcdmbpaaGreatDoor
set_option linter.unusedVariables false

variable {f prev g : FrameD} {x y qp k mo vx vy : Int} {ms L : List Int} {S : List (List Int)}
/-- what must hold that a square is built -/
structure Builds (f prev : FrameD) (x y qp k mo : Int) (ms : List Int) (vx vy : Int) : Prop where
  may : mayF f = true
  x8 : x.tmod 8 = 0
  y8 : y.tmod 8 = 0
  lies : liesD f.W f.H x y 8 = true
  q0 : 0 ≤ qp
  q1 : qp ≤ 15
  k0 : 0 ≤ k
  k1 : k ≤ 3
  mates : k ≤ 1 → matesB prev f.W f.H = true
theorem buildD_open (h : buildD f prev x y qp k mo ms vx vy L S = .ok g) :
    Builds f prev x y qp k mo ms vx vy ∧ partsC (formD k mo ms vx vy) (wideD k) (listsD k L S) = none ∧ g = laySq f prev x y qp ⟨k.toNat, mo.toNat, ms, vx, vy, L, S⟩ := by
  unfold buildD at h
  split at h
  · cases h
  · rename_i h1
    split at h
    · cases h
    · rename_i h2
      rw [Classical.not_not] at h2
      obtain ⟨a, b, c, d, e⟩ := h2
      split at h
      · cases h
      · rename_i h3
        rw [Classical.not_not] at h3
        split at h
        · cases h
        · rename_i h4
          split at h
          · cases h
          · rename_i h5
            injection h with h
            exact ⟨⟨by simpa using h1, a, b, c, d, e, h3.1, h3.2, fun hk => by cases hm : matesB prev f.W f.H with
              | true => rfl
              | false => exact absurd ⟨hk, hm⟩ h4⟩, h5, h.symm⟩
theorem buildD_close (h : Builds f prev x y qp k mo ms vx vy) (hp : partsC (formD k mo ms vx vy) (wideD k) (listsD k L S) = none) :
    buildD f prev x y qp k mo ms vx vy L S = .ok (laySq f prev x y qp ⟨k.toNat, mo.toNat, ms, vx, vy, L, S⟩) := by
  unfold buildD
  rw [if_neg (by rw [h.may]; simp), if_neg (by rw [Classical.not_not]; exact ⟨h.x8, h.y8, h.lies, h.q0, h.q1⟩), if_neg (by rw [Classical.not_not]; exact ⟨h.k0, h.k1⟩), if_neg (fun a => by rw [h.mates a.1] at a; exact absurd a.2 (by simp)), hp]
abbrev zL : List Int := List.replicate 64 0
abbrev zS : List (List Int) := [List.replicate 16 0, List.replicate 16 0, List.replicate 16 0, List.replicate 16 0]
theorem parts_zeros (h0 : 0 ≤ k) (h3 : k ≤ 3) {ok : Bool} {n : Int} (h : partsC ok n (listsD k L S) = none) : partsC ok (wideD k) (listsD k zL zS) = none := by
  have hok : ok = true := by
    cases ok with
    | true => rfl
    | false => simp [partsC] at h
  subst hok
  rcases (by omega : k = 0 ∨ k = 1 ∨ k = 2 ∨ k = 3) with rfl | rfl | rfl | rfl <;> decide +kernel
theorem zS_at (i : Nat) (hi : i < 4) : zS.getD i [] = List.replicate 16 0 := by
  match i, hi with
  | 0, _ => rfl
  | 1, _ => rfl
  | 2, _ => rfl
  | 3, _ => rfl
/-- levels that are all 0: alike for each quantiser -/
theorem buildD_zeros (h : buildD f prev x y qp k mo ms vx vy L S = .ok g) : ∃ a, buildD f prev x y qp k mo ms vx vy zL zS = .ok a ∧ buildD f prev x y 0 k mo ms vx vy zL zS = .ok a := by
  obtain ⟨h1, h2, -⟩ := buildD_open h
  have h3 := parts_zeros h1.k0 h1.k1 h2
  refine ⟨_, buildD_close h1 h3, ?_⟩
  rw [buildD_close (qp := 0) ⟨h1.may, h1.x8, h1.y8, h1.lies, by omega, by omega, h1.k0, h1.k1, h1.mates⟩ h3]
  exact congrArg Except.ok (laySq_zero f prev x y 0 qp ⟨k.toNat, mo.toNat, ms, vx, vy, zL, zS⟩ rfl zS_at)
/-- the frame that is built may be, of the same sides -/
theorem buildD_may (hm : ms.length = 4) (hls : S.length = 4) (h : buildD f prev x y qp k mo ms vx vy L S = .ok g) : FrOk f ∧ FrOk g ∧ g.W = f.W ∧ g.H = f.H ∧ g.pix.length = f.pix.length ∧ (k ≤ 1 → prev.pix.length = f.pix.length ∧ FrOk prev ∧ prev.W = f.W ∧ prev.H = f.H) := by
  obtain ⟨h1, h2, rfl⟩ := buildD_open h
  have hf : FrOk f := mayF_iff.1 h1.may
  obtain ⟨x0, x1, y0, y1⟩ := lies_iff h1.lies
  have hk := h1.k0
  have hk3 := h1.k1
  have hpr : k ≤ 1 → FrOk prev ∧ prev.W = f.W ∧ prev.H = f.H := fun hk1 => by
    have hma := h1.mates hk1
    unfold matesB at hma
    rw [Bool.and_eq_true, Bool.and_eq_true, mayF_iff, decide_eq_true_iff, decide_eq_true_iff] at hma
    exact ⟨hma.1.1, hma.1.2, hma.2⟩
  have hsm : SqMay ⟨k.toNat, mo.toNat, ms, vx, vy, L, S⟩ := sqMay_of (mo := mo) (by show k.toNat ≤ 3; omega) hm hls (fun hk2 => by
    have hk2' : k.toNat = 2 := hk2
    have : k = 2 := by omega
    subst this
    exact (mode_nonneg h2).1) (by show partsC (formD ((k.toNat : Nat) : Int) mo ms vx vy) (wideD ((k.toNat : Nat) : Int)) (listsD ((k.toNat : Nat) : Int) L S) = none; rw [Int.toNat_of_nonneg hk]; exact h2)
  have hg := laySq_may hf (s := ⟨k.toNat, mo.toNat, ms, vx, vy, L, S⟩) (prev := prev) (fun hk2 => (hpr (by have : k.toNat < 2 := hk2; omega)).1.sam) x0 x1 y0 y1 hsm qp
  have hw := laySq_W f prev x y qp ⟨k.toNat, mo.toNat, ms, vx, vy, L, S⟩
  refine ⟨hf, hg, hw.1, hw.2, ?_, fun hk1 => ?_⟩
  · have t1 := hg.len
    have t2 := hf.len
    rw [hw.1, hw.2] at t1
    omega
  · obtain ⟨a, b, c⟩ := hpr hk1
    have t1 := a.len
    have t2 := hf.len
    rw [b, c] at t1
    exact ⟨by omega, a, b, c⟩
/-- outside of the square nothing is changed; a square as the frame ahead has it is that one's -/
theorem buildD_pix {W H xn yn i : Nat} (hm : ms.length = 4) (hls : S.length = 4) (hW : f.W = (W : Int)) (hH : f.H = (H : Int)) (h : buildD f prev xn yn qp k mo ms vx vy L S = .ok g) :
    (¬ (xn ≤ i % W ∧ i % W < xn + 8 ∧ yn ≤ i / W ∧ i / W < yn + 8) → g.pix.getD i 0 = f.pix.getD i 0) ∧ (k = 0 → xn ≤ i % W ∧ i % W < xn + 8 ∧ yn ≤ i / W ∧ i / W < yn + 8 → g.pix.getD i 0 = prev.pix.getD i 0) := by
  obtain ⟨hf, -, -, -, -, hp⟩ := buildD_may hm hls h
  obtain ⟨h1, h2, rfl⟩ := buildD_open h
  obtain ⟨x0, x1, y0, y1⟩ := lies_iff h1.lies
  have hl := hf.len
  rw [hW] at x1
  rw [hH] at y1
  rw [hW, hH, ← Int.natCast_mul] at hl
  have hb : (yn + 8) * W ≤ f.pix.length := by
    have : (yn + 8) * W ≤ H * W := Nat.mul_le_mul_right _ (by omega)
    rw [Nat.mul_comm H W] at this
    omega
  refine ⟨fun hi => laySq_out hW (by omega) hb hi, fun hk hi => ?_⟩
  subst hk
  obtain ⟨-, -, e1, e2⟩ := hp (by omega)
  exact laySq_ahead rfl hW (e1.trans hW) (e2.trans hH) (by omega) (by omega) hb ⟨hi.1, hi.2.1⟩ hi.2.2
#print axioms buildD_pix
end Go.Proofs.YthgpgbdkcdmbpaaGreatDoor
