/- Joined texts: DKFrs. Conditions: each part names its own. -/
import Derived.Test.YthgpgbdkcdmbpaaGreatDoorZDFrames
/- kinref.Frames of equal lists; parts of lists in memory. Conditions: the lists read. -/
namespace Go.Proofs.YthgpgbdkcdmbpaaGreatDoor
open Go.RowKit
set_option linter.unusedVariables false
set_option linter.unusedSimpArgs false

set_option maxRecDepth 100000 in
set_option maxHeartbeats 4000000 in
theorem kframes_same {lo hi lo' hi' : Nat} {v u : Value} {l : List FrameD} {w : World} (h : FramesAt lo hi w v l) (g : FramesAt lo' hi' w u l) :
    Calls Tryz.prog 17 #[v, u] w fun e w' => e = .returned (.bool true) ∧ Only [] w w' := by
  suffices key : ∀ Q : Ending → World → Prop, Hid (∀ e w', (e = .returned (.bool true) ∧ Only [] w w') → Q e w') → Calls Tryz.prog 17 #[v, u] w Q from key _ (Lib.hid fun _ _ h => h)
  intro Q HPost
  obtain ⟨a, cap, rfl, _, hmax, hel⟩ := h.open
  obtain ⟨a', cap', rfl, _, _, hel'⟩ := g.open
  have hll : (l.length : Int) ≤ 9223372036854775807 := by unfold maxLen at hmax; omega
  have Hh := Lib.hid hel
  have Hg := Lib.hid hel'
  clear h g hel hel' hmax
  go_enter Tryz.func17, Tryz.ntmps17
  go_wp2_with fail
  go_loopw [5, 17] (fun i _ wr => ∃ k : Nat, k ≤ l.length ∧ i = .int .i64 k ∧ Hid (Only [] w wr)) (fun i _ _ => l.length - (intOf i).toNat)
  case atStart => exact ⟨0, by omega, rfl, Lib.hid (Only.refl _ _)⟩
  case round =>
    obtain ⟨k, hk, rfl, HQk⟩ := hrel
    by_cases hlt : k < l.length
    · have hki : (k : Int) < (l.length : Int) := by omega
      have hk0 : (0 : Int) ≤ (k : Int) := by omega
      obtain ⟨b, off, dv, rfl, _, _, c0, c1, c2, hd⟩ := Hh.out k hlt
      obtain ⟨b', off', dv', rfl, _, _, c0', c1', c2', hd'⟩ := Hg.out k hlt
      generalize l.getD k default = x at *
      have d0 := HQk.out.cell c0 (by simp)
      have d1 := HQk.out.cell c1 (by simp)
      have d2 := HQk.out.cell c2 (by simp)
      have d3 := HQk.out.cell c0' (by simp)
      have d4 := HQk.out.cell c1' (by simp)
      have d5 := HQk.out.cell c2' (by simp)
      have hcmp := fun (wx : World) (o : Only [] w wx) => kframe_any (A := x) (B := x) (hd.quiet o) (hd'.quiet o)
      rw [show frEq x x = true by simp [frEq, eqB]] at hcmp
      have HCm := Lib.hid hcmp
      obtain ⟨pa, pcap, rfl, -⟩ := hd.open
      obtain ⟨qa, qcap, rfl, -⟩ := hd'.open
      clear c0 c1 c2 c0' c1' c2' hd hd' hcmp
      go_wp2_with fail
      refine wp_region_held_drew (S := (fun w' => w'.cell? ⟨b, off + k * 3, none⟩ = some (.int .i64 x.W) ∧ w'.cell? ⟨b, off + k * 3 + 1, none⟩ = some (.int .i64 x.H) ∧ w'.cell? ⟨b, off + k * 3 + 2, none⟩ = some (.slice pa x.pix.length pcap) ∧ w'.cell? ⟨b', off' + k * 3, none⟩ = some (.int .i64 x.W) ∧ w'.cell? ⟨b', off' + k * 3 + 1, none⟩ = some (.int .i64 x.H) ∧ w'.cell? ⟨b', off' + k * 3 + 2, none⟩ = some (.slice qa x.pix.length qcap))) (by kernel_rfl) ?_ (fun hHeld => ?_)
      · exact ⟨d0, d1, d2, d3, d4, d5⟩
      refine wpAnyH_take (i := 0) (oi := ⟨some 17, _, _, _, _, _⟩) (v := ?_) rfl (by kernel_rfl) (by kernel_rfl) (by kernel_rfl) (fun _ _ _ h => h) (Or.inl ⟨by rfl, ?_⟩) (by assumption) ?_
      rotate_left
      · (intro wz hSw; (try dsimp only at hSw); obtain ⟨hS0, hS1, hS2, hS3, hS4, hS5⟩ := hSw; go_simp; try with_reducible rfl)
      try simp only [Act.put, List.setIfInBounds_toArray, List.set_cons_zero, List.set_cons_succ]
      refine wpAnyH_take (i := 1) (oi := ⟨some 18, _, _, _, _, _⟩) (v := ?_) rfl (by kernel_rfl) (by kernel_rfl) (by kernel_rfl) (fun _ _ _ h => h) (Or.inl ⟨by rfl, ?_⟩) (by assumption) ?_
      rotate_left
      · (intro wz hSw; (try dsimp only at hSw); obtain ⟨hS0, hS1, hS2, hS3, hS4, hS5⟩ := hSw; go_simp; try with_reducible rfl)
      try simp only [Act.put, List.setIfInBounds_toArray, List.set_cons_zero, List.set_cons_succ]
      refine wpAnyH_take (i := 2) (oi := ⟨some 19, _, _, _, _, _⟩) (v := ?_) rfl (by kernel_rfl) (by kernel_rfl) (by kernel_rfl) (fun _ _ _ h => h) (Or.inl ⟨by rfl, ?_⟩) (by assumption) ?_
      rotate_left
      · (intro wz hSw; (try dsimp only at hSw); obtain ⟨hS0, hS1, hS2, hS3, hS4, hS5⟩ := hSw; go_simp; try with_reducible rfl)
      try simp only [Act.put, List.setIfInBounds_toArray, List.set_cons_zero, List.set_cons_succ]
      refine wpAnyH_take (i := 3) (oi := ⟨some 20, _, _, _, _, _⟩) (v := ?_) rfl (by kernel_rfl) (by kernel_rfl) (by kernel_rfl) (fun _ _ _ h => h) (Or.inl ⟨by rfl, ?_⟩) (by assumption) ?_
      rotate_left
      · (intro wz hSw; (try dsimp only at hSw); obtain ⟨hS0, hS1, hS2, hS3, hS4, hS5⟩ := hSw; go_simp; try with_reducible rfl)
      try simp only [Act.put, List.setIfInBounds_toArray, List.set_cons_zero, List.set_cons_succ]
      refine wpAnyH_take (i := 4) (oi := ⟨some 21, _, _, _, _, _⟩) (v := ?_) rfl (by kernel_rfl) (by kernel_rfl) (by kernel_rfl) (fun _ _ _ h => h) (Or.inl ⟨by rfl, ?_⟩) (by assumption) ?_
      rotate_left
      · (intro wz hSw; (try dsimp only at hSw); obtain ⟨hS0, hS1, hS2, hS3, hS4, hS5⟩ := hSw; go_simp; try with_reducible rfl)
      try simp only [Act.put, List.setIfInBounds_toArray, List.set_cons_zero, List.set_cons_succ]
      refine wpAnyH_take (i := 5) (oi := ⟨some 22, _, _, _, _, _⟩) (v := ?_) rfl (by kernel_rfl) (by kernel_rfl) (by kernel_rfl) (fun _ _ _ h => h) (Or.inl ⟨by rfl, ?_⟩) (by assumption) ?_
      rotate_left
      · (intro wz hSw; (try dsimp only at hSw); obtain ⟨hS0, hS1, hS2, hS3, hS4, hS5⟩ := hSw; go_simp; try with_reducible rfl)
      try simp only [Act.put, List.setIfInBounds_toArray, List.set_cons_zero, List.set_cons_succ]
      refine wpAnyH_take (i := 6) (oi := ⟨some 23, _, _, _, _, _⟩) (v := ?_) rfl (by kernel_rfl) (by kernel_rfl) (by kernel_rfl) (fun _ _ _ h => h) (Or.inl ⟨by rfl, ?_⟩) (by assumption) ?_
      rotate_left
      · (intro wz hSw; (try dsimp only at hSw); obtain ⟨hS0, hS1, hS2, hS3, hS4, hS5⟩ := hSw; go_simp; try with_reducible rfl)
      try simp only [Act.put, List.setIfInBounds_toArray, List.set_cons_zero, List.set_cons_succ]
      refine wpAnyH_take (i := 7) (oi := ⟨some 24, _, _, _, _, _⟩) (v := ?_) rfl (by kernel_rfl) (by kernel_rfl) (by kernel_rfl) (fun _ _ _ h => h) (Or.inl ⟨by rfl, ?_⟩) (by assumption) ?_
      rotate_left
      · (intro wz hSw; (try dsimp only at hSw); obtain ⟨hS0, hS1, hS2, hS3, hS4, hS5⟩ := hSw; go_simp; try with_reducible rfl)
      try simp only [Act.put, List.setIfInBounds_toArray, List.set_cons_zero, List.set_cons_succ]
      refine wpAnyH_ready (rs := [8]) (by kernel_rfl) (by simp) (AllReadyH.cons (o := ⟨some 25, _, _, _, _, _⟩) rfl (fun K hK => ?_) AllReadyH.nil)
      go_simp
      go_at_call 21
      refine (HCm.out wr.drew HQk.out.drew).mono ?_
      rintro e wn ⟨rfl, hqn⟩
      have HQn := Lib.hid ((Only.refl [] wr).drew.q hqn)
      have e0 := HQn.out.cell d0 (by simp)
      have e1 := HQn.out.cell d1 (by simp)
      have e2 := HQn.out.cell d2 (by simp)
      have e3 := HQn.out.cell d3 (by simp)
      have e4 := HQn.out.cell d4 (by simp)
      have e5 := HQn.out.cell d5 (by simp)
      clear hqn
      refine hK.out _ _ ?_ (fun hHeld => ?_)
      · exact ⟨e0, e1, e2, e3, e4, e5⟩
      clear hK K
      try simp only [Act.put, List.setIfInBounds_toArray, List.set_cons_zero, List.set_cons_succ]
      refine wpAnyH_take (i := 9) (oi := ⟨some 26, _, _, _, _, _⟩) (v := ?_) rfl (by kernel_rfl) (by kernel_rfl) (by kernel_rfl) (fun _ _ _ h => h) (Or.inl ⟨by rfl, ?_⟩) (by assumption) ?_
      rotate_left
      · (intro wz hSw; (try dsimp only at hSw); obtain ⟨hS0, hS1, hS2, hS3, hS4, hS5⟩ := hSw; go_simp; try with_reducible rfl)
      try simp only [Act.put, List.setIfInBounds_toArray, List.set_cons_zero, List.set_cons_succ]
      refine wpAnyH_done (by kernel_rfl) ?_ _
      go_wp2_with fail
      exact ⟨⟨k + 1, by omega, by go_num, Lib.hid (HQk.out.q HQn.out)⟩, by simp [intOf]; omega⟩
    · obtain rfl : k = l.length := by omega
      have hx : ¬ (l.length : Int) < (l.length : Int) := by omega
      go_wp2_with fail
      exact HPost.out _ _ ⟨rfl, HQk.out⟩
#print axioms kframes_same
/-- the rest of a slice of rows -/
theorem Rows.drop {size lo hi : Nat} {w : World} {b off n cap : Nat} {f : Nat → Nat → Value} (h : Rows size lo hi w (.slice (some ⟨b, off, none⟩) n cap) n f) {k : Nat} (hk : k < n) : Rows size lo hi w (.slice (some ⟨b, off + k * size, none⟩) (n - k) (cap - k)) (n - k) (fun i j => f (k + i) j) := by
  obtain ⟨a, cap', e, h3, h4, h5⟩ := h
  injection e with e1 e2 e3
  subst e3
  obtain ⟨b', off', e', hl, hh, hc⟩ := h5 (by omega)
  rw [e'] at e1
  injection e1 with e1
  injection e1 with e4 e5
  subst e4; subst e5
  refine ⟨_, _, rfl, by omega, by omega, fun _ => ⟨b, off + k * size, rfl, hl, hh, fun i j hi hj => ?_⟩⟩
  have := hc (k + i) j (by omega) hj
  rw [show off + k * size + i * size + j = off + (k + i) * size + j by rw [Nat.add_mul]; omega]
  exact this
/-- the first elements of a slice of rows -/
theorem Rows.take {size lo hi : Nat} {w : World} {a : Option Addr} {n cap : Nat} {f : Nat → Nat → Value} (h : Rows size lo hi w (.slice a n cap) n f) {k : Nat} (hk : k ≤ n) : Rows size lo hi w (.slice a k cap) k f := by
  obtain ⟨a', cap', e, h3, h4, h5⟩ := h
  injection e with e1 e2 e3
  subst e1; subst e3
  refine ⟨_, _, rfl, by omega, h4, fun hp => ?_⟩
  obtain ⟨b, off, e', hl, hh, hc⟩ := h5 (by omega)
  exact ⟨b, off, e', hl, hh, fun i j hi hj => hc i j (by omega) hj⟩
theorem FramesAt.drop {lo hi : Nat} {w : World} {b off cap : Nat} {l : List FrameD} (h : FramesAt lo hi w (.slice (some ⟨b, off, none⟩) l.length cap) l) {k : Nat} (hk : k < l.length) : FramesAt lo hi w (.slice (some ⟨b, off + k * 3, none⟩) (l.length - k) (cap - k)) (l.drop k) := by
  obtain ⟨f, h1, h2⟩ := h
  refine ⟨_, by rw [List.length_drop]; exact h1.drop hk, fun i hi => ?_⟩
  rw [List.length_drop] at hi
  have := h2 (k + i) (by omega)
  rw [show (l.drop k).getD i default = l.getD (k + i) default by rw [List.getD_eq_getElem?_getD, List.getElem?_drop, List.getD_eq_getElem?_getD]]
  exact this
theorem FramesAt.take {lo hi : Nat} {w : World} {a : Option Addr} {cap : Nat} {l : List FrameD} (h : FramesAt lo hi w (.slice a l.length cap) l) {k : Nat} (hk : k ≤ l.length) : FramesAt lo hi w (.slice a k cap) (l.take k) := by
  obtain ⟨f, h1, h2⟩ := h
  have hl : (l.take k).length = k := by rw [List.length_take]; omega
  refine ⟨f, by rw [hl]; exact h1.take hk, fun i hi => ?_⟩
  rw [hl] at hi
  have := h2 i (by omega)
  rw [show (l.take k).getD i default = l.getD i default by rw [List.getD_eq_getElem?_getD, List.getElem?_take, if_pos hi, List.getD_eq_getElem?_getD]]
  exact this
theorem CodedsAt.drop {lo hi : Nat} {w : World} {b off cap : Nat} {l : List Coded} (h : CodedsAt lo hi w (.slice (some ⟨b, off, none⟩) l.length cap) l) {k : Nat} (hk : k < l.length) : CodedsAt lo hi w (.slice (some ⟨b, off + k * 2, none⟩) (l.length - k) (cap - k)) (l.drop k) := by
  obtain ⟨f, h1, h2⟩ := h
  refine ⟨_, by rw [List.length_drop]; exact h1.drop hk, fun i hi => ?_⟩
  rw [List.length_drop] at hi
  have := h2 (k + i) (by omega)
  rw [show (l.drop k).getD i default = l.getD (k + i) default by rw [List.getD_eq_getElem?_getD, List.getElem?_drop, List.getD_eq_getElem?_getD]]
  exact this
theorem CodedsAt.take {lo hi : Nat} {w : World} {a : Option Addr} {cap : Nat} {l : List Coded} (h : CodedsAt lo hi w (.slice a l.length cap) l) {k : Nat} (hk : k ≤ l.length) : CodedsAt lo hi w (.slice a k cap) (l.take k) := by
  obtain ⟨f, h1, h2⟩ := h
  have hl : (l.take k).length = k := by rw [List.length_take]; omega
  refine ⟨f, by rw [hl]; exact h1.take hk, fun i hi => ?_⟩
  rw [hl] at hi
  have := h2 i (by omega)
  rw [show (l.take k).getD i default = l.getD i default by rw [List.getD_eq_getElem?_getD, List.getElem?_take, if_pos hi, List.getD_eq_getElem?_getD]]
  exact this
#print axioms CodedsAt.take
end Go.Proofs.YthgpgbdkcdmbpaaGreatDoor
