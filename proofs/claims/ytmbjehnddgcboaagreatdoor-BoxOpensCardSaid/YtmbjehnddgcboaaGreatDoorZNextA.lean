/- Joined texts: NextA. Conditions: each part names its own. -/
import Derived.Test.YtmbjehnddgcboaaGreatDoorZNextK
/- kinref4.Next as one contract: what unit.Next tells, the document tells. Conditions: the bytes read, the place is among them. -/
namespace Go.Proofs.YtmbjehnddgcboaaGreatDoor
open Go.RowKit
set_option linter.unusedVariables false
set_option linter.unusedSimpArgs false

set_option maxRecDepth 100000 in
set_option maxHeartbeats 8000000 in
theorem knext_any {lo hi : Nat} {v : Value} {l : List Int} (p : Nat) {w : World} (h : Ints .u8 lo hi w v l) (hp : p < l.length) (hl : l.length ≤ 1000000000000) :
    Calls Tryz.prog 65 #[v, .int .i64 p] w (KNextP w (nextD (l.drop p) p)) := by
  obtain ⟨a, cap, rfl, hcap, hmax, hat, hcell⟩ := h.open
  obtain ⟨b, off, rfl, _, _⟩ := hat 0 (by omega)
  have hcm : (cap : Int) ≤ 9223372036854775807 := by unfold maxLen at hmax; omega
  have hsub := h.sub (i := p) (j := l.length) (by omega) (Nat.le_refl _) (cap - p) (by omega) (by omega)
  rw [List.take_length] at hsub
  have hrun : ∀ W, (Instr.slice 22 (.slice (some ⟨b, off, none⟩) l.length cap) (some (.int .i64 p)) none none).run Tryz.prog W = .ok (.slice (some ⟨b, off + p, none⟩) (l.length - p) (cap - p)) W := by
    intro W
    have h5 : ¬ cap = p := by omega
    have h6 : p ≤ l.length := by omega
    simp [Instr.slice, run_underlying Tryz.underlying22, Instr.sliceBounds, Instr.sliceBound, asIntOf, go_sem, h6, hcap, h5]
  have c0 := hcell b off rfl p hp
  have hdl : (l.drop p).length = l.length - p := List.length_drop
  have hd0 : (l.drop p).getD 0 0 = l.getD p 0 := by rw [getD_drop]; simp
  have hin : ∀ x ∈ l.drop p, InK .u8 x := hsub.2
  rw [← hdl] at hsub hrun
  rw [← hd0] at c0
  have hn : ((l.length : Nat) : Int) ≤ 1000000000000 := by omega
  have hdi : ((l.drop p).length : Int) ≤ 1000000000000 := by omega
  have hdc : (l.drop p).length ≤ cap - p := by omega
  have hd1 : 0 < (l.drop p).length := by omega
  clear hat hcell h hmax hd0 hdl hl
  generalize l.drop p = d at *
  generalize l.length = n at *
  by_cases hz : d.getD 0 0 = 0
  · have Hr : Hid (nextD d p = .ok ⟨0, [], p, p + 1⟩) := Lib.hid (by unfold nextD; rw [if_pos hz])
    rw [hz] at c0
    have hpi : (p : Int) < (n : Int) := by omega
    have hp0 : (0 : Int) ≤ (p : Int) := by omega
    have c1 : ∀ o o', ((w.alloc o).alloc o').cell? ⟨b, off + p, none⟩ = some (.int .u8 0) := fun o o' => ((Only.new _ _).q (Only.new _ _)).cell c0 (by simp)
    clear hz hrun hsub hin hdi hdc hd1
    go_enter Tryz.func65, Tryz.ntmps65
    go_wp2_with fail
    refine bodyPost_ret (v := .tuple #[.agg #[.int .i64 0, .slice none 0 0, .int .i64 p, .int .i64 (p + 1)], .agg #[.int .i64 0, .slice none 0 0]]) (by simp [results, Tryz.results65, go_sem]) rfl ?_
    unfold KNextP
    rw [Hr.out]
    exact ⟨(Only.new _ _).q (Only.new _ _), _, rfl, Ints.nil _ _ _ _⟩
  by_cases h4 : d.length < 4
  · exact knext_short hp (by omega) hrun hsub hd1 hz h4
  have hgr := getB_range 3 ((d.take 4).drop 1) (by rw [List.length_drop, List.length_take]; omega) (by omega) (fun x hx => hin x (List.mem_of_mem_take (List.mem_of_mem_drop hx)))
  rw [getB_len (by omega)] at hgr
  by_cases h5 : 65536 < lenU d
  · exact knext_bad 5 hp (by omega) hrun hsub hdc hdi hz (by omega) (.inl ⟨h5, rfl⟩)
  by_cases h6 : (d.length : Int) - 8 < lenU d
  · exact knext_bad 1 hp (by omega) hrun hsub hdc hdi hz (by omega) (.inr ⟨h5, h6, rfl⟩)
  obtain ⟨N, hN⟩ := Int.eq_ofNat_of_zero_le hgr.1
  exact knext_full hp hn hrun hsub hdc hcm hdi hz hN (by omega) (by omega)
#print axioms knext_any
end Go.Proofs.YtmbjehnddgcboaaGreatDoor
