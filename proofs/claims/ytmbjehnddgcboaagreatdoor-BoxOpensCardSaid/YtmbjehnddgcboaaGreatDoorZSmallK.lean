/- Joined texts: SmallK. Conditions: each part names its own. -/
import Derived.Test.YtmbjehnddgcboaaGreatDoorC2
import Derived.Test.YtmbjehnddgcboaaGreatDoorC4
/- kinref23.Sizes, kinref23.fit. Conditions: what is handed in reads. -/
namespace Go.Proofs.YtmbjehnddgcboaaGreatDoor
open Go.RowKit
set_option linter.unusedVariables false
set_option linter.unusedSimpArgs false

set_option maxRecDepth 100000 in
set_option maxHeartbeats 800000 in
theorem ksizes_any {lo hi : Nat} {v : Value} {l : List Coded} {w : World} (h : CodedsAt lo hi w v l) (hl : l.length ≤ 1000000) (hd : ∀ i, i < l.length → (l.getD i default).data.length ≤ 1000000000000000) :
    Calls Tryz.prog 23 #[v] w fun e w' => ∃ v', e = .returned v' ∧ Own .i64 3 w.heap.size w' v' (sizesOf l) ∧ Only [] w w' := by
  obtain ⟨a, cap, hv, hcap, hmax, hel⟩ := h.open
  subst hv
  have Hel := Lib.hid hel
  have Hl := Lib.hid hl
  have Hd := Lib.hid hd
  have hll : (l.length : Int) ≤ 9223372036854775807 := by omega
  clear h hel hmax hcap hl hd
  go_enter Tryz.func23, Tryz.ntmps23
  go_wp2
  go_loopw [4, 3] (fun i y wr => ∃ k : Nat, k ≤ l.length ∧ i = .int .i64 k ∧ Own .i64 3 w.heap.size wr y (sizesOf (l.take k)) ∧ From w.heap.size y ∧ Only [] w wr) (fun i _ _ => l.length - (intOf i).toNat)
  case atStart => exact ⟨0, by omega, rfl, Own.nil _ _ _ _, From.nil _, Only.refl _ _⟩
  case round =>
    obtain ⟨k, hk, rfl, hown, hfrom, hq⟩ := hrel
    by_cases hlt : k < l.length
    · obtain ⟨b, off, dv, rfl, _, _, hc1, hc2, _, hd⟩ := Hel.out k hlt
      have c2 := hq.cell hc2 (by simp)
      obtain ⟨da, dcap, rfl, _⟩ := hd.open
      have hdl := Hd.out k hlt
      have hs := getD_map_take hlt
      have hlen : (sizesOf (l.take k)).length = k := by simp [sizesOf]; omega
      clear hc1 hc2 hd
      have Hs := Lib.hid hs
      clear hs
      generalize sizesOf (l.take k) = S0 at *
      generalize l.getD k default = x at *
      have Hlen := Lib.hid hlen
      have hx : (0 : Int) ≤ (k : Int) := by omega
      have hx1 : (k : Int) < (l.length : Int) := by omega
      have hw8 : (8 : Int) + (x.data.length : Int) = (x.data.length : Int) + 8 := by omega
      have Hw8 := Lib.hid hw8
      clear hlen hw8
      go_wp2_with (first | (at_builtin; refine wpList_append_ints rfl (.tmp 11) (.tmp 19) _ rfl EI (hown.quiet (Only.new _ _)) rfl (ints_newG (l := [(8 : Int) + (x.data.length : Int)]) rfl (by simp [maxLen]) ?c0 1 rfl rfl) rfl ?c1 ?c2 (fun v1 w1 hown1 ho1 => ?_)) | fail)
      case c0 => simp only [List.mem_cons, List.not_mem_nil, or_false, forall_eq, InK]; omega
      case c1 => have := Hlen.out; have := Hl.out; simp; omega
      case c2 => have := hq.size; simp at this ⊢; omega
      have hq2 := hq.q (Only.new _ (.cells #[.int .i64 ((8 : Int) + (x.data.length : Int))] 3))
      rw [Hw8.out] at hown1
      go_wp2_with fail
      go_roundw
      case rel => exact ⟨k + 1, by omega, by go_num, by rw [Hs.out]; exact hown1, ho1.from_ hfrom hq2.size, hq2.acc ho1 hfrom⟩
      case measure => simp [intOf]; omega
    · obtain rfl : k = l.length := by omega
      go_wp2
      go_ret
      exact ⟨_, rfl, by simpa using hown, hq⟩

/-- the document's way to ask whether chunks fit -/
def fitGo (i a : Int) : List Chunk → Bool
  | [] => decide (a ≤ 16)
  | c :: l => if c.number ≠ i ∨ c.first ≠ a then false else fitGo (i + 1) (a + c.count) l
theorem fitGo_over : ∀ (l : List Chunk) (i a : Int), 16 < a → (∀ c ∈ l, 1 ≤ c.count) → fitGo i a l = false
  | [], i, a, h, _ => by simp [fitGo]; omega
  | c :: l, i, a, h, hc => by
    unfold fitGo
    split
    · rfl
    · exact fitGo_over l _ _ (by have := hc c (by simp); omega) (fun x hx => hc x (by simp [hx]))
theorem fitGo_runs : ∀ (l : List Chunk) (i a : Int), a ≤ 16 → (∀ c ∈ l, 1 ≤ c.count) → fitGo i a l = runsOn i a l
  | [], i, a, h, _ => by simp [fitGo, runsOn]; omega
  | c :: l, i, a, h, hc => by
    unfold fitGo runsOn
    by_cases h1 : c.number ≠ i ∨ c.first ≠ a
    · rw [if_pos h1, if_pos (h1.elim .inl (fun h => .inr (.inl h)))]
    · rw [if_neg h1]
      by_cases h2 : 16 - a < c.count
      · rw [if_pos (.inr (.inr h2))]
        exact fitGo_over l _ _ (by omega) (fun x hx => hc x (by simp [hx]))
      · rw [if_neg (fun h => h.elim (fun h => h1 (.inl h)) (fun h => h.elim (fun h => h1 (.inr h)) h2))]
        exact fitGo_runs l _ _ (by omega) (fun x hx => hc x (by simp [hx]))
theorem fitGo_drop {l : List Chunk} {k : Nat} {i a : Int} (h : k < l.length) : fitGo i a (l.drop k) = (if (l.getD k default).number ≠ i ∨ (l.getD k default).first ≠ a then false else fitGo (i + 1) (a + (l.getD k default).count) (l.drop (k + 1))) := by
  rw [List.drop_eq_getElem_cons h]
  have : l.getD k default = l[k] := by simp [h]
  rw [this]; rfl

end Go.Proofs.YtmbjehnddgcboaaGreatDoor
