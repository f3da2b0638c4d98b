/- Joined texts: OwnS, Num, KSum, Cfg, CfgM, UnitK, KCfg, ReadG, ReadK, MayK, SmallK, Plain, FillsK. Conditions: each part names its own. -/
import Derived.Test.YtjpbnboaonnfgaaGreatDoorC4
import Derived.Deep.OwnRows
import Derived.Test.YtjpbnboaonnfgaaGreatDoorC1
import Derived.Test.YtjpbnboaonnfgaaGreatDoorC5
import Derived.Test.YtjpbnboaonnfgaaGreatDoorC2
/- A slice of integers that the call made itself: its cells, stores into it, a slice that make has just laid. Conditions: none. -/
namespace Go.Proofs.YtjpbnboaonnfgaaGreatDoor
open Go.RowKit
set_option linter.unusedVariables false
set_option linter.unusedSimpArgs false

/-- an own slice at block g, its whole capacity known -/
def Arr (k : IntKind) (e : TypeId) (g : Nat) (w : World) (cap : Nat) (l : List Int) : Prop := Own k e g w (.slice (some ⟨g, 0, none⟩) l.length cap) l
section
variable {k : IntKind} {e : TypeId} {g cap base : Nat} {w w' : World} {l : List Int}
theorem Own.cellS {n : Nat} (h : Own k e base w (.slice (some ⟨g, 0, none⟩) n cap) l) (hn : n = l.length) {i : Nat} (hi : i < l.length) : w.cell? ⟨g, i, none⟩ = some (.int k (l.getD i 0)) := by
  subst hn
  have := h.1.cellAt i (by omega)
  rw [this, List.getElem?_map]
  simp [hi]
theorem Own.frzS {n : Nat} (h : Own k e base w (.slice (some ⟨g, 0, none⟩) n cap) l) (hn : n = l.length) (j : Nat) : w.frozen? ⟨g, j, none⟩ = false := by
  subst hn
  exact h.1.frozenAt j
theorem Own.storeS {n : Nat} (h : Own k e base w (.slice (some ⟨g, 0, none⟩) n cap) l) (hn : n = l.length) {x : Int} (hx : InK k x) (i : Nat) :
    Own k e base (w.setCell ⟨g, i, none⟩ (.int k x)) (.slice (some ⟨g, 0, none⟩) n cap) (l.set i x) ∧ Only [g] w (w.setCell ⟨g, i, none⟩ (.int k x)) := by
  subst hn
  obtain ⟨hst, hgr⟩ := h.1.stored i (.int k x)
  refine ⟨⟨?_, fun y hy => ?_⟩, Only.of_grown hgr⟩
  · rw [List.length_set, List.map_set]; exact hst
  · rcases List.mem_or_eq_of_mem_set hy with hy | rfl
    · exact h.2 y hy
    · exact hx
end
theorem InK.zero (k : IntKind) : InK k 0 := by cases k <;> simp [InK]
/-- what make has just laid: zeros -/
theorem own_made (k : IntKind) (t : TypeId) (w : World) (n : Nat) (hn : n ≤ maxLen) :
    Own k t w.heap.size (w.alloc (.cells (madeCells #[.int k 0] n) t)) (.slice (some ⟨w.heap.size, 0, none⟩) n n) (List.replicate n 0) := by
  have h0 := World.ownsRow_lit w (base := w.heap.size) (e := t) (size := 1) (madeCells #[.int k 0] n) n (Nat.le_refl _) hn (by rw [size_madeCells, Nat.mul_one])
  rw [toList_madeCells_one] at h0
  exact ⟨by simpa using h0, fun x hx => by rw [(List.mem_replicate.1 hx).2]; exact InK.zero k⟩
theorem Acc.row {a b : Value} {w w' : World} {B g : Nat} {o : Obj} (h : Acc a w b w') (ha : From B a) (hr : w.heap[g]? = some o) (hg : g < B) : w'.heap[g]? = some o :=
  (h.only.block g (Array.getElem?_eq_some_iff.1 hr).1 (fun hm => by have := ha g (by simpa using hm); omega)).trans hr
theorem Only.row {w w' : World} {g : Nat} {o : Obj} (h : Only [] w w') (hr : w.heap[g]? = some o) : w'.heap[g]? = some o :=
  (h.block g (Array.getElem?_eq_some_iff.1 hr).1 (by simp)).trans hr
theorem row2 {w : World} {g : Nat} {v0 v1 : Value} {t : TypeId} (h : w.heap[g]? = some (.cells #[v0, v1] t (0, 0))) :
    w.cell? ⟨g, 0, none⟩ = some v0 ∧ w.cell? ⟨g, 1, none⟩ = some v1 ∧ w.frozen? ⟨g, 0, none⟩ = false ∧ w.frozen? ⟨g, 1, none⟩ = false ∧ g < w.heap.size :=
  ⟨by rw [cell_of_row _ _ _ _ _ _ h]; rfl, by rw [cell_of_row _ _ _ _ _ _ h]; rfl, frozen_of_row _ _ _ _ _ h, frozen_of_row _ _ _ _ _ h, (Array.getElem?_eq_some_iff.1 h).1⟩
theorem Only.set2 {w w1 : World} {g : Nat} (h : Only [] w w1) (hg : w.heap.size ≤ g) (u0 u1 : Value) : Only [] w ((w1.setCell ⟨g, 0, none⟩ u0).setCell ⟨g, 1, none⟩ u1) :=
  (h.setCell (fun hh => absurd hh (by simp; omega)) _).setCell (fun hh => absurd hh (by simp; omega)) _
/-- a part of a slice of bytes, wherever its capacity ends: from i on -/
theorem slice_from {lo hi b off cap : Nat} {w : World} {l : List Int} (h : Ints .u8 lo hi w (.slice (some ⟨b, off, none⟩) l.length cap) l) (hlc : l.length ≤ cap) {i : Nat} (hi' : i ≤ l.length) {z : Int} (hz : z = (i : Int)) :
    ∃ a', (∀ W, (Instr.slice 27 (.slice (some ⟨b, off, none⟩) l.length cap) (some (.int .i64 z)) none none).run Tryz.prog W = .ok (.slice a' (l.length - i) (cap - i)) W) ∧ Ints .u8 lo hi w (.slice a' (l.length - i) (cap - i)) (l.drop i) := by
  subst hz
  by_cases hc : cap = i
  · have hl : l.length = i := by omega
    have hd : l.drop i = [] := List.drop_eq_nil_of_le (by omega)
    refine ⟨some ⟨b, off, none⟩, fun W => ?_, ?_⟩
    · subst hc
      simp [Instr.slice, run_underlying Tryz.underlying27, Instr.sliceBounds, Instr.sliceBound, asIntOf, go_sem, hl]
    · rw [hd, hl, hc, Nat.sub_self]
      exact ⟨⟨rfl, some ⟨b, off, none⟩, 0, rfl, Nat.le_refl _, Nat.zero_le _, fun h => absurd h (by simp)⟩, by simp⟩
  · refine ⟨some ⟨b, off + i, none⟩, fun W => ?_, ?_⟩
    · have h5 : ¬ cap = i := hc
      simp [Instr.slice, run_underlying Tryz.underlying27, Instr.sliceBounds, Instr.sliceBound, asIntOf, go_sem, hi', hlc, h5]
    · have := h.sub hi' (Nat.le_refl _) (cap - i) (by omega) (by omega)
      rwa [List.take_length] at this
/-- from i up to j -/
theorem slice_part {lo hi b off cap : Nat} {w : World} {l : List Int} (h : Ints .u8 lo hi w (.slice (some ⟨b, off, none⟩) l.length cap) l) (hlc : l.length ≤ cap) {i j : Nat} (hij : i ≤ j) (hj : j ≤ l.length) {y z : Int} (hy : y = (i : Int)) (hz : z = (j : Int)) :
    ∃ a', (∀ W, (Instr.slice 27 (.slice (some ⟨b, off, none⟩) l.length cap) (some (.int .i64 y)) (some (.int .i64 z)) none).run Tryz.prog W = .ok (.slice a' (j - i) (cap - i)) W) ∧ Ints .u8 lo hi w (.slice a' (j - i) (cap - i)) ((l.take j).drop i) := by
  subst hz; subst hy
  by_cases hc : cap = i
  · have hd : (l.take j).drop i = [] := List.drop_eq_nil_of_le (by rw [List.length_take]; omega)
    have hji : j = i := by omega
    refine ⟨some ⟨b, off, none⟩, fun W => ?_, ?_⟩
    · subst hc; subst hji
      simp [Instr.slice, run_underlying Tryz.underlying27, Instr.sliceBounds, Instr.sliceBound, asIntOf, go_sem]
    · rw [hd, hji, hc, Nat.sub_self]
      exact ⟨⟨rfl, some ⟨b, off, none⟩, 0, rfl, Nat.le_refl _, Nat.zero_le _, fun h => absurd h (by simp)⟩, by simp⟩
  · refine ⟨some ⟨b, off + i, none⟩, fun W => ?_, h.sub hij hj (cap - i) (by omega) (by omega)⟩
    have h5 : ¬ cap = i := hc
    have h6 : j ≤ cap := by omega
    simp [Instr.slice, run_underlying Tryz.underlying27, Instr.sliceBounds, Instr.sliceBound, asIntOf, go_sem, hij, h6, h5]
/-- up to j -/
theorem slice_upto {lo hi b off cap : Nat} {w : World} {l : List Int} (h : Ints .u8 lo hi w (.slice (some ⟨b, off, none⟩) l.length cap) l) (hlc : l.length ≤ cap) {j : Nat} (hj : j ≤ l.length) {z : Int} (hz : z = (j : Int)) :
    (∀ W, (Instr.slice 27 (.slice (some ⟨b, off, none⟩) l.length cap) none (some (.int .i64 z)) none).run Tryz.prog W = .ok (.slice (some ⟨b, off, none⟩) j cap) W) ∧ Ints .u8 lo hi w (.slice (some ⟨b, off, none⟩) j cap) (l.take j) := by
  refine ⟨fun W => slice_to j hz (by omega) W, ?_⟩
  have := h.sub (Nat.zero_le j) hj cap (Nat.le_refl _) (by omega)
  simpa using this
theorem set1_cell {w : World} {a p : Addr} {u v : Value} (hc : w.cell? p = some v) (hp : a.block ≠ p.block) : (w.setCell a u).cell? p = some v :=
  (World.cell?_setCell_other w a p u (fun e => hp (by rw [e]))).trans hc
theorem set2_cell {w : World} {g : Nat} {p : Addr} {u0 u1 v : Value} (hc : w.cell? p = some v) (hp : g ≠ p.block) : ((w.setCell ⟨g, 0, none⟩ u0).setCell ⟨g, 1, none⟩ u1).cell? p = some v := set1_cell (set1_cell hc hp) hp
theorem set3_cell {w : World} {g : Nat} {p : Addr} {u0 u1 u2 v : Value} (hc : w.cell? p = some v) (hp : g ≠ p.block) : (((w.setCell ⟨g, 0, none⟩ u0).setCell ⟨g, 1, none⟩ u1).setCell ⟨g, 2, none⟩ u2).cell? p = some v := set1_cell (set2_cell hc hp) hp
theorem set4_cell {w : World} {g : Nat} {p : Addr} {u0 u1 u2 u3 v : Value} (hc : w.cell? p = some v) (hp : g ≠ p.block) : ((((w.setCell ⟨g, 0, none⟩ u0).setCell ⟨g, 1, none⟩ u1).setCell ⟨g, 2, none⟩ u2).setCell ⟨g, 3, none⟩ u3).cell? p = some v := set1_cell (set3_cell hc hp) hp
end Go.Proofs.YtjpbnboaonnfgaaGreatDoor
/- kinref4.Number lays a number in bytes, the highest first. Conditions: one to seven bytes. -/
namespace Go.Proofs.YtjpbnboaonnfgaaGreatDoor
open Go.RowKit
set_option linter.unusedVariables false
set_option linter.unusedSimpArgs false

theorem num_set (v : Int) (j k : Nat) : (List.replicate (j + 1) (0 : Int) ++ be v k).set j (v / 2 ^ (8 * k) % 256) = List.replicate j 0 ++ be v (k + 1) := by
  rw [List.replicate_succ', List.append_assoc, List.set_append_right _ _ (by simp)]
  simp [be]
theorem shift_more (v : Int) (k : Nat) : v / 2 ^ (8 * k) / 256 = v / 2 ^ (8 * (k + 1)) := by
  have h0 : (0 : Int) ≤ 2 ^ (8 * k) := Int.le_of_lt (Int.pow_pos (by decide))
  rw [Int.ediv_ediv_of_nonneg h0, show 8 * (k + 1) = 8 * k + 8 by omega, Int.pow_add]
  rfl

set_option maxHeartbeats 800000 in
theorem number_any (v : Int) (n : Nat) (w : World) (h1 : 1 ≤ n) (h7 : n ≤ 7) :
    Calls Tryz.prog 41 #[.int .i64 v, .int .i64 n] w fun e w' => e = .returned (.slice (some ⟨w.heap.size, 0, none⟩) n n) ∧ Own .u8 5 w.heap.size w' (.slice (some ⟨w.heap.size, 0, none⟩) n n) (be v n) ∧ Only [] w w' := by
  have hmk := run_make_row' (P := Tryz.prog) 27 5 (.int .u8 0) 1 E8.ut (by kernel_rfl) rfl .i64 .i64 n (by omega) (by omega)
  have hO := Own.lower (own_made .u8 5 w n (by simp [maxLen]; omega)) (Nat.le_refl _)
  have hOn := Only.new w (.cells (madeCells #[.int .u8 0] n) 5)
  have HO := Lib.hid hO
  have HOn := Lib.hid hOn
  clear hO hOn
  go_enter Tryz.func41, Tryz.ntmps41
  go_wp2_with fail
  clear hmk
  generalize w.alloc (.cells (madeCells #[.int .u8 0] n) 5) = W1 at *
  go_loopw [6, 0] (fun i x wr => ∃ (j k : Nat), j + k = n ∧ i = .int .i64 ((j : Int) - 1) ∧ x = .int .i64 (v / 2 ^ (8 * k)) ∧ Own .u8 5 w.heap.size wr (.slice (some ⟨w.heap.size, 0, none⟩) n n) (List.replicate j 0 ++ be v k) ∧ Only [w.heap.size] W1 wr) (fun i _ _ => (intOf i + 1).toNat)
  case atStart => exact ⟨n, 0, rfl, rfl, by simp, by simpa [be] using HO.out, Only.refl _ _⟩
  case round =>
    obtain ⟨j, k, hjk, rfl, rfl, ho, hq⟩ := hrel
    have hlen : (List.replicate j (0 : Int) ++ be v k).length = n := by simp [be_length]; omega
    cases j with
    | zero =>
      have hx : ¬ (0 : Int) ≤ ((0 : Nat) : Int) - 1 := by omega
      obtain rfl : k = n := by omega
      go_wp2_with fail
      go_ret
      exact ⟨rfl, by simpa using ho, HOn.out.trans hq (by simp) (by simp)⟩
    | succ j =>
      have hj0 : (0 : Int) ≤ (j : Int) := by omega
      have hjn : (j : Int) < (n : Int) := by omega
      have hlt : j < (List.replicate (j + 1) (0 : Int) ++ be v k).length := by omega
      have hc := ho.cellS hlen.symm hlt
      have hf := ho.frzS hlen.symm j
      have hin : InK .u8 (v / 2 ^ (8 * k) % 256) := by unfold InK; omega
      obtain ⟨hs1, hs2⟩ := ho.storeS hlen.symm hin j
      rw [num_set] at hs1
      have Hs1 := Lib.hid hs1
      have Hs2 := Lib.hid hs2
      have Hm := Lib.hid (shift_more v k)
      have hj2 : ((j + 1 : Nat) : Int) - 1 = (j : Int) := by omega
      have Hj2 := Lib.hid hj2
      have hw : IntKind.u8.wrap (v / 2 ^ (8 * k)) = v / 2 ^ (8 * k) % 256 := by simp [IntKind.wrap, IntKind.bits, IntKind.signed]
      clear hs1 hs2 ho hlen hj2
      generalize v / 2 ^ (8 * k) = y at *
      go_wp2_with fail
      go_roundw
      case rel => exact ⟨j, k + 1, by omega, by first | rfl | go_num, by rw [← Hm.out], Hs1.out, hq.trans Hs2.out (by simp) (by simp)⟩
      case measure => first | (simp [intOf]; done) | (simp [intOf]; omega)
theorem number3_any (v : Int) (w : World) :
    Calls Tryz.prog 41 #[.int .i64 v, .int .i64 3] w fun e w' => e = .returned (.slice (some ⟨w.heap.size, 0, none⟩) 3 3) ∧ Own .u8 5 w.heap.size w' (.slice (some ⟨w.heap.size, 0, none⟩) 3 3) (be v 3) ∧ Only [] w w' := number_any v 3 w (by omega) (by omega)
theorem number4_any (v : Int) (w : World) :
    Calls Tryz.prog 41 #[.int .i64 v, .int .i64 4] w fun e w' => e = .returned (.slice (some ⟨w.heap.size, 0, none⟩) 4 4) ∧ Own .u8 5 w.heap.size w' (.slice (some ⟨w.heap.size, 0, none⟩) 4 4) (be v 4) ∧ Only [] w w' := number_any v 4 w (by omega) (by omega)
theorem number2_any (v : Int) (w : World) :
    Calls Tryz.prog 41 #[.int .i64 v, .int .i64 2] w fun e w' => e = .returned (.slice (some ⟨w.heap.size, 0, none⟩) 2 2) ∧ Own .u8 5 w.heap.size w' (.slice (some ⟨w.heap.size, 0, none⟩) 2 2) (be v 2) ∧ Only [] w w' := number_any v 2 w (by omega) (by omega)
theorem be3_len {n : Nat} (h : n ≤ 65536) : be n 3 = [(n : Int) / 65536, (n : Int) / 256 % 256, (n : Int) % 256] := by
  have e : be n 3 = [(n : Int) / 65536 % 256, (n : Int) / 256 % 256, (n : Int) / 1 % 256] := rfl
  rw [e]
  simp only [List.cons.injEq, and_true, Int.ediv_one]
  omega
end Go.Proofs.YtjpbnboaonnfgaaGreatDoor
/- kinref4.Sum is the checksum crc of the bytes. Conditions: the slice reads as bytes. -/
namespace Go.Proofs.YtjpbnboaonnfgaaGreatDoor
open Go.RowKit
set_option linter.unusedVariables false
set_option linter.unusedSimpArgs false

set_option maxHeartbeats 400000 in
theorem ksum_any {lo hi : Nat} {v : Value} {l : List Int} {w : World} (h : Ints .u8 lo hi w v l) :
    Calls Tryz.prog 68 #[v] w fun e w' => e = .returned (.int .u32 (crc l : Nat)) ∧ w = w' := by
  have hlen := h.1.len_le
  unfold maxLen at hlen
  have hr := h.2
  obtain ⟨a, cap, rfl, hcap, hm, hat, hcell⟩ := h.open
  go_enter Tryz.func68, Tryz.ntmps68
  go_wp2
  go_loop [4, 3, 5] (fun i c _ => ∃ k : Nat, k ≤ l.length ∧ i = .int .i64 k ∧ c = .int .u32 (crcGo 4294967295 (l.take k) : Nat)) (fun i _ _ => l.length - (intOf i).toNat)
  case atStart => exact ⟨0, by omega, rfl, rfl⟩
  case round =>
    obtain ⟨k, hk, rfl, rfl⟩ := hrel
    have hs := crcGo_lt (l.take k) (c := 4294967295) (by omega) (fun x hx => hr x (List.mem_of_mem_take hx))
    by_cases hlt : k < l.length
    · obtain ⟨b, off, rfl, _, _⟩ := hat k hlt
      have hc' := hcell b off rfl k hlt
      have hx : InK .u8 (l.getD k 0) := by refine hr _ ?_; simp [hlt]
      have hnext : crcGo 4294967295 (l.take (k + 1)) = crcBits 8 (crcGo 4294967295 (l.take k) ^^^ (l.getD k 0).toNat) := by
        rw [take_snoc hlt, crcGo_snoc]; rfl
      have hin := crc_in hs hx
      have hs' : crcGo 4294967295 (l.take k) ^^^ (l.getD k 0).toNat < 4294967296 := Nat.xor_lt_two_pow (n := 32) hs (by unfold InK at hx; omega)
      have hx0 : (l.getD k 0) % 4294967296 = l.getD k 0 := by unfold InK at hx; omega
      generalize crcGo 4294967295 (l.take k) = s at *
      generalize l.getD k 0 = x at *
      have Hn := Lib.hid hnext
      clear hnext hat hcell hr
      generalize hq : s ^^^ x.toNat = q at *
      clear hq
      go_wp2
      go_loop [5, 3] (fun i c => ∃ j : Nat, j ≤ 8 ∧ i = .int .i64 j ∧ c = .int .u32 (crcBits j q : Nat)) (fun i _ => 8 - (intOf i).toNat)
      case atStart => exact ⟨0, by omega, rfl, rfl⟩
      case round =>
        obtain ⟨j, hj, rfl, rfl⟩ := hrel
        have hb := crcBits_lt j hs'
        by_cases hjl : j < 8
        · generalize hcq : crcBits j q = c at *
          have Hcq := Lib.hid hcq
          clear hcq
          by_cases hodd : c % 2 = 1
          · have e1 := crc_odd hb hodd
            have e2 := crc_fold hb
            have Ho := Lib.hid hodd
            clear hodd
            go_wp2
            go_round
            case rel => exact ⟨j + 1, by omega, by go_num, by show _ = Value.int .u32 ((crcBit (crcBits j q) : Nat) : Int); rw [Hcq.out]; simp [crcBit, Ho.out]⟩
            case measure => simp [intOf]; omega
          · have e1 := crc_even hb (by omega)
            have Ho := Lib.hid hodd
            clear hodd
            go_wp2
            go_round
            case rel => exact ⟨j + 1, by omega, by go_num, by show _ = Value.int .u32 ((crcBit (crcBits j q) : Nat) : Int); rw [Hcq.out]; simp [crcBit, Ho.out]⟩
            case measure => simp [intOf]; omega
        · obtain rfl : j = 8 := by omega
          go_wp2
          go_round
          case rel => exact ⟨k + 1, by omega, by go_num, by rw [Hn.out]⟩
          case measure => simp [intOf]; omega
    · obtain rfl : k = l.length := by omega
      have e3 : bits .xor .u32 IntKind.u32.max (crcGo 4294967295 l : Int) = ((crc l : Nat) : Int) := by
        rw [List.take_length] at hs
        have := u32_xor_nat 4294967295 (crcGo 4294967295 l) (by omega) hs
        rw [crc, Nat.xor_comm]; exact this
      have E3 := Lib.hid e3
      clear e3
      go_wp2
      go_ret
      exact ⟨by show Ending.returned (.int .u32 (bits .xor .u32 IntKind.u32.max _)) = _; rw [E3.out], rfl⟩
end Go.Proofs.YtjpbnboaonnfgaaGreatDoor
/- kinref18.May, kinref23.side, number and begins answer as the program's own. Conditions: none. -/
namespace Go.Proofs.YtjpbnboaonnfgaaGreatDoor
open Go.RowKit
set_option linter.unusedVariables false
set_option linter.unusedSimpArgs false

theorem kside_any (n : Int) (w : World) : Calls Tryz.prog 33 #[.int .i64 n] w fun e w' => e = .returned (.bool (sideB n)) ∧ w = w' := by
  by_cases h1 : 8 ≤ n
  · by_cases h2 : n ≤ 32
    · go_enter Tryz.func33, Tryz.ntmps33
      go_wp2
      all_goals
        go_ret
        refine ⟨ret_bool ?_, rfl⟩
        unfold sideB
        rw [Bool.eq_iff_iff]
        simp
        try omega
    · go_enter Tryz.func33, Tryz.ntmps33
      go_wp2
      go_ret
      refine ⟨ret_bool ?_, rfl⟩
      unfold sideB; rw [eq_comm, decide_eq_false_iff_not]; omega
  · go_enter Tryz.func33, Tryz.ntmps33
    go_wp2
    go_ret
    refine ⟨ret_bool ?_, rfl⟩
    unfold sideB; rw [eq_comm, decide_eq_false_iff_not]; omega

def numB (n : Int) : Bool := decide (0 ≤ n ∧ n ≤ 15)
theorem number15_any (n : Int) (w : World) : Calls Tryz.prog 63 #[.int .i64 n] w fun e w' => e = .returned (.bool (numB n)) ∧ w = w' := by
  go_enter Tryz.func63, Tryz.ntmps63
  go_wp2
  all_goals
    go_ret
    refine ⟨ret_bool ?_, rfl⟩
    unfold numB
    rw [Bool.eq_iff_iff]
    simp
    try omega
theorem begins_any (k : Int) (w : World) : Calls Tryz.prog 64 #[.int .i64 k] w fun e w' => e = .returned (.bool (firstB k)) ∧ w = w' := by
  by_cases h1 : k = 1
  · subst h1
    go_enter Tryz.func64, Tryz.ntmps64
    go_wp2
    all_goals
      go_ret
      exact ⟨ret_bool (by simp [firstB]), rfl⟩
  · have h1b : (k == 1) = false := by simpa using h1
    have H1 := Lib.hid h1
    clear h1
    go_enter Tryz.func64, Tryz.ntmps64
    go_wp2
    all_goals
      go_ret
      refine ⟨ret_bool ?_, rfl⟩
      have := H1.out
      unfold firstB
      rw [Bool.eq_iff_iff]
      simp [this]

end Go.Proofs.YtjpbnboaonnfgaaGreatDoor
/- kinref18.May answers whether a configuration is valid. Conditions: none. -/
namespace Go.Proofs.YtjpbnboaonnfgaaGreatDoor
open Go.RowKit
set_option linter.unusedVariables false
set_option linter.unusedSimpArgs false

set_option maxRecDepth 100000 in
set_option maxHeartbeats 4000000 in
theorem kmay_any (c : Cfg) (w : World) :
    Calls Tryz.prog 31 #[c.v] w fun e w' => e = .returned (.bool (mayB c)) ∧ Only [] w w' := by
  obtain ⟨a0, a1, a2, a3, a4, a5, a6, a7⟩ := c
  unfold Cfg.v
  go_enter Tryz.func31, Tryz.ntmps31
  go_wp2_with fail
  all_goals
    go_ret
    refine ⟨ret_bool ?_, (Only.refl _ _).alloc _⟩
    unfold mayB
    rw [Bool.eq_iff_iff]
    simp
    try omega
end Go.Proofs.YtjpbnboaonnfgaaGreatDoor
/- kinref4.Make makes the bytes of a unit; kinref23.unit lays them behind an own row; kinref23.tail closes a container. Conditions: the kind is one of a unit that carries data, the data not too long. -/
namespace Go.Proofs.YtjpbnboaonnfgaaGreatDoor
open Go.RowKit
set_option linter.unusedVariables false
set_option linter.unusedSimpArgs false

theorem unitB_be {kind : Int} {l : List Int} (hl : l.length ≤ 65536) : unitHead kind l = [kind] ++ be l.length 3 ++ l := by
  rw [be3_len hl]; rfl

set_option maxRecDepth 100000 in
set_option maxHeartbeats 2000000 in
theorem kmake_ok {lo hi : Nat} (kind : Int) {v : Value} {l : List Int} {w : World} (h : Ints .u8 lo hi w v l) (hk : 1 ≤ kind ∧ kind ≤ 255) (hl : l.length ≤ 65536) :
    Calls Tryz.prog 67 #[.int .i64 kind, v] w fun e w' => ∃ v', e = .returned (.tuple #[v', .agg #[.int .i64 0, .slice none 0 0]]) ∧ Own .u8 5 w.heap.size w' v' (unitB kind l) ∧ Only [] w w' := by
  have hk1 : ¬ kind < 0 := by omega
  have hk2 : ¬ 255 < kind := by omega
  have hk0 : (kind == 0) = false := by rw [beq_eq_false_iff_ne]; omega
  have hl2 : ¬ 65536 < l.length := by omega
  have Hh := Lib.hid h
  have hfin : unitB kind l = ([kind] ++ be l.length 3 ++ l) ++ be (crc ([kind] ++ be l.length 3 ++ l) : Nat) 4 := by rw [unitB, unitB_be hl]
  have Hfin := Lib.hid hfin
  obtain ⟨a, cap, rfl, hcap, hm, _⟩ := h.open
  clear hm hcap h hfin
  go_enter Tryz.func67, Tryz.ntmps67
  go_wp2_with fail
  generalize hW : (w.alloc _).alloc _ = W2
  have hO2 : Only [] w W2 := by rw [← hW]; exact (Only.new _ _).q (Only.new _ _)
  have hz2 : w.heap.size + 2 ≤ W2.heap.size := by rw [← hW]; simp
  have hE : W2.heap[w.heap.size]? = some (.cells #[.int .i64 0, .slice none 0 0] 35 (0, 0)) := by
    rw [← hW, Below.heap_alloc _ _ _ (by simp)]; exact heap_alloc_new _ _
  have h0 : Own .u8 5 (w.heap.size + 1) W2 (.slice (some ⟨w.heap.size + 1, 0, none⟩) 1 1) [kind] := by
    rw [← hW]; exact own_newG rfl (by simp [maxLen]) (by simp only [List.mem_singleton, forall_eq, InK]; omega) 1 rfl (by simp)
  have F0 : From (w.heap.size + 1) (.slice (some ⟨w.heap.size + 1, 0, none⟩) 1 1) := From.lit (Nat.le_refl _)
  clear hW
  go_at_call 41
  refine (number3_any _ _).mono ?_
  rintro e w3 ⟨rfl, hn3, hq3⟩
  have hz3 := hq3.size
  have hz2b : w.heap.size + 1 ≤ w3.heap.size := by omega
  have hq3w : Only [] w w3 := hO2.q hq3
  have hE3 := hq3.row hE
  have h0q := h0.quiet hq3
  have hb1 : ([kind].length + (be (l.length : Int) 3).length) * 1 ≤ 140737488355328 := by simp [be_length]
  have hb2 : (([kind] ++ be (l.length : Int) 3).length + l.length) * 1 ≤ 140737488355328 := by simp [be_length]; omega
  have HB1 := Lib.hid hb1
  have HB2 := Lib.hid hb2
  clear h0 hE hb1 hb2
  go_wp2_with (first
    | (at_builtin; refine wpList_append_ints rfl (.tmp 34) (.tmp 37) _ rfl E8 h0q rfl hn3.ints rfl HB1.out hz2b (fun v1 w4 ho4 ha4 => ?_); have hz4 := ha4.only.size; have F1 := ha4.from_ F0 (by omega);
        have hq4 : Only [] w w4 := hq3w.trans ha4.only (by simp) (fun g hg hlt => (by have := F0 g (by simpa using hg); omega)); have HE4 := Lib.hid (ha4.row F0 hE3 (by omega)); have hI4 := Hh.out.quiet hq4; have hz4b : w.heap.size + 1 ≤ w4.heap.size := (by omega))
    | (at_builtin; refine wpList_append_ints rfl (.tmp 39) (.tmp 40) _ rfl E8 ho4 rfl hI4 rfl HB2.out hz4b (fun v2 w5 ho5 ha5 => ?_))
    | fail)
  have hz5 := ha5.only.size
  have F2 := ha5.from_ F1 (by omega)
  have hq5 : Only [] w w5 := hq4.trans ha5.only (by simp) (fun g hg hlt => by have := F1 g (by simpa using hg); omega)
  have HE5 := Lib.hid (ha5.row F1 HE4.out (by omega))
  have hlen5 : ([kind] ++ be (l.length : Int) 3 ++ l).length ≤ 70000 := by simp [be_length]; omega
  generalize hL : [kind] ++ be (l.length : Int) 3 ++ l = L at *
  have HL := Lib.hid hL
  clear hL hI4 ho4 ha4 HE4 F1 hE3 h0q hq3w
  go_wp2_with fail
  go_at_call 68
  refine (ksum_any ho5.ints).mono ?_
  rintro e w' ⟨rfl, rfl⟩
  have hcl := crc_lt _ ho5.2
  generalize hcq : crc L = c at *
  have Hcq := Lib.hid hcq
  clear hcq
  go_wp2_with fail
  go_at_call 41
  refine (number4_any _ _).mono ?_
  rintro e w6 ⟨rfl, hn6, hq6⟩
  have hz6 := hq6.size
  have hz6b : w.heap.size + 1 ≤ w6.heap.size := by omega
  have hE6 := hq6.row HE5.out
  have hq56 := hq5.q hq6
  have HB3 : Hid ((L.length + (be (c : Int) 4).length) * 1 ≤ 140737488355328) := Lib.hid (by simp [be_length]; omega)
  go_wp2_with (first
    | (at_builtin; refine wpList_append_ints rfl (.tmp 42) (.tmp 46) _ rfl E8 (ho5.quiet hq6) rfl hn6.ints rfl HB3.out hz6b (fun v3 w7 ho7 ha7 => ?_); obtain ⟨m0, m1, f0, f1, hlt⟩ := row2 (ha7.row F2 hE6 (by omega)); have HO7 := Lib.hid ho7; have HA7 := Lib.hid ha7; clear ho7 ha7)
    | fail)
  have F3 := Lib.hid (HA7.out.from_ F2 (by omega))
  have HQ7 : Hid (Only [] w w7) := Lib.hid (hq56.trans HA7.out.only (by simp) (fun g hg hlt => by have := F2 g (by simpa using hg); omega))
  refine bodyPost_ret (v := .tuple #[v3, .agg #[.int .i64 0, .slice none 0 0]]) (by simp [results, Tryz.results67, go_sem, m0, m1, World.cell?_setCell_other]) rfl ?_
  refine ⟨_, rfl, ?_, HQ7.out.set2 (Nat.le_refl _) _ _⟩
  rw [Hfin.out]
  refine (HO7.out.only (((Only.refl [w.heap.size] _).setCell (by simp) _).setCell (by simp) _) (fun g hg e => ?_)).lower (by omega)
  rw [List.mem_singleton] at hg
  subst hg
  have := F3.out _ e
  omega

set_option maxHeartbeats 800000 in
theorem kunit_any {lo hi base : Nat} {bv dv : Value} {m l : List Int} (kind : Int) {w : World} (hown : Own .u8 5 base w bv m) (hb : base ≤ w.heap.size) (h : Ints .u8 lo hi w dv l)
    (hk : 1 ≤ kind ∧ kind ≤ 255) (hl : l.length ≤ 65536) (hm : m.length ≤ 100000000) :
    Calls Tryz.prog 39 #[bv, .int .i64 kind, dv] w fun e w' => ∃ v', e = .returned v' ∧ Own .u8 5 base w' v' (m ++ unitB kind l) ∧ Acc bv w v' w' := by
  have hul : (unitB kind l).length ≤ 70000 := by rw [unitB_length]; omega
  have Hul := Lib.hid hul
  have Hm := Lib.hid hm
  have HOwn := Lib.hid hown
  have hmake := kmake_ok kind h hk hl
  have HM := Lib.hid hmake
  obtain ⟨ba, bcap, hbv, _⟩ := hown.ints.open
  subst hbv
  obtain ⟨da, dcap, hdv, _⟩ := h.open
  subst hdv
  clear hul hm hmake hown h hl
  go_enter Tryz.func39, Tryz.ntmps39
  go_wp2_with fail
  go_at_call 67
  refine HM.out.mono ?_
  rintro e w1 ⟨uv, rfl, hu, hq⟩
  have hz := hq.size
  have hu2 := fun o => hu.quiet (Only.new w1 o)
  have HU := Lib.hid hu2
  obtain ⟨ua, ucap, huv, _⟩ := hu.ints.open
  subst huv
  clear hu hu2
  go_wp2_with (first | (at_builtin; refine wpList_append_ints rfl (.tmp 15) (.tmp 16) _ rfl E8 (HOwn.out.quiet (hq.q (Only.new _ _))) rfl (HU.out _).ints rfl ?c1 ?c2 (fun v1 w2 hown1 ho1 => ?_)) | fail)
  case c1 => have := Hul.out; have := Hm.out; omega
  case c2 => simp; omega
  go_wp2_with fail
  go_ret
  exact ⟨v1, rfl, hown1, (Acc.quiet (hq.q (Only.new _ _))).trans ho1⟩

set_option maxHeartbeats 1600000 in
theorem ktail_any {lo hi base : Nat} {bv dv : Value} {m l : List Int} {w : World} (hown : Own .u8 5 base w bv m) (hb : base ≤ w.heap.size) (h : Ints .u8 lo hi w dv l) (hl : l.length ≤ 65536) (hm : m.length ≤ 90000000) :
    Calls Tryz.prog 42 #[bv, dv] w fun e w' => ∃ v', e = .returned v' ∧ Own .u8 5 base w' v' (m ++ unitB 18 l ++ unitB 19 (tailB (m ++ unitB 18 l) m.length)) ∧ Acc bv w v' w' := by
  have hul : (unitB 18 l).length ≤ 70000 := by rw [unitB_length]; omega
  have Hul := Lib.hid hul
  have HU1 := Lib.hid (kunit_any 18 hown hb h (by omega) hl (by omega))
  have Hm := Lib.hid hm
  obtain ⟨ba, bcap, hbv, _⟩ := hown.ints.open
  subst hbv
  obtain ⟨da, dcap, hdv, _⟩ := h.open
  subst hdv
  clear hul h hown hl hm
  go_enter Tryz.func42, Tryz.ntmps42
  go_wp2_with fail
  go_at_call 39
  refine HU1.out.mono ?_
  rintro e w1 ⟨v1, rfl, ho1, ha1⟩
  have hz1 := ha1.only.size
  have hlen1 : (m ++ unitB 18 l).length ≤ 90070000 := by rw [List.length_append]; have := Hul.out; have := Hm.out; omega
  have hcl := crc_lt _ ho1.2
  have HO1 := Lib.hid ho1
  have Hlen1 := Lib.hid hlen1
  obtain ⟨oa, ocap, hv1, _⟩ := ho1.ints.open
  generalize hL : m ++ unitB 18 l = L at *
  have HL := Lib.hid hL
  subst hv1
  clear hL ho1 hlen1
  go_wp2_with fail
  go_at_call 41
  refine (number4_any _ _).mono ?_
  rintro e w2 ⟨rfl, hn2, hq2⟩
  have hz2 := hq2.size
  go_wp2_with fail
  go_at_call 68
  refine (ksum_any (HO1.out.quiet hq2).ints).mono ?_
  rintro e w' ⟨rfl, rfl⟩
  generalize hcq : crc L = c at *
  have Hcq := Lib.hid hcq
  clear hcq
  go_wp2_with fail
  go_at_call 41
  refine (number4_any _ _).mono ?_
  rintro e w3 ⟨rfl, hn3, hq3⟩
  have hz3 := hq3.size
  have hn2b := hn2.quiet hq3
  have F2 : From w1.heap.size (.slice (some ⟨w1.heap.size, 0, none⟩) 4 4) := From.lit (Nat.le_refl _)
  go_wp2_with (first | (at_builtin; refine wpList_append_ints rfl (.tmp 15) (.tmp 19) _ rfl E8 hn2b rfl hn3.ints rfl ?c1 ?c2 (fun v4 w4 ho4 ha4 => ?_)) | fail)
  case c1 => simp [be_length]
  case c2 => omega
  have hz4 := ha4.only.size
  have hq14 : Only [] w1 w4 := (hq2.q hq3).trans ha4.only (by simp) (fun g hg hlt => by have := F2 g (by simpa using hg); omega)
  have HT := Lib.hid (kunit_any 19 (HO1.out.quiet hq14) (by omega) ho4.ints (by omega) (by simp [be_length]) (by have := Hlen1.out; omega))
  obtain ⟨ta, tcap, hv4, _⟩ := ho4.ints.open
  have HQ14 := Lib.hid hq14
  subst hv4
  clear hn2 hn2b hn3 F2 ho4 ha4 hq14
  go_wp2_with fail
  go_at_call 39
  refine HT.out.mono ?_
  rintro e w5 ⟨v5, rfl, ho5, ha5⟩
  go_wp2_with fail
  go_ret
  refine ⟨v5, rfl, ?_, (ha1.then HQ14.out).trans ha5⟩
  unfold tailB
  rw [HL.out, Hcq.out]
  exact ho5
end Go.Proofs.YtjpbnboaonnfgaaGreatDoor
/- kinref23.Config lays a configuration's bytes. Conditions: the configuration is valid. -/
namespace Go.Proofs.YtjpbnboaonnfgaaGreatDoor
open Go.RowKit
set_option linter.unusedVariables false
set_option linter.unusedSimpArgs false

def cfgB (c : Cfg) : List Int := [c.qmin, c.qmax, c.reach, c.gop] ++ be c.cut 2 ++ be c.rate 4 ++ be c.room 4 ++ be c.fill 4
theorem row8 {w : World} {g : Nat} {v0 v1 v2 v3 v4 v5 v6 v7 : Value} {t : TypeId} (h : w.heap[g]? = some (.cells #[v0, v1, v2, v3, v4, v5, v6, v7] t (0, 0))) :
    w.cell? ⟨g, 3, none⟩ = some v3 ∧ w.cell? ⟨g, 5, none⟩ = some v5 ∧ w.cell? ⟨g, 6, none⟩ = some v6 ∧ w.cell? ⟨g, 7, none⟩ = some v7 :=
  ⟨by rw [cell_of_row _ _ _ _ _ _ h]; rfl, by rw [cell_of_row _ _ _ _ _ _ h]; rfl, by rw [cell_of_row _ _ _ _ _ _ h]; rfl, by rw [cell_of_row _ _ _ _ _ _ h]; rfl⟩

set_option maxRecDepth 100000 in
set_option maxHeartbeats 2000000 in
theorem kcfg_any (c : Cfg) {w : World} (hc : mayB c = true) :
    Calls Tryz.prog 40 #[c.v] w fun e w' => ∃ v, e = .returned v ∧ Own .u8 5 w.heap.size w' v (cfgB c) ∧ Only [] w w' := by
  obtain ⟨q0, q1, q2, q3, q4, q5, q6, q7, q8, q9, q10, q11, q12, q13, q14, q15, _⟩ := may_bounds hc
  clear hc
  obtain ⟨c0, c1, c2, c3, c4, c5, c6, c7⟩ := c
  simp only at q0 q1 q2 q3 q4 q5 q6 q7 q8 q9 q10 q11 q12 q13 q14 q15
  unfold Cfg.v
  simp only
  go_enter Tryz.func40, Tryz.ntmps40
  go_wp2_with fail
  generalize hW : (w.alloc _).alloc _ = W2
  have hO2 : Only [] w W2 := by rw [← hW]; exact (Only.new _ _).q (Only.new _ _)
  have hz2 : w.heap.size + 2 ≤ W2.heap.size := by rw [← hW]; simp
  have hE : W2.heap[w.heap.size]? = some (.cells #[.int .i64 c0, .int .i64 c1, .int .i64 c2, .int .i64 c3, .int .i64 c4, .int .i64 c5, .int .i64 c6, .int .i64 c7] 23 (0, 0)) := by
    rw [← hW, Below.heap_alloc _ _ _ (by simp)]; exact heap_alloc_new _ _
  have h0 : Own .u8 5 (w.heap.size + 1) W2 (.slice (some ⟨w.heap.size + 1, 0, none⟩) 4 4) [c0, c1, c2, c4] := by
    rw [← hW]; exact own_newG rfl (by simp [maxLen]) (by simp only [List.mem_cons, List.not_mem_nil, or_false, forall_eq_or_imp, forall_eq, InK]; omega) 4 rfl (by simp)
  have F0 : From (w.heap.size + 1) (.slice (some ⟨w.heap.size + 1, 0, none⟩) 4 4) := From.lit (Nat.le_refl _)
  obtain ⟨k3, _, _, _⟩ := row8 hE
  clear hW
  generalize hL0 : [c0, c1, c2, c4] = L0 at *
  have hl0 : L0.length = 4 := by rw [← hL0]; rfl
  have HL0 := Lib.hid hL0
  have Hl0 := Lib.hid hl0
  have HB1 : Hid ((L0.length + (be c3 2).length) * 1 ≤ 140737488355328) := Lib.hid (by simp [be_length, hl0])
  have HB2 : Hid (((L0 ++ be c3 2).length + (be c5 4).length) * 1 ≤ 140737488355328) := Lib.hid (by simp [be_length, hl0])
  have HB3 : Hid (((L0 ++ be c3 2 ++ be c5 4).length + (be c6 4).length) * 1 ≤ 140737488355328) := Lib.hid (by simp [be_length, hl0])
  have HB4 : Hid (((L0 ++ be c3 2 ++ be c5 4 ++ be c6 4).length + (be c7 4).length) * 1 ≤ 140737488355328) := Lib.hid (by simp [be_length, hl0])
  clear hL0 hl0
  -- cut
  go_at_call 41
  refine (number2_any _ _).mono ?_
  rintro e w3 ⟨rfl, hn3, hq3⟩
  have hz3 := hq3.size
  have hzb3 : w.heap.size + 1 ≤ w3.heap.size := by omega
  go_wp2_with (first | (at_builtin; refine wpList_append_ints rfl (.tmp 17) (.tmp 20) _ rfl E8 (h0.quiet hq3) rfl hn3.ints rfl HB1.out hzb3 (fun v1 w4 ho4 ha4 => ?_); have hz4 := ha4.only.size; have F1 := ha4.from_ F0 (by omega); have hq4 : Only [] w w4 := (hO2.q hq3).trans ha4.only (by simp) (fun g hg hlt => by have := F0 g (by simpa using hg); omega); have hE4 := ha4.row F0 (hq3.row hE) (by omega); obtain ⟨_, k5, _, _⟩ := row8 hE4) | fail)
  clear h0 F0 hn3 hE k3
  -- rate
  go_wp2_with fail
  go_at_call 41
  refine (number4_any _ _).mono ?_
  rintro e w5 ⟨rfl, hn5, hq5⟩
  have hz5 := hq5.size
  have hzb5 : w.heap.size + 1 ≤ w5.heap.size := by omega
  go_wp2_with (first | (at_builtin; refine wpList_append_ints rfl (.tmp 22) (.tmp 25) _ rfl E8 (ho4.quiet hq5) rfl hn5.ints rfl HB2.out hzb5 (fun v2 w6 ho6 ha6 => ?_); have hz6 := ha6.only.size; have F2 := ha6.from_ F1 (by omega); have hq6 : Only [] w w6 := (hq4.q hq5).trans ha6.only (by simp) (fun g hg hlt => by have := F1 g (by simpa using hg); omega); have hE6 := ha6.row F1 (hq5.row hE4) (by omega); obtain ⟨_, _, k6, _⟩ := row8 hE6) | fail)
  clear ho4 F1 hn5 hE4 k5
  -- room
  go_wp2_with fail
  go_at_call 41
  refine (number4_any _ _).mono ?_
  rintro e w7 ⟨rfl, hn7, hq7⟩
  have hz7 := hq7.size
  have hzb7 : w.heap.size + 1 ≤ w7.heap.size := by omega
  go_wp2_with (first | (at_builtin; refine wpList_append_ints rfl (.tmp 27) (.tmp 30) _ rfl E8 (ho6.quiet hq7) rfl hn7.ints rfl HB3.out hzb7 (fun v3 w8 ho8 ha8 => ?_); have hz8 := ha8.only.size; have F3 := ha8.from_ F2 (by omega); have hq8 : Only [] w w8 := (hq6.q hq7).trans ha8.only (by simp) (fun g hg hlt => by have := F2 g (by simpa using hg); omega); have hE8 := ha8.row F2 (hq7.row hE6) (by omega); obtain ⟨_, _, _, k7⟩ := row8 hE8) | fail)
  clear ho6 F2 hn7 hE6 k6
  -- fill
  go_wp2_with fail
  go_at_call 41
  refine (number4_any _ _).mono ?_
  rintro e w9 ⟨rfl, hn9, hq9⟩
  have hz9 := hq9.size
  have hzb9 : w.heap.size + 1 ≤ w9.heap.size := by omega
  go_wp2_with (first | (at_builtin; refine wpList_append_ints rfl (.tmp 32) (.tmp 35) _ rfl E8 (ho8.quiet hq9) rfl hn9.ints rfl HB4.out hzb9 (fun v4 w10 ho10 ha10 => ?_); have hq10 : Only [] w w10 := (hq8.q hq9).trans ha10.only (by simp) (fun g hg hlt => by have := F3 g (by simpa using hg); omega)) | fail)
  go_wp2_with fail
  go_ret
  refine ⟨v4, rfl, ?_, hq10⟩
  have e : cfgB ⟨c0, c1, c2, c3, c4, c5, c6, c7⟩ = L0 ++ be c3 2 ++ be c5 4 ++ be c6 4 ++ be c7 4 := by rw [← HL0.out]; rfl
  rw [e]
  exact ho10.lower (by omega)
end Go.Proofs.YtjpbnboaonnfgaaGreatDoor
/- kinref20.Read tells what a coded frame carries, or why not. Conditions: the data reads. -/
namespace Go.Proofs.YtjpbnboaonnfgaaGreatDoor
open Go.RowKit
set_option linter.unusedVariables false
set_option linter.unusedSimpArgs false

def HeadK (w : World) (c : Coded) (e : Ending) (w' : World) : Prop :=
  Only [] w w' ∧ match readB c with
    | some k => e = .returned (.tuple #[.agg #[.int .i64 0, .int .i64 0, .slice none 0 0], .agg #[.int .i64 k, .slice none 0 0]])
    | none => ∃ dv, e = .returned (.tuple #[.agg #[.int .i64 c.kind, .int .i64 (c.data.getD 0 0), dv], .agg #[.int .i64 0, .slice none 0 0]]) ∧ Ints .u8 w.heap.size w'.heap.size w' dv (c.data.drop 1)
theorem HeadK.err {w w' : World} {c : Coded} {k : Int} {e : Ending} (hk : readB c = some k) (ho : Only [] w w') (he : e = .returned (.tuple #[.agg #[.int .i64 0, .int .i64 0, .slice none 0 0], .agg #[.int .i64 k, .slice none 0 0]])) : HeadK w c e w' := by
  unfold HeadK; rw [hk]; exact ⟨ho, he⟩
theorem readB_13 {k : Int} {l : List Int} (h : k < 1 ∨ 4 < k) : readB ⟨k, l⟩ = some 13 := by
  have : kindB k = false := by unfold kindB; rw [decide_eq_false_iff_not]; omega
  simp [readB, this]
theorem kindB_of {k : Int} (h1 : ¬ k < 1) (h2 : ¬ 4 < k) : kindB k = true := by unfold kindB; rw [decide_eq_true_eq]; omega
theorem bareB_of {k : Int} (h2 : ¬ 4 < k) (h3 : 2 < k) : bareB k = true := by unfold bareB; rw [decide_eq_true_eq]; omega
theorem bareB_no {k : Int} (h3 : ¬ 2 < k) : bareB k = false := by unfold bareB; rw [decide_eq_false_iff_not]; omega

theorem fail_eq (c : Int) (w : World) : Calls Tryz.prog 32 #[.int .i64 c] w fun e w' => e = .returned (.agg #[.int .i64 c, .slice none 0 0]) ∧ w.alloc (.cells #[.int .i64 c, .slice none 0 0] 35) = w' := by
  go_enter Tryz.func32, Tryz.ntmps32
  go_wp2
  refine bodyPost_ret (v := .agg #[.int .i64 c, .slice none 0 0]) (by simp [results, Tryz.results32, go_sem]) rfl ⟨rfl, rfl⟩
theorem ok_eq (c : Int) (x : Value) (w : World) :
    Calls Tryz.prog 38 #[.agg #[.int .i64 c, x]] w fun e w' => e = .returned (.bool (c == 0)) ∧ w.alloc (.cells #[.int .i64 c, x] 35) = w' := by
  go_enter Tryz.func38, Tryz.ntmps38
  go_wp2
  go_ret
  exact ⟨rfl, rfl⟩

theorem Ints.open' {k : IntKind} {lo hi b off n cap : Nat} {w : World} {l : List Int} (h : Ints k lo hi w (.slice (some ⟨b, off, none⟩) n cap) l) (hp : 0 < l.length) : lo ≤ b ∧ w.cell? ⟨b, off, none⟩ = some (.int k (l.getD 0 0)) := by
  obtain ⟨b', off', cap', e, x, y, hc⟩ := h.at hp
  cases e
  exact ⟨x, by simpa using hc⟩
set_option maxRecDepth 100000 in
set_option maxHeartbeats 4000000 in
theorem kread_good {lo hi b off cap : Nat} {k q : Int} {l : List Int} {w : World} (h : Ints .u8 lo hi w (.slice (some ⟨b, off, none⟩) l.length cap) l) (hcap : l.length ≤ cap) (hcm : (cap : Int) ≤ 9223372036854775807) (hlen : l.length ≤ 140737488355328)
    (hk1 : ¬ k < 1) (hk4 : ¬ 4 < k) (hk2 : ¬ 2 < k) (hpos : 0 < l.length) (hq : l.getD 0 0 = q) (h15 : ¬ 15 < q) (h5 : ¬ 65536 < l.length) (hr : readB ⟨k, l⟩ = none) :
    Calls Tryz.prog 65 #[.agg #[.int .i64 k, .slice (some ⟨b, off, none⟩) l.length cap]] w (HeadK w ⟨k, l⟩) := by
  have HQ := Lib.hid (fun o o' o'' => (((Only.new w o).q (Only.new _ o')).q (Only.new _ o'')))
  have c0 := (h.open' hpos).2
  have hx := h.range hpos
  rw [hq] at c0 hx
  unfold InK at hx
  have Hh := Lib.hid h
  have Hq := Lib.hid hq
  obtain ⟨a1, hsl, hI1⟩ := slice_from h hcap (i := 1) hpos (z := 1) rfl
  have HI1 := Lib.hid hI1
  have Hl1 : Hid ((l.drop 1).length = l.length - 1) := Lib.hid (by simp)
  have h0b : (((l.length : Nat) : Int) == 0) = false := by rw [beq_eq_false_iff_ne]; omega
  have hpi : (0 : Int) < (l.length : Int) := by omega
  have c1 : ∀ o o' o'', (((w.alloc o).alloc o').alloc o'').cell? ⟨b, off, none⟩ = some (.int .u8 q) := fun o o' o'' => (HQ.out o o' o'').cell c0 (by simp)
  clear h hI1 hq
  have Hr := Lib.hid hr
  suffices key : ∀ Q : Ending → World → Prop, Hid (∀ e w', HeadK w ⟨k, l⟩ e w' → Q e w') → Calls Tryz.prog 65 #[.agg #[.int .i64 k, .slice (some ⟨b, off, none⟩) l.length cap]] w Q from key _ (Lib.hid fun _ _ h => h)
  intro Q HPost
  go_enter Tryz.func65, Tryz.ntmps65
  go_wp2_with fail
  clear c1
  generalize hW : ((w.alloc _).alloc _).alloc _ = W3
  have hO : Only [] w W3 := by rw [← hW]; exact HQ.out _ _ _
  have hz3 : W3.heap.size = w.heap.size + 3 := by rw [← hW]; simp
  have rA : W3.heap[w.heap.size]? = some (.cells #[.int .i64 k, .slice (some ⟨b, off, none⟩) l.length cap] 84 (0, 0)) := by
    rw [← hW, Below.heap_alloc _ _ _ (by simp; omega), Below.heap_alloc _ _ _ (by simp)]; exact heap_alloc_new _ _
  have rB : W3.heap[w.heap.size + 1]? = some (.cells #[.int .i64 0, .int .i64 0, .slice none 0 0] 124 (0, 0)) := by
    rw [← hW, Below.heap_alloc _ _ _ (by simp)]; exact heap_alloc_new' (by simp)
  have rC : W3.heap[w.heap.size + 1 + 1]? = some (.cells #[.int .i64 0, .slice none 0 0] 35 (0, 0)) := by
    rw [← hW]; exact heap_alloc_new' (by simp)
  clear hW
  have f0 : W3.cell? ⟨w.heap.size, 0, none⟩ = some (.int .i64 k) := by rw [cell_of_row _ _ _ _ _ _ rA]; rfl
  have f1 : W3.cell? ⟨w.heap.size, 1, none⟩ = some (.slice (some ⟨b, off, none⟩) l.length cap) := by rw [cell_of_row _ _ _ _ _ _ rA]; rfl
  have f2 : W3.cell? ⟨b, off, none⟩ = some (.int .u8 q) := hO.cell c0 (by simp)
  have hwq : IntKind.i64.wrap q = q := by simp [IntKind.wrap, IntKind.bits, IntKind.signed]; omega
  have hI3 := HI1.out.quiet hO
  have hB : ∀ w1, Only [] W3.drew w1 → (w1.cell? ⟨w.heap.size + 1, 0, none⟩ = some (.int .i64 0) ∧ w1.cell? ⟨w.heap.size + 1, 1, none⟩ = some (.int .i64 0) ∧ w1.cell? ⟨w.heap.size + 1, 2, none⟩ = some (.slice none 0 0)) ∧
      (w1.frozen? ⟨w.heap.size + 1, 0, none⟩ = false ∧ w1.frozen? ⟨w.heap.size + 1, 1, none⟩ = false ∧ w1.frozen? ⟨w.heap.size + 1, 2, none⟩ = false) ∧
      (w1.cell? ⟨w.heap.size + 1 + 1, 0, none⟩ = some (.int .i64 0) ∧ w1.cell? ⟨w.heap.size + 1 + 1, 1, none⟩ = some (.slice none 0 0)) ∧ (w1.frozen? ⟨w.heap.size + 1 + 1, 0, none⟩ = false ∧ w1.frozen? ⟨w.heap.size + 1 + 1, 1, none⟩ = false) := by
    intro w1 o
    have r1 := ((Only.refl [] W3).drew.q o).row rB
    have r2 := ((Only.refl [] W3).drew.q o).row rC
    refine ⟨⟨?_, ?_, ?_⟩, ⟨?_, ?_, ?_⟩, ⟨?_, ?_⟩, ?_, ?_⟩
    · rw [cell_of_row _ _ _ _ _ _ r1]; rfl
    · rw [cell_of_row _ _ _ _ _ _ r1]; rfl
    · rw [cell_of_row _ _ _ _ _ _ r1]; rfl
    · exact frozen_of_row _ _ _ _ _ r1
    · exact frozen_of_row _ _ _ _ _ r1
    · exact frozen_of_row _ _ _ _ _ r1
    · rw [cell_of_row _ _ _ _ _ _ r2]; rfl
    · rw [cell_of_row _ _ _ _ _ _ r2]; rfl
    · exact frozen_of_row _ _ _ _ _ r2
    · exact frozen_of_row _ _ _ _ _ r2
  have HB := Lib.hid hB
  have hbw : b < w.heap.size := block_lt_of_cell c0
  have hbA1 : (w.heap.size + 1 = w.heap.size) = False := by simp
  have hbA2 : (w.heap.size + 1 + 1 = w.heap.size) = False := eq_false (by omega)
  have hbn2 : (w.heap.size + 1 = b) = False := eq_false (by omega)
  have hbn4 : (w.heap.size + 1 + 1 = b) = False := eq_false (by omega)
  have hcp : Calls Tryz.prog 12 #[.slice a1 (l.length - 1) (cap - 1)] W3.drew (fun e w' => ∃ a2 cap2, e = .returned (.slice a2 (l.length - 1) cap2) ∧ Own .u8 5 W3.drew.heap.size w' (.slice a2 (l.length - 1) cap2) (l.drop 1) ∧ Only [] W3.drew w') := by
    refine (copyb_any (w := W3.drew) (hI3.quiet (Only.refl [] W3).drew) (by rw [Hl1.out]; omega)).mono ?_
    rintro e w1 ⟨v1, rfl, ho, hq⟩
    obtain ⟨a2, cap2, hv, _⟩ := ho.ints.open
    rw [Hl1.out] at hv
    subst hv
    exact ⟨a2, cap2, rfl, ho, hq⟩
  have Hc := Lib.hid hcp
  clear hcp
  clear rA rB rC hB hI3 c0
  go_region_held3 (fun w' => w'.cell? ⟨w.heap.size, 0, none⟩ = some (.int .i64 k) ∧ w'.cell? ⟨w.heap.size, 1, none⟩ = some (.slice (some ⟨b, off, none⟩) l.length cap) ∧ w'.cell? ⟨b, off, none⟩ = some (.int .u8 q))
    (first
      | (simp only [World.cell?_setCell_far, ne_eq, hbA1, hbA2, hbn2, hbn4, not_false_eq_true]; go_split_ands; refine ⟨?_, ?_, ?_⟩ <;> assumption)
      | (go_split_ands; with_reducible refine ⟨hq1.cell (by assumption) (by simp), hq1.cell (by assumption) (by simp), hq1.cell (by assumption) (by simp)⟩)
      | (simp [*, World.cell?_alloc_some, World.cell?_setCell_far, frozen?_alloc_cells, frozen_drew, World.frozen?_setCell])
      | fail)
    (first
      | (go_at_call 12; refine Hc.out.mono ?_; rintro e w1 ⟨a2, cap2, rfl, hown1, hq1⟩; obtain ⟨⟨m0, m1, m2⟩, ⟨n0, n1, n2⟩, ⟨p0, p1⟩, ⟨r0, r1⟩⟩ := HB.out w1 hq1)
      | fail)
  go_wp2_with fail
  refine bodyPost_ret (v := .tuple #[.agg #[.int .i64 k, .int .i64 q, .slice a2 (l.length - 1) cap2], .agg #[.int .i64 0, .slice none 0 0]]) (by simp [results, Tryz.results65, go_sem, hwq, m0, m1, m2, p0, p1, World.cell?_setCell_other]) rfl ?_
  apply HPost.out
  unfold HeadK
  rw [Hr.out]
  generalize hWf : World.setCell _ _ _ = Wf
  have hs : Only [w.heap.size + 1, w.heap.size + 1 + 1] w1 Wf := by
    rw [← hWf]
    exact (((((Only.refl _ _).setCell (by simp) _).setCell (by simp) _).setCell (by simp) _).setCell (by simp) _).setCell (by simp) _
  refine ⟨(hO.drew.q hq1).trans hs (by simp) (fun g hg hlt => ?_), _, ?_, (hown1.ints.only hs (fun g hg => ?_)).mono ?_ hs.size⟩
  · simp only [List.mem_cons, List.not_mem_nil, or_false] at hg; omega
  · rw [← Hq.out]
  · simp only [List.mem_cons, List.not_mem_nil, or_false] at hg
    left; show g < W3.heap.size; omega
  · show w.heap.size ≤ W3.heap.size; omega
end Go.Proofs.YtjpbnboaonnfgaaGreatDoor
/- kinref20.Read tells what a coded frame carries, or why not. Conditions: the data reads. -/
namespace Go.Proofs.YtjpbnboaonnfgaaGreatDoor
open Go.RowKit
set_option linter.unusedVariables false
set_option linter.unusedSimpArgs false

set_option maxRecDepth 100000 in
set_option maxHeartbeats 4000000 in
theorem kread_any {lo hi : Nat} {k : Int} {dv : Value} {l : List Int} {w : World} (h : Ints .u8 lo hi w dv l) (hlen : l.length ≤ 140737488355328) :
    Calls Tryz.prog 65 #[.agg #[.int .i64 k, dv]] w (HeadK w ⟨k, l⟩) := by
  obtain ⟨a, cap, rfl, hcap, hmax, hat, hcell⟩ := h.open
  have hcm : (cap : Int) ≤ 9223372036854775807 := by unfold maxLen at hmax; omega
  have HQ := Lib.hid (fun o o' o'' => (((Only.new w o).q (Only.new _ o')).q (Only.new _ o'')))
  have Hh := Lib.hid h
  have Hat := Lib.hid hat
  have Hcell := Lib.hid hcell
  clear h hat hcell hmax
  by_cases hk1 : k < 1
  · have Hr := Lib.hid (readB_13 (l := l) (.inl hk1))
    go_enter Tryz.func65, Tryz.ntmps65
    go_wp2_with (go_at_call 32; refine (fail_eq _ _).mono ?_; rintro e w' ⟨rfl, rfl⟩)
    exact bodyPost_ret (v := .tuple #[.agg #[.int .i64 0, .int .i64 0, .slice none 0 0], .agg #[.int .i64 13, .slice none 0 0]]) (by simp [results, Tryz.results65, go_sem]) rfl (HeadK.err Hr.out ((HQ.out _ _ _).alloc _) rfl)
  by_cases hk4 : 4 < k
  · have Hr := Lib.hid (readB_13 (l := l) (.inr hk4))
    go_enter Tryz.func65, Tryz.ntmps65
    go_wp2_with (go_at_call 32; refine (fail_eq _ _).mono ?_; rintro e w' ⟨rfl, rfl⟩)
    exact bodyPost_ret (v := .tuple #[.agg #[.int .i64 0, .int .i64 0, .slice none 0 0], .agg #[.int .i64 13, .slice none 0 0]]) (by simp [results, Tryz.results65, go_sem]) rfl (HeadK.err Hr.out ((HQ.out _ _ _).alloc _) rfl)
  have hkB := kindB_of hk1 hk4
  by_cases hk2 : 2 < k
  · have hbB := bareB_of hk4 hk2
    by_cases h0 : 0 < l.length
    · have Hr : Hid (readB ⟨k, l⟩ = some 2) := Lib.hid (by simp [readB, hkB, hbB, h0])
      clear hkB hbB
      go_enter Tryz.func65, Tryz.ntmps65
      go_wp2_with (go_at_call 32; refine (fail_eq _ _).mono ?_; rintro e w' ⟨rfl, rfl⟩)
      exact bodyPost_ret (v := .tuple #[.agg #[.int .i64 0, .int .i64 0, .slice none 0 0], .agg #[.int .i64 2, .slice none 0 0]]) (by simp [results, Tryz.results65, go_sem]) rfl (HeadK.err Hr.out ((HQ.out _ _ _).alloc _) rfl)
    · have hz : l = [] := List.eq_nil_of_length_eq_zero (by omega)
      have Hr : Hid (readB ⟨k, l⟩ = none) := Lib.hid (by simp [readB, hkB, hbB, hz])
      have Hz := Lib.hid hz
      clear hkB hbB hz
      go_enter Tryz.func65, Tryz.ntmps65
      go_wp2_with fail
      refine bodyPost_ret (v := .tuple #[.agg #[.int .i64 k, .int .i64 0, .slice none 0 0], .agg #[.int .i64 0, .slice none 0 0]]) (by simp [results, Tryz.results65, go_sem]) rfl ?_
      unfold HeadK
      rw [Hr.out, Hz.out]
      exact ⟨HQ.out _ _ _, _, rfl, Ints.nil _ _ _ _⟩
  · have hbB := bareB_no hk2
    by_cases h0 : l.length = 0
    · have hz : l = [] := List.eq_nil_of_length_eq_zero h0
      have h0i : ((l.length : Nat) : Int) = 0 := by omega
      have Hr : Hid (readB ⟨k, l⟩ = some 1) := Lib.hid (by simp [readB, hkB, hbB, hz])
      clear hkB hbB hz h0
      go_enter Tryz.func65, Tryz.ntmps65
      go_wp2_with (go_at_call 32; refine (fail_eq _ _).mono ?_; rintro e w' ⟨rfl, rfl⟩)
      exact bodyPost_ret (v := .tuple #[.agg #[.int .i64 0, .int .i64 0, .slice none 0 0], .agg #[.int .i64 1, .slice none 0 0]]) (by simp [results, Tryz.results65, go_sem]) rfl (HeadK.err Hr.out ((HQ.out _ _ _).alloc _) rfl)
    · have hpos : 0 < l.length := by omega
      have h0b : (((l.length : Nat) : Int) == 0) = false := by rw [beq_eq_false_iff_ne]; omega
      have hpi : (0 : Int) < (l.length : Int) := by omega
      obtain ⟨b, off, rfl, _, _⟩ := Hat.out 0 hpos
      have c0 := Hcell.out b off rfl 0 hpos
      rw [Nat.add_zero] at c0
      have hx := Hh.out.range hpos
      unfold InK at hx
      have Hr3 := Lib.hid (readB_3 hkB hbB hpos)
      have Hr5 := Lib.hid (readB_5 hkB hbB hpos)
      have Hr0 := Lib.hid (readB_0 hkB hbB hpos)
      obtain ⟨a1, hsl, hI1⟩ := slice_from Hh.out hcap (i := 1) hpos (z := 1) rfl
      have HI1 := Lib.hid hI1
      have hl1 : (l.drop 1).length = l.length - 1 := by simp
      have Hl1 := Lib.hid hl1
      clear hkB hbB h0 hI1 hl1
      generalize hq : l.getD 0 0 = q at *
      have Hq := Lib.hid hq
      clear hq
      have c1 : ∀ o o' o'', (((w.alloc o).alloc o').alloc o'').cell? ⟨b, off, none⟩ = some (.int .u8 q) := fun o o' o'' => (HQ.out o o' o'').cell c0 (by simp)
      by_cases h15 : 15 < q
      · have Hr := Lib.hid (Hr3.out h15)
        go_enter Tryz.func65, Tryz.ntmps65
        go_wp2_with (go_at_call 32; refine (fail_eq _ _).mono ?_; rintro e w' ⟨rfl, rfl⟩)
        exact bodyPost_ret (v := .tuple #[.agg #[.int .i64 0, .int .i64 0, .slice none 0 0], .agg #[.int .i64 3, .slice none 0 0]]) (by simp [results, Tryz.results65, go_sem]) rfl (HeadK.err Hr.out ((HQ.out _ _ _).alloc _) rfl)
      · by_cases h5 : 65536 < l.length
        · have Hr := Lib.hid (Hr5.out h15 h5)
          go_enter Tryz.func65, Tryz.ntmps65
          go_wp2_with (go_at_call 32; refine (fail_eq _ _).mono ?_; rintro e w' ⟨rfl, rfl⟩)
          exact bodyPost_ret (v := .tuple #[.agg #[.int .i64 0, .int .i64 0, .slice none 0 0], .agg #[.int .i64 5, .slice none 0 0]]) (by simp [results, Tryz.results65, go_sem]) rfl (HeadK.err Hr.out ((HQ.out _ _ _).alloc _) rfl)
        · exact kread_good Hh.out hcap hcm hlen hk1 hk4 hk2 hpos Hq.out h15 h5 (Hr0.out h15 h5)
end Go.Proofs.YtjpbnboaonnfgaaGreatDoor
/- kinref23.May: may this be a chunk, by the document. Conditions: the frames read, their data not too long. -/
namespace Go.Proofs.YtjpbnboaonnfgaaGreatDoor
open Go.RowKit
set_option linter.unusedVariables false
set_option linter.unusedSimpArgs false

theorem readB_code {c : Coded} {k : Int} (h : readB c = some k) : (k == 0) = false := by
  unfold readB at h
  split at h
  · cases h; rfl
  split at h
  · split at h
    · cases h; rfl
    · cases h
  split at h
  · cases h; rfl
  split at h
  · cases h; rfl
  split at h
  · cases h; rfl
  cases h
theorem headB_nums {n f c : Int} : headB n f c = (numB n && numB f && decide (1 ≤ c) && decide (c ≤ 16)) := by
  unfold headB numB
  rw [Bool.eq_iff_iff]
  simp
  omega

set_option maxRecDepth 100000 in
set_option maxHeartbeats 4000000 in
theorem kchunk_any {lo hi : Nat} {dv : Value} {c : Chunk} {w : World} (h : CodedsAt lo hi w dv c.coded) (hd : ∀ i, i < c.coded.length → (c.coded.getD i default).data.length ≤ 1000000) :
    Calls Tryz.prog 34 #[.agg #[.int .i64 c.number, .int .i64 c.first, .int .i64 c.count, dv]] w fun e w' => e = .returned (.bool (chunkB c)) ∧ Only [] w w' := by
  obtain ⟨num, fst, cnt, cod⟩ := c
  simp only at h hd
  obtain ⟨a, cap, rfl, hcap, hmax, hel⟩ := h.open
  have Hel := Lib.hid hel
  have Hd := Lib.hid hd
  have hll : (cod.length : Int) ≤ 9223372036854775807 := by unfold maxLen at hmax; omega
  clear h hel hmax hcap hd
  have hv0 : chunkB ⟨num, fst, cnt, cod⟩ = (headB num fst cnt && decide ((cod.length : Int) = cnt) && firstB (cod.getD 0 default).kind && cod.all fun x => (readB x).isNone) := rfl
  rw [headB_nums] at hv0
  have Hv0 := Lib.hid hv0
  clear hv0
  cases hn : numB num with
  | false =>
    have Hn := Lib.hid hn
    have Hr : Hid (chunkB ⟨num, fst, cnt, cod⟩ = false) := Lib.hid (by rw [Hv0.out, hn]; simp)
    clear hn
    go_enter Tryz.func34, Tryz.ntmps34
    go_wp2_with fail
    go_at_call 63
    refine (number15_any _ _).mono ?_
    rintro e w' ⟨rfl, rfl⟩
    rw [Hn.out]
    go_wp2_with fail
    go_ret
    exact ⟨ret_bool Hr.out.symm, Only.new _ _⟩
  | true =>
  cases hf : numB fst with
  | false =>
    have Hn := Lib.hid hn
    have Hf := Lib.hid hf
    have Hr : Hid (chunkB ⟨num, fst, cnt, cod⟩ = false) := Lib.hid (by rw [Hv0.out, hf]; simp)
    clear hn hf
    go_enter Tryz.func34, Tryz.ntmps34
    go_wp2_with fail
    go_at_call 63
    refine (number15_any _ _).mono ?_
    rintro e w' ⟨rfl, rfl⟩
    rw [Hn.out]
    go_wp2_with fail
    go_at_call 63
    refine (number15_any _ _).mono ?_
    rintro e w' ⟨rfl, rfl⟩
    rw [Hf.out]
    go_wp2_with fail
    go_ret
    exact ⟨ret_bool Hr.out.symm, Only.new _ _⟩
  | true =>
  have Hn := Lib.hid hn
  have Hf := Lib.hid hf
  clear hn hf
  by_cases hbad : cnt < 1 ∨ 16 < cnt ∨ (cod.length : Int) ≠ cnt
  · have Hr : Hid (chunkB ⟨num, fst, cnt, cod⟩ = false) := Lib.hid (by
      rw [Hv0.out]
      rcases hbad with h | h | h
      · have : decide (1 ≤ cnt) = false := by rw [decide_eq_false_iff_not]; omega
        simp [this]
      · have : decide (cnt ≤ 16) = false := by rw [decide_eq_false_iff_not]; omega
        simp [this]
      · simp [h])
    have h3 : cnt < 1 ∨ (¬ cnt < 1 ∧ 16 < cnt) ∨ (¬ cnt < 1 ∧ ¬ 16 < cnt ∧ ((cod.length : Int) == cnt) = false ∧ ((cod.length : Int) != cnt) = true) := by
      by_cases h1 : cnt < 1
      · exact .inl h1
      by_cases h2 : 16 < cnt
      · exact .inr (.inl ⟨h1, h2⟩)
      · have h3 : (cod.length : Int) ≠ cnt := by rcases hbad with h | h | h; exact absurd h h1; exact absurd h h2; exact h
        exact .inr (.inr ⟨h1, h2, by rw [beq_eq_false_iff_ne]; exact h3, by simpa using h3⟩)
    clear hbad
    rcases h3 with h1 | ⟨h1, h2⟩ | ⟨h1, h2, h3, h4⟩
    all_goals
      go_enter Tryz.func34, Tryz.ntmps34
      go_wp2_with fail
      go_at_call 63
      refine (number15_any _ _).mono ?_
      rintro e w' ⟨rfl, rfl⟩
      rw [Hn.out]
      go_wp2_with fail
      go_at_call 63
      refine (number15_any _ _).mono ?_
      rintro e w' ⟨rfl, rfl⟩
      rw [Hf.out]
      go_wp2_with fail
      go_ret
      exact ⟨ret_bool Hr.out.symm, Only.new _ _⟩
  · obtain ⟨g1, g2, rfl⟩ : ¬ cnt < 1 ∧ ¬ 16 < cnt ∧ (cod.length : Int) = cnt := by
      refine ⟨fun h => hbad (.inl h), fun h => hbad (.inr (.inl h)), ?_⟩
      by_cases h : (cod.length : Int) = cnt
      · exact h
      · exact absurd (.inr (.inr h)) hbad
    have hpos : 0 < cod.length := by omega
    have hp : (0 : Int) < (cod.length : Int) := by omega
    have hlb : ((cod.length : Int) == (cod.length : Int)) = true := by simp
    have hlb2 : ((cod.length : Int) != (cod.length : Int)) = false := by simp
    obtain ⟨b, off, dv, rfl, _, _, hc1, hc2, _, hd⟩ := Hel.out 0 hpos
    simp only [Nat.zero_mul, Nat.add_zero] at hc1 hc2
    have q1 := (Only.new w (.cells #[.int .i64 num, .int .i64 fst, .int .i64 cod.length, .slice (some ⟨b, off, none⟩) cod.length cap] 91)).cell hc1 (by simp)
    have Hv1 : Hid (chunkB ⟨num, fst, cod.length, cod⟩ = (firstB (cod.getD 0 default).kind && cod.all fun x => (readB x).isNone)) := Lib.hid (by
      rw [Hv0.out, Hn.out, Hf.out]
      have e1 : decide (1 ≤ (cod.length : Int)) = true := by rw [decide_eq_true_eq]; omega
      have e2 : decide ((cod.length : Int) ≤ 16) = true := by rw [decide_eq_true_eq]; omega
      rw [e1, e2]; simp)
    have row := heap_alloc_new w (.cells #[.int .i64 num, .int .i64 fst, .int .i64 cod.length, .slice (some ⟨b, off, none⟩) cod.length cap] 91)
    have HR1 := Lib.hid row
    clear hbad hd hc1 hc2 Hv0 row
    generalize hk0 : (cod.getD 0 default).kind = k0 at *
    have Hk0 := Lib.hid hk0
    clear hk0
    cases hfb : firstB k0 with
    | false =>
      have Hfb := Lib.hid hfb
      have Hr : Hid (chunkB ⟨num, fst, cod.length, cod⟩ = false) := Lib.hid (by rw [Hv1.out, hfb]; rfl)
      clear hfb
      go_enter Tryz.func34, Tryz.ntmps34
      go_wp2_with fail
      go_at_call 63
      refine (number15_any _ _).mono ?_
      rintro e w' ⟨rfl, rfl⟩
      rw [Hn.out]
      go_wp2_with fail
      go_at_call 63
      refine (number15_any _ _).mono ?_
      rintro e w' ⟨rfl, rfl⟩
      rw [Hf.out]
      go_wp2_with fail
      go_at_call 64
      refine (begins_any _ _).mono ?_
      rintro e w' ⟨rfl, rfl⟩
      rw [Hfb.out]
      go_wp2_with fail
      go_ret
      exact ⟨ret_bool Hr.out.symm, Only.new _ _⟩
    | true =>
      have Hfb := Lib.hid hfb
      have Hr : Hid (chunkB ⟨num, fst, cod.length, cod⟩ = cod.all fun x => (readB x).isNone) := Lib.hid (by rw [Hv1.out, hfb]; rfl)
      clear hfb Hv1
      go_enter Tryz.func34, Tryz.ntmps34
      go_wp2_with fail
      go_at_call 63
      refine (number15_any _ _).mono ?_
      rintro e w' ⟨rfl, rfl⟩
      rw [Hn.out]
      go_wp2_with fail
      go_at_call 63
      refine (number15_any _ _).mono ?_
      rintro e w' ⟨rfl, rfl⟩
      rw [Hf.out]
      go_wp2_with fail
      go_at_call 64
      refine (begins_any _ _).mono ?_
      rintro e w' ⟨rfl, rfl⟩
      rw [Hfb.out]
      go_wp2_with fail
      have hO1 : Only [] w (w.alloc (.cells #[.int .i64 num, .int .i64 fst, .int .i64 cod.length, .slice (some ⟨b, off, none⟩) cod.length cap] 91)) := Only.new _ _
      generalize w.alloc (.cells #[.int .i64 num, .int .i64 fst, .int .i64 cod.length, .slice (some ⟨b, off, none⟩) cod.length cap] 91) = W1 at *
      go_loopw [4] (fun i wr => ∃ k : Nat, k ≤ cod.length ∧ i = .int .i64 k ∧ Hid (((cod.drop k).all fun x => (readB x).isNone) = (cod.all fun x => (readB x).isNone)) ∧ Only [] W1 wr) (fun i _ => cod.length - (intOf i).toNat)
      case atStart => exact ⟨0, by omega, rfl, Lib.hid rfl, Only.refl _ _⟩
      case round =>
        clear q1
        obtain ⟨k, hk, rfl, Hk, hq⟩ := hrel
        have rA := hq.row HR1.out
        have y3 : wr.cell? ⟨w.heap.size, 2 + 1, none⟩ = some (.slice (some ⟨b, off, none⟩) cod.length cap) := by rw [cell_of_row _ _ _ _ _ _ rA]; rfl
        have y3' : wr.cell? ⟨w.heap.size, 3, none⟩ = some (.slice (some ⟨b, off, none⟩) cod.length cap) := y3
        by_cases hlt : k < cod.length
        · obtain ⟨b', off', dv', e, _, _, hc1, hc2, _, hd⟩ := Hel.out k hlt
          injection e with e
          injection e with e1 e2
          subst e1; subst e2
          have c1 := (hO1.q hq).cell hc1 (by simp)
          have c2 := (hO1.q hq).cell hc2 (by simp)
          obtain ⟨da, dcap, rfl, _⟩ := hd.open
          have hx : (0 : Int) ≤ (k : Int) := by omega
          have hx1 : (k : Int) < (cod.length : Int) := by omega
          have HI := Lib.hid (kread_any (k := (cod.getD k default).kind) (hd.quiet (hO1.q hq)) (by have := Hd.out k hlt; omega))
          have hdrop := all_drop_succ (fun x => (readB x).isNone) hlt
          clear hc1 hc2 hd rA
          generalize cod.getD k default = x at *
          obtain ⟨xk, xd⟩ := x
          simp only at c1 c2 HI hdrop
          cases hrb : readB ⟨xk, xd⟩ with
          | some kc =>
            have hkc := readB_code hrb
            have Hrr : Hid (chunkB ⟨num, fst, cod.length, cod⟩ = false) := Lib.hid (by rw [Hr.out, ← Hk.out, hdrop, hrb]; rfl)
            have Hrb := Lib.hid hrb
            clear hrb hdrop
            go_wp2_with fail
            go_at_call 65
            refine HI.out.mono ?_
            rintro e w1 hP
            unfold HeadK at hP
            rw [Hrb.out] at hP
            obtain ⟨hq1, rfl⟩ := hP
            go_wp2_with fail
            go_at_call 38
            refine (ok_eq _ _ _).mono ?_
            rintro e w2 ⟨rfl, rfl⟩
            go_wp2_with fail
            go_ret
            exact ⟨ret_bool Hrr.out.symm, (hO1.q hq).q (((hq1.alloc _).alloc _).alloc _)⟩
          | none =>
            have Hrb := Lib.hid hrb
            have Hk2 : Hid (((cod.drop (k + 1)).all fun x => (readB x).isNone) = (cod.all fun x => (readB x).isNone)) := Lib.hid (by rw [← Hk.out, hdrop, hrb]; simp)
            clear hrb hdrop
            go_wp2_with fail
            go_at_call 65
            refine HI.out.mono ?_
            rintro e w1 hP
            unfold HeadK at hP
            rw [Hrb.out] at hP
            obtain ⟨hq1, dv1, rfl, hd1⟩ := hP
            obtain ⟨da1, dcap1, rfl, _⟩ := hd1.open
            simp only
            clear hd1
            go_wp2_with fail
            go_at_call 38
            refine (ok_eq _ _ _).mono ?_
            rintro e w2 ⟨rfl, rfl⟩
            go_wp2_with fail
            go_roundw
            case rel => exact ⟨k + 1, by omega, by go_num, Hk2, hq.q (((hq1.alloc _).alloc _).alloc _)⟩
            case measure => simp [intOf]; omega
        · obtain rfl : k = cod.length := by omega
          have hx : ¬ (cod.length : Int) < (cod.length : Int) := by omega
          have Hrr : Hid (chunkB ⟨num, fst, cod.length, cod⟩ = true) := Lib.hid (by rw [Hr.out, ← Hk.out, List.drop_length]; rfl)
          go_wp2_with fail
          go_ret
          exact ⟨ret_bool Hrr.out.symm, hO1.q hq⟩
end Go.Proofs.YtjpbnboaonnfgaaGreatDoor
/- kinref23.Sizes, kinref23.fit. Conditions: what is handed in reads. -/
namespace Go.Proofs.YtjpbnboaonnfgaaGreatDoor
open Go.RowKit
set_option linter.unusedVariables false
set_option linter.unusedSimpArgs false

set_option maxRecDepth 100000 in
set_option maxHeartbeats 800000 in
theorem ksizes_any {lo hi : Nat} {v : Value} {l : List Coded} {w : World} (h : CodedsAt lo hi w v l) (hl : l.length ≤ 1000000) (hd : ∀ i, i < l.length → (l.getD i default).data.length ≤ 1000000000000000) :
    Calls Tryz.prog 35 #[v] w fun e w' => ∃ v', e = .returned v' ∧ Own .i64 3 w.heap.size w' v' (sizesOf l) ∧ Only [] w w' := by
  obtain ⟨a, cap, hv, hcap, hmax, hel⟩ := h.open
  subst hv
  have Hel := Lib.hid hel
  have Hl := Lib.hid hl
  have Hd := Lib.hid hd
  have hll : (l.length : Int) ≤ 9223372036854775807 := by omega
  clear h hel hmax hcap hl hd
  go_enter Tryz.func35, Tryz.ntmps35
  go_wp2
  go_loopw [4, 3] (fun i y wr => ∃ k : Nat, k ≤ l.length ∧ i = .int .i64 k ∧ Own .i64 3 w.heap.size wr y (sizesOf (l.take k)) ∧ From w.heap.size y ∧ Only [] w wr) (fun i _ _ => l.length - (intOf i).toNat)
  case atStart => exact ⟨0, by omega, rfl, Own.nil _ _ _ _, From.nil _, Only.refl _ _⟩
  case round =>
    obtain ⟨k, hk, rfl, hown, hfrom, hq⟩ := hrel
    by_cases hlt : k < l.length
    · obtain ⟨b, off, dv, rfl, _, _, hc1, hc2, _, hd⟩ := Hel.out k hlt
      have c2 := hq.cell hc2 (by simp)
      obtain ⟨da, dcap, rfl, _⟩ := hd.open
      have hdl := Hd.out k hlt
      have hs := getD_map_take hlt
      have hlen : (sizesOf (l.take k)).length = k := by simp [sizesOf]; omega
      clear hc1 hc2 hd
      have Hs := Lib.hid hs
      clear hs
      generalize sizesOf (l.take k) = S0 at *
      generalize l.getD k default = x at *
      have Hlen := Lib.hid hlen
      have hx : (0 : Int) ≤ (k : Int) := by omega
      have hx1 : (k : Int) < (l.length : Int) := by omega
      have hw8 : (8 : Int) + (x.data.length : Int) = (x.data.length : Int) + 8 := by omega
      have Hw8 := Lib.hid hw8
      clear hlen hw8
      go_wp2_with (first | (at_builtin; refine wpList_append_ints rfl (.tmp 11) (.tmp 19) _ rfl EI (hown.quiet (Only.new _ _)) rfl (ints_newG (l := [(8 : Int) + (x.data.length : Int)]) rfl (by simp [maxLen]) ?c0 1 rfl rfl) rfl ?c1 ?c2 (fun v1 w1 hown1 ho1 => ?_)) | fail)
      case c0 => simp only [List.mem_cons, List.not_mem_nil, or_false, forall_eq, InK]; omega
      case c1 => have := Hlen.out; have := Hl.out; simp; omega
      case c2 => have := hq.size; simp at this ⊢; omega
      have hq2 := hq.q (Only.new _ (.cells #[.int .i64 ((8 : Int) + (x.data.length : Int))] 3))
      rw [Hw8.out] at hown1
      go_wp2_with fail
      go_roundw
      case rel => exact ⟨k + 1, by omega, by go_num, by rw [Hs.out]; exact hown1, ho1.from_ hfrom hq2.size, hq2.acc ho1 hfrom⟩
      case measure => simp [intOf]; omega
    · obtain rfl : k = l.length := by omega
      go_wp2
      go_ret
      exact ⟨_, rfl, by simpa using hown, hq⟩

/-- the document's way to ask whether chunks fit -/
def fitGo (i a : Int) : List Chunk → Bool
  | [] => decide (a ≤ 16)
  | c :: l => if c.number ≠ i ∨ c.first ≠ a then false else fitGo (i + 1) (a + c.count) l
theorem fitGo_over : ∀ (l : List Chunk) (i a : Int), 16 < a → (∀ c ∈ l, 1 ≤ c.count) → fitGo i a l = false
  | [], i, a, h, _ => by simp [fitGo]; omega
  | c :: l, i, a, h, hc => by
    unfold fitGo
    split
    · rfl
    · exact fitGo_over l _ _ (by have := hc c (by simp); omega) (fun x hx => hc x (by simp [hx]))
theorem fitGo_runs : ∀ (l : List Chunk) (i a : Int), a ≤ 16 → (∀ c ∈ l, 1 ≤ c.count) → fitGo i a l = runsOn i a l
  | [], i, a, h, _ => by simp [fitGo, runsOn]; omega
  | c :: l, i, a, h, hc => by
    unfold fitGo runsOn
    by_cases h1 : c.number ≠ i ∨ c.first ≠ a
    · rw [if_pos h1, if_pos (h1.elim .inl (fun h => .inr (.inl h)))]
    · rw [if_neg h1]
      by_cases h2 : 16 - a < c.count
      · rw [if_pos (.inr (.inr h2))]
        exact fitGo_over l _ _ (by omega) (fun x hx => hc x (by simp [hx]))
      · rw [if_neg (fun h => h.elim (fun h => h1 (.inl h)) (fun h => h.elim (fun h => h1 (.inr h)) h2))]
        exact fitGo_runs l _ _ (by omega) (fun x hx => hc x (by simp [hx]))
theorem fitGo_drop {l : List Chunk} {k : Nat} {i a : Int} (h : k < l.length) : fitGo i a (l.drop k) = (if (l.getD k default).number ≠ i ∨ (l.getD k default).first ≠ a then false else fitGo (i + 1) (a + (l.getD k default).count) (l.drop (k + 1))) := by
  rw [List.drop_eq_getElem_cons h]
  have : l.getD k default = l[k] := by simp [h]
  rw [this]; rfl

set_option maxRecDepth 100000 in
set_option maxHeartbeats 1000000 in
theorem fit_any {lo hi : Nat} {v : Value} {l : List Chunk} {w : World} (h : ChunksAt lo hi w v l) (hl : l.length ≤ 1000) (hg : ∀ i, i < l.length → 1 ≤ (l.getD i default).count ∧ (l.getD i default).count ≤ 16) :
    Calls Tryz.prog 36 #[v] w fun e w' => e = .returned (.bool (fitGo 0 0 l)) ∧ w = w' := by
  obtain ⟨a, cap, rfl, hcap, hmax, hel⟩ := h.open
  have Hel := Lib.hid hel
  have Hg := Lib.hid hg
  have hll : (l.length : Int) ≤ 1000 := by omega
  clear h hel hmax hcap hl hg
  go_enter Tryz.func36, Tryz.ntmps36
  go_wp2_with fail
  go_loop [4, 3] (fun i y => ∃ (k : Nat) (a : Int), k ≤ l.length ∧ i = .int .i64 k ∧ y = .int .i64 a ∧ 0 ≤ a ∧ a ≤ 16 * k ∧ Hid (fitGo k a (l.drop k) = fitGo 0 0 l)) (fun i _ => l.length - (intOf i).toNat)
  case atStart => exact ⟨0, 0, by omega, rfl, rfl, by omega, by omega, Lib.hid rfl⟩
  case round =>
    obtain ⟨k, m, hk, rfl, rfl, hm0, hm1, Hk⟩ := hrel
    by_cases hlt : k < l.length
    · obtain ⟨b, off, cv, rfl, _, _, c0, c1, c2, _, _, _⟩ := Hel.out k hlt
      have hx : (0 : Int) ≤ (k : Int) := by omega
      have hx1 : (k : Int) < (l.length : Int) := by omega
      obtain ⟨g0, g1⟩ := Hg.out k hlt
      have Hdrop := Lib.hid (fitGo_drop (i := k) (a := m) hlt)
      generalize l.getD k default = x at *
      obtain ⟨xn, xf, xc, xl⟩ := x
      simp only at c0 c1 c2 g0 g1
      by_cases hbr : xn ≠ k ∨ xf ≠ m
      · have Hr : Hid (fitGo 0 0 l = false) := Lib.hid (by rw [← Hk.out, Hdrop.out]; exact if_pos hbr)
        by_cases hn : xn = k
        · have hf : (xf == m) = false := by rw [beq_eq_false_iff_ne]; exact hbr.elim (fun h => absurd hn h) id
          have hf2 : (xf != m) = true := by simp [bne, hf]
          have hn1 : (xn == (k : Int)) = true := by simp [hn]
          have hn2 : (xn != (k : Int)) = false := by simp [bne, hn1]
          clear hbr hn
          go_wp2_with fail
          go_ret
          exact ⟨ret_bool Hr.out.symm, rfl⟩
        · have hn1 : (xn == (k : Int)) = false := by rw [beq_eq_false_iff_ne]; exact hn
          have hn2 : (xn != (k : Int)) = true := by simp [bne, hn1]
          clear hbr hn
          go_wp2_with fail
          go_ret
          exact ⟨ret_bool Hr.out.symm, rfl⟩
      · have Hr : Hid (fitGo k m (l.drop k) = fitGo (k + 1) (m + xc) (l.drop (k + 1))) := Lib.hid (by rw [Hdrop.out]; exact if_neg hbr)
        obtain ⟨rfl, rfl⟩ : xn = (k : Int) ∧ xf = m := by
          by_cases hn : xn = k
          · exact ⟨hn, by by_cases hf : xf = m; exact hf; exact absurd (.inr hf) hbr⟩
          · exact absurd (.inl hn) hbr
        have hb1 : ((k : Int) == (k : Int)) = true := by simp
        have hb2 : (xf == xf) = true := by simp
        clear hbr
        go_wp2_with fail
        go_round
        case rel => exact ⟨k + 1, xf + xc, by omega, by go_num, rfl, by omega, by omega, Lib.hid (by rw [← Hk.out, Hr.out]; norm_cast)⟩
        case measure => simp [intOf]; omega
    · obtain rfl : k = l.length := by omega
      have hx : ¬ (l.length : Int) < (l.length : Int) := by omega
      have hR : fitGo 0 0 l = decide (m ≤ 16) := by rw [← Hk.out, List.drop_length]; rfl
      have HR := Lib.hid hR
      clear hR
      go_wp2_with fail
      go_ret
      exact ⟨ret_bool HR.out.symm, rfl⟩
end Go.Proofs.YtjpbnboaonnfgaaGreatDoor
/- kinlaw23.Plain and kinlaw24.plain hand chunks over to the document's answer. Conditions: the chunks read. -/
namespace Go.Proofs.YtjpbnboaonnfgaaGreatDoor
open Go.RowKit
set_option linter.unusedVariables false
set_option linter.unusedSimpArgs false

theorem EKC : Elem Tryz.prog 38 91 (.agg #[.int .i64 0, .int .i64 0, .int .i64 0, .slice none 0 0]) 4 48 := Elem.mk' Tryz.underlying38 (by kernel_rfl) rfl (by omega) (by omega)
/-- the cells of the first rows -/
def rowsL (f : Nat → Nat → Value) (k : Nat) : List Value := (List.range k).flatMap fun i => [f i 0, f i 1, f i 2, f i 3]
theorem rowsL_succ (f : Nat → Nat → Value) (k : Nat) : rowsL f (k + 1) = rowsL f k ++ [f k 0, f k 1, f k 2, f k 3] := by simp [rowsL, List.range_succ, List.flatMap_append]
theorem rowsL_length (f : Nat → Nat → Value) : ∀ k, (rowsL f k).length = k * 4
  | 0 => rfl
  | k + 1 => by rw [rowsL_succ, List.length_append, rowsL_length f k]; simp; omega
theorem rowsL_at (f : Nat → Nat → Value) : ∀ (k i j : Nat), i < k → j < 4 → (rowsL f k)[i * 4 + j]? = some (f i j)
  | 0, i, j, h, _ => absurd h (by omega)
  | k + 1, i, j, h, hj => by
    rw [rowsL_succ]
    by_cases hik : i < k
    · rw [List.getElem?_append_left (by rw [rowsL_length]; omega)]
      exact rowsL_at f k i j hik hj
    · obtain rfl : i = k := by omega
      rw [List.getElem?_append_right (by rw [rowsL_length]; omega), rowsL_length, Nat.add_sub_cancel_left]
      match j, hj with
      | 0, _ | 1, _ | 2, _ | 3, _ => rfl

theorem plain1_any (n a b : Int) (s : Option Addr) (m cap : Nat) (w : World) :
    Calls Tryz.prog 43 #[.agg #[.int .i64 n, .int .i64 a, .int .i64 b, .slice s m cap]] w fun e w' => e = .returned (.agg #[.int .i64 n, .int .i64 a, .int .i64 b, .slice s m cap]) ∧ Only [] w w' := by
  go_enter Tryz.func43, Tryz.ntmps43
  go_wp2
  exact bodyPost_ret (v := .agg #[.int .i64 n, .int .i64 a, .int .i64 b, .slice s m cap]) (by simp [results, Tryz.results43, go_sem]) rfl ⟨rfl, (Only.new _ _).q (Only.new _ _)⟩

set_option maxRecDepth 100000 in
set_option maxHeartbeats 1600000 in
theorem plain_any {lo hi : Nat} {v : Value} {l : List Chunk} {w : World} (h : ChunksAt lo hi w v l) (hhi : hi ≤ w.heap.size) (hl : l.length ≤ 1000) :
    Calls Tryz.prog 9 #[v] w fun e w' => ∃ v', e = .returned v' ∧ ChunksAt 0 w'.heap.size w' v' l ∧ Only [] w w' := by
  obtain ⟨f, hr, hf⟩ := id h
  obtain ⟨a, cap, rfl, hcap, hmax, hel⟩ := hr.open
  have Hel := Lib.hid hel
  have Hf := Lib.hid hf
  have Hl := Lib.hid hl
  have hll : (l.length : Int) ≤ 9223372036854775807 := by omega
  clear h hr hel hf hmax hcap hl
  go_enter Tryz.func9, Tryz.ntmps9
  go_wp2_with fail
  go_loopw [4, 3] (fun i y wr => ∃ k : Nat, k ≤ l.length ∧ i = .int .i64 k ∧ wr.ownsRow w.heap.size 91 4 y k (rowsL f k) ∧ From w.heap.size y ∧ Only [] w wr) (fun i _ _ => l.length - (intOf i).toNat)
  case atStart => exact ⟨0, by omega, rfl, World.ownsRow_nil _ _ _ _, From.nil _, Only.refl _ _⟩
  case round =>
    obtain ⟨k, hk, rfl, hown, hfrom, hq⟩ := hrel
    by_cases hlt : k < l.length
    · obtain ⟨b, off, rfl, _, _, hc⟩ := Hel.out k hlt
      obtain ⟨e0, e1, e2, hok, hcd⟩ := Hf.out k hlt
      have c0 := hq.cell (hc 0 (by omega)) (by simp)
      have c1 := hq.cell (hc 1 (by omega)) (by simp)
      have c2 := hq.cell (hc 2 (by omega)) (by simp)
      have c3 := hq.cell (hc 3 (by omega)) (by simp)
      obtain ⟨ca, ccap, e3, _⟩ := hcd.open
      have hsucc := rowsL_succ f k
      rw [e0, e1, e2, e3] at hsucc
      rw [e0] at c0
      rw [e1] at c1
      rw [e2] at c2
      rw [e3] at c3
      rw [Nat.add_zero] at c0
      have Hs := Lib.hid hsucc
      have hx : (0 : Int) ≤ (k : Int) := by omega
      have hx1 : (k : Int) < (l.length : Int) := by omega
      have hqz := hq.size
      generalize l.getD k default = x at *
      obtain ⟨xn, xf, xc, xl⟩ := x
      simp only at c0 c1 c2 c3 Hs
      clear hc e0 e1 e2 e3 hok hcd hsucc
      go_wp2_with fail
      go_at_call 43
      refine (plain1_any _ _ _ _ _ _ _).mono ?_
      rintro e w1 ⟨rfl, hq1⟩
      have hz1 := hq1.size
      have hsrc := cells_newG (size := 4) (w := w1) (t := 91) (g := w1.heap.size) (n := 1) (vs := #[.int .i64 xn, .int .i64 xf, .int .i64 xc, .slice ca xl.length ccap]) rfl rfl (by simp [maxLen]) rfl
      have hown1 := owns_only hown (hq1.q (Only.new w1 (.cells #[.int .i64 xn, .int .i64 xf, .int .i64 xc, .slice ca xl.length ccap] 91))) (by simp)
      go_wp2_with (first | (at_builtin; refine wpList_append_cells rfl (.tmp 11) (.tmp 17) 38 rfl EKC hown1 rfl hsrc rfl ?c0 ?c1 ?c2 ?c3 (fun v1 w2 hown2 ho2 hat2 => ?_)) | fail)
      case c0 => intro u hu; simp only [List.mem_cons, List.not_mem_nil, or_false] at hu; rcases hu with rfl | rfl | rfl | rfl <;> rfl
      case c1 => have := Hl.out; simp [maxLen]; omega
      case c2 => have := Hl.out; omega
      case c3 => simp; omega
      have hacc : Acc u3 (w1.alloc (.cells #[.int .i64 xn, .int .i64 xf, .int .i64 xc, .slice ca xl.length ccap] 91)) v1 w2 := ⟨ho2, hat2.imp id fun e g hg => by rw [e] at hg; injection hg with hg; omega⟩
      have Hown2 := Lib.hid hown2
      have Hacc := Lib.hid hacc
      have Hq2 := Lib.hid ((hq.q hq1).q (Only.new w1 (.cells #[.int .i64 xn, .int .i64 xf, .int .i64 xc, .slice ca xl.length ccap] 91)))
      clear hown hown1 hown2 ho2 hat2 hacc hsrc
      go_wp2_with fail
      go_roundw
      case rel => exact ⟨k + 1, by omega, by go_num, by rw [Hs.out]; exact Hown2.out, Hacc.out.from_ hfrom (by simp; omega), Hq2.out.acc Hacc.out hfrom⟩
      case measure => simp [intOf]; omega
    · obtain rfl : k = l.length := by omega
      go_wp2
      go_ret
      refine ⟨_, rfl, ⟨f, (Rows.of_own hown (fun i j hi hj => rowsL_at f _ i j hi hj)).mono (Nat.zero_le _) (Nat.le_refl _), fun i hi => ?_⟩, hq⟩
      obtain ⟨e0, e1, e2, hok, hcd⟩ := Hf.out i hi
      exact ⟨e0, e1, e2, hok, (hcd.quiet hq).mono (Nat.zero_le _) (Nat.le_trans hhi hq.size)⟩
end Go.Proofs.YtjpbnboaonnfgaaGreatDoor
/- kinref18.Fills: how much is filled behind each size, by the document. Conditions: the configuration is valid, the sizes are within their bounds. -/
namespace Go.Proofs.YtjpbnboaonnfgaaGreatDoor
open Go.RowKit
set_option linter.unusedVariables false
set_option linter.unusedSimpArgs false

def KListOr (w : World) (r : Except Err (List Int)) (e : Ending) (w' : World) : Prop :=
  Only [] w w' ∧ match r with
    | .ok l => ∃ v, e = .returned (.tuple #[v, .agg #[.int .i64 0, .slice none 0 0]]) ∧ Own .i64 3 w.heap.size w' v l
    | .error er => ∃ ev, e = .returned (.tuple #[.slice none 0 0, ev]) ∧ KErrAt w.heap.size w'.heap.size w' ev er.code er.path
theorem within_sizes {l : List Int} (h : sizesB l = true) : withinB l 0 1073741824 = true := by
  rw [withinB, List.all_eq_true]
  rw [sizesB, List.all_eq_true] at h
  intro x hx
  have := h x hx
  simp only [fromB, Bool.and_eq_true, decide_eq_true_eq] at this
  rw [decide_eq_true_eq]; omega

set_option maxRecDepth 100000 in
set_option maxHeartbeats 1000000 in
theorem asks_ok {lo hi : Nat} (c : Cfg) {v : Value} {l : List Int} {w : World} (h : Ints .i64 lo hi w v l) (hc : mayB c = true) (hl : l.length ≤ 4096) (hs : sizesB l = true) :
    Calls Tryz.prog 66 #[c.v, v] w fun e w' => e = .returned (.agg #[.int .i64 0, .slice none 0 0]) ∧ Only [] w w' := by
  have Hh := Lib.hid h
  have HW := Lib.hid (within_sizes hs)
  obtain ⟨a, cap, rfl, _⟩ := h.open
  obtain ⟨a0, a1, a2, a3, a4, a5, a6, a7⟩ := c
  have hmay := fun W => kmay_any ⟨a0, a1, a2, a3, a4, a5, a6, a7⟩ W
  rw [hc] at hmay
  unfold Cfg.v at hmay ⊢
  simp only at hmay ⊢
  have HM := Lib.hid hmay
  have hl' : ¬ 4096 < l.length := by omega
  clear hmay h hc hs hl
  go_enter Tryz.func66, Tryz.ntmps66
  go_wp2_with fail
  generalize hW : (w.alloc _).alloc _ = W2
  have hO2 : Only [] w W2 := by rw [← hW]; exact (Only.new _ _).q (Only.new _ _)
  have hE : W2.heap[w.heap.size + 1]? = some (.cells #[.int .i64 0, .slice none 0 0] 35 (0, 0)) := by rw [← hW]; exact heap_alloc_new' (by simp)
  clear hW
  go_at_call 31
  refine (HM.out _).mono ?_
  rintro e w1 ⟨rfl, hq1⟩
  obtain ⟨m0, m1, f0, f1, hlt⟩ := row2 (hq1.row hE)
  go_wp2_with fail
  go_at_call 85
  refine (within_any _ _ (Hh.out.quiet (hO2.q hq1))).mono ?_
  rintro e w' ⟨rfl, rfl⟩
  rw [HW.out]
  go_wp2_with fail
  refine bodyPost_ret (v := .agg #[.int .i64 0, .slice none 0 0]) (by simp [results, Tryz.results66, go_sem, m0, m1, World.cell?_setCell_other]) rfl ?_
  exact ⟨rfl, (hO2.q hq1).set2 (by omega) _ _⟩

set_option maxRecDepth 100000 in
set_option maxHeartbeats 4000000 in
theorem kfills_any {lo hi : Nat} (c : Cfg) {v : Value} {l : List Int} {w : World} (h : Ints .i64 lo hi w v l) (hc : mayB c = true) (hl : l.length ≤ 4096) (hs : sizesB l = true) :
    Calls Tryz.prog 37 #[c.v, v] w (KListOr w (fills c l)) := by
  obtain ⟨_, _, _, _, _, _, _, _, _, _, q10, q11, q12, q13, q14, q15, _, q17⟩ := may_bounds hc
  have hask := fun (W : World) (hI : Ints .i64 lo hi W v l) => asks_ok c hI hc hl hs
  have hv : vcheck c l = none := by unfold vcheck; rw [if_neg (by simp [hc]), if_neg (by omega), if_neg (by simp [hs])]
  have hR : fills c l = fillsGo c.rate c.room 0 c.fill l := by simp [fills, hv]
  have hS := fun i (hi : i < l.length) => sizesB_at hs hi
  obtain ⟨a, cap, rfl, hcap, hmax, hat, hcell⟩ := h.open
  have hll : l.length ≤ 9223372036854775807 := by unfold maxLen at hmax; omega
  have Hat := Lib.hid hat
  have Hcell := Lib.hid hcell
  have Hh := Lib.hid h
  obtain ⟨a0, a1, a2, a3, a4, a5, a6, a7⟩ := c
  simp only at q10 q11 q12 q13 q14 q15 q17 hR
  unfold Cfg.v at hask ⊢
  simp only at hask ⊢
  have HR := Lib.hid hR
  have HS := Lib.hid hS
  have Hask := Lib.hid hask
  clear hask hv hR hS hat hcell h hmax hcap hc hs
  go_enter Tryz.func37, Tryz.ntmps37
  go_wp2_with fail
  generalize hW : (w.alloc _).alloc _ = W2
  have hO2 : Only [] w W2 := by rw [← hW]; exact (Only.new _ _).q (Only.new _ _)
  have hz2 : w.heap.size + 2 ≤ W2.heap.size := by rw [← hW]; simp
  have hA : W2.heap[w.heap.size]? = some (.cells #[.int .i64 a0, .int .i64 a1, .int .i64 a2, .int .i64 a3, .int .i64 a4, .int .i64 a5, .int .i64 a6, .int .i64 a7] 23 (0, 0)) := by
    rw [← hW, Below.heap_alloc _ _ _ (by simp)]; exact heap_alloc_new _ _
  have hE : W2.heap[w.heap.size + 1]? = some (.cells #[.int .i64 0, .slice none 0 0] 35 (0, 0)) := by rw [← hW]; exact heap_alloc_new' (by simp)
  clear hW
  go_at_call 66
  refine (Hask.out _ (Hh.out.quiet hO2)).mono ?_
  rintro e w3 ⟨rfl, hq3⟩
  have hz3 := hq3.size
  go_wp2_with fail
  go_at_call 38
  refine (ok_eq _ _ _).mono ?_
  rintro e w' ⟨rfl, rfl⟩
  generalize hW4 : (w3.alloc _).alloc _ = W4
  have hO4 : Only [] w3 W4 := by rw [← hW4]; exact (Only.new _ _).q (Only.new _ _)
  have hz4 : w3.heap.size + 2 ≤ W4.heap.size := by rw [← hW4]; simp
  have hD : W4.heap[w3.heap.size]? = some (.cells #[.int .i64 0, .slice none 0 0] 35 (0, 0)) := by
    rw [← hW4, Below.heap_alloc _ _ _ (by simp)]; exact heap_alloc_new _ _
  clear hW4
  have hq4 : Only [] w W4 := (hO2.q hq3).q hO4
  have hA4 := hO4.row (hq3.row hA)
  have hE4 := hO4.row (hq3.row hE)
  obtain ⟨_, _, _, k7⟩ := row8 hA4
  have HA4 := Lib.hid hA4
  have HE4 := Lib.hid hE4
  have HD := Lib.hid hD
  clear hA hE hA4 hE4 hD
  go_wp2_with fail
  clear k7
  go_loopw [9, 7, 8, 10] (fun i y x _ wr => ∃ (k : Nat) (has : Int) (out : List Int), k ≤ l.length ∧ i = .int .i64 k ∧ x = .int .i64 has ∧ 0 ≤ has ∧ has ≤ a6 ∧ Hid (out.length = k) ∧
      Hid (pre out (fillsGo a5 a6 k has (l.drop k)) = fillsGo a5 a6 0 a7 l) ∧ Own .i64 3 W4.heap.size wr y out ∧ From W4.heap.size y ∧ Only [] W4 wr) (fun i _ _ _ _ => l.length - (intOf i).toNat)
  case atStart => exact ⟨0, a7, [], by omega, rfl, rfl, by omega, by omega, Lib.hid rfl, Lib.hid (pre_nil _), Own.nil _ _ _ _, From.nil _, Only.refl _ _⟩
  case round =>
    obtain ⟨k, has, out, hk, rfl, rfl, h0, h1, Hout, Hpre, hown, hfrom, hqr⟩ := hrel
    have hA5 := hqr.row HA4.out
    obtain ⟨_, k5, k6, _⟩ := row8 hA5
    have hE5 := hqr.row HE4.out
    have hD5 := hqr.row HD.out
    have hzr := hqr.size
    by_cases hlt : k < l.length
    · obtain ⟨b, off, rfl, _, _⟩ := Hat.out k hlt
      have hc := (hq4.q hqr).cell (Hcell.out b off rfl k hlt) (by simp)
      obtain ⟨n0, n1⟩ := HS.out k hlt
      have hd := drop_cons hlt
      have hx : (0 : Int) ≤ (k : Int) := by omega
      have hx1 : (k : Int) < (l.length : Int) := by omega
      generalize l.getD k 0 = n at *
      have Hd := Lib.hid hd
      clear hd
      by_cases hn : has < n
      · have Hfin : Hid (fills ⟨a0, a1, a2, a3, a4, a5, a6, a7⟩ l = .error ⟨[(sVbv, k)], 14⟩) := Lib.hid (by rw [HR.out, ← Hpre.out, Hd.out, fillsGo, if_pos hn]; rfl)
        go_wp2_with fail
        go_at_call 20
        refine (wrap_any _ _ _ _ (by omega)).mono ?_
        rintro e w5 ⟨ev, rfl, hev, hq5⟩
        obtain ⟨sv, rfl, hsv⟩ := id hev
        obtain ⟨sa, scap, rfl⟩ : ∃ sa scap, sv = .slice sa 1 scap := by obtain ⟨_, sa, scap, h, _⟩ := hsv; exact ⟨sa, scap, h⟩
        obtain ⟨m0, m1, f0, f1, hlt5⟩ := row2 (hq5.row hE5)
        have Hsv := Lib.hid hsv
        have hz5 := hq5.size
        have Hq5 := Lib.hid (hq4.q (hqr.q hq5))
        clear hev hsv hown
        go_wp2_with fail
        refine bodyPost_ret (v := .tuple #[.slice none 0 0, .agg #[.int .i64 14, .slice sa 1 scap]]) (by simp [results, Tryz.results37, go_sem, m0, m1, World.cell?_setCell_other]) rfl ?_
        unfold KListOr
        rw [Hfin.out]
        have hset : Only [w.heap.size + 1] w5 ((w5.setCell ⟨w.heap.size + 1, 0, none⟩ (.int .i64 14)).setCell ⟨w.heap.size + 1, 1, none⟩ (.slice sa 1 scap)) := ((Only.refl _ _).setCell (by simp) _).setCell (by simp) _
        refine ⟨Hq5.out.set2 (by omega) _ _, _, rfl, _, rfl, (Hsv.out.only hset (fun g hg => by rw [List.mem_singleton] at hg; omega)).mono (by omega) hset.size⟩
      · have hstep : fillsGo a5 a6 k has (n :: l.drop (k + 1)) = match fillsGo a5 a6 (k + 1) (min (has + (a5 - n)) a6) (l.drop (k + 1)) with | .ok l => .ok (max (has + (a5 - n) - a6) 0 :: l) | .error e => .error e := by
          rw [fillsGo, if_neg hn]; cases fillsGo a5 a6 (k + 1) (min (has + (a5 - n)) a6) (l.drop (k + 1)) <;> rfl
        have Hstep := Lib.hid hstep
        clear hstep hE5 hD5
        by_cases hov : has - n + a5 - a6 < 0
        · have hov2 : has - n + a5 < a6 := by omega
          have hqD : ∀ nq, Only [] wr ((wr.drewN nq).alloc (.cells #[.int .i64 (0)] 3)) := fun nq => ((Only.refl _ _).drewN nq).alloc _
          have HownD := Lib.hid (fun nq => hown.quiet (hqD nq))
          have HbD : Hid (∀ nq, W4.heap.size ≤ ((wr.drewN nq).alloc (.cells #[.int .i64 (0)] 3)).heap.size) := Lib.hid (fun nq => Nat.le_trans hzr (hqD nq).size)
          have HsD := Lib.hid (fun nq => ints_newG (k := .i64) (w := wr.drewN nq) (t := 3) (l := [0]) (g := wr.heap.size) rfl (by simp [maxLen]) (by simp only [List.mem_cons, List.not_mem_nil, or_false, forall_eq, InK]; omega) 1 rfl rfl)
          have HcD := Lib.hid (fun nq => (hqD nq).cell hc (by simp))
          have HkD := Lib.hid (fun nq => (hqD nq).cell k5 (by simp))
          have Hqr := Lib.hid (fun nq => hqr.q (hqD nq))
          have Hc0 := Lib.hid hc
          have HBy : Hid ((out.length + [(0 : Int)].length) * 8 ≤ 140737488355328) := Lib.hid (by have := Hout.out; simp; omega)
          have hbl : b < W4.heap.size := Nat.lt_of_lt_of_le (block_lt_of_cell (hq4.cell (Hcell.out b off rfl k hlt) (by simp))) (Nat.le_refl _)
          have hwl : w.heap.size < W4.heap.size := by omega
          clear hqD hqr hown
          go_wp2_with fail
          go_quiet (fail)
          rename Nat => N1
          clear hc k5 k6 hA5
          go_wp2_with (first
            | (at_builtin; refine wpList_append_ints rfl (.tmp 47) (.tmp 49) 51 rfl EI (HownD.out N1) rfl (HsD.out N1) rfl HBy.out (HbD.out N1) (fun v1 w5 hown1 ha1 => ?_); have c5 := ha1.cell hfrom (HcD.out N1) hbl; have k5 := ha1.cell hfrom (HkD.out N1) hwl; have Hown1 := Lib.hid hown1; have Ha1 := Lib.hid ha1; clear hown1 ha1)
            | fail)
          go_quiet (fail)
          go_wp2_with fail
          go_roundw
          case rel =>
            refine ⟨k + 1, has + (a5 - n), out ++ [0], by omega, by go_num, congrArg (Value.int .i64) (by omega), by omega, by omega, Lib.hid (by have := Hout.out; simp; omega), Lib.hid ?_, Hown1.out.quiet ((Only.refl _ _).drewN _), Ha1.out.from_ hfrom (HbD.out N1), ((Hqr.out N1).acc Ha1.out hfrom).drewN _⟩
            rw [← Hpre.out, Hd.out, Hstep.out, show min (has + (a5 - n)) a6 = has + (a5 - n) by omega, show max (has + (a5 - n) - a6) 0 = 0 by omega]
            cases fillsGo a5 a6 (k + 1) (has + (a5 - n)) (l.drop (k + 1)) with
            | ok r => simp [pre]
            | error e => rfl
          case measure => simp [intOf]; omega
        · have hov2 : a6 ≤ has - n + a5 := by omega
          have hqD : ∀ nq, Only [] wr ((wr.drewN nq).alloc (.cells #[.int .i64 (has - n + a5 - a6)] 3)) := fun nq => ((Only.refl _ _).drewN nq).alloc _
          have HownD := Lib.hid (fun nq => hown.quiet (hqD nq))
          have HbD : Hid (∀ nq, W4.heap.size ≤ ((wr.drewN nq).alloc (.cells #[.int .i64 (has - n + a5 - a6)] 3)).heap.size) := Lib.hid (fun nq => Nat.le_trans hzr (hqD nq).size)
          have HsD := Lib.hid (fun nq => ints_newG (k := .i64) (w := wr.drewN nq) (t := 3) (l := [has - n + a5 - a6]) (g := wr.heap.size) rfl (by simp [maxLen]) (by simp only [List.mem_cons, List.not_mem_nil, or_false, forall_eq, InK]; omega) 1 rfl rfl)
          have HcD := Lib.hid (fun nq => (hqD nq).cell hc (by simp))
          have HkD := Lib.hid (fun nq => (hqD nq).cell k5 (by simp))
          have Hqr := Lib.hid (fun nq => hqr.q (hqD nq))
          have Hc0 := Lib.hid hc
          have HBy : Hid ((out.length + [(has - n + a5 - a6 : Int)].length) * 8 ≤ 140737488355328) := Lib.hid (by have := Hout.out; simp; omega)
          have hbl : b < W4.heap.size := Nat.lt_of_lt_of_le (block_lt_of_cell (hq4.cell (Hcell.out b off rfl k hlt) (by simp))) (Nat.le_refl _)
          have hwl : w.heap.size < W4.heap.size := by omega
          clear hqD hqr hown
          go_wp2_with fail
          go_quiet (fail)
          rename Nat => N1
          clear hc k5 k6 hA5
          go_wp2_with (first
            | (at_builtin; refine wpList_append_ints rfl (.tmp 47) (.tmp 49) 51 rfl EI (HownD.out N1) rfl (HsD.out N1) rfl HBy.out (HbD.out N1) (fun v1 w5 hown1 ha1 => ?_); have c5 := ha1.cell hfrom (HcD.out N1) hbl; have k5 := ha1.cell hfrom (HkD.out N1) hwl; have Hown1 := Lib.hid hown1; have Ha1 := Lib.hid ha1; clear hown1 ha1)
            | fail)
          go_quiet (fail)
          go_wp2_with fail
          go_roundw
          case rel =>
            refine ⟨k + 1, a6, out ++ [has - n + a5 - a6], by omega, by go_num, congrArg (Value.int .i64) (by omega), by omega, by omega, Lib.hid (by have := Hout.out; simp; omega), Lib.hid ?_, Hown1.out.quiet ((Only.refl _ _).drewN _), Ha1.out.from_ hfrom (HbD.out N1), ((Hqr.out N1).acc Ha1.out hfrom).drewN _⟩
            rw [← Hpre.out, Hd.out, Hstep.out, show min (has + (a5 - n)) a6 = a6 by omega, show max (has + (a5 - n) - a6) 0 = has - n + a5 - a6 by omega]
            cases fillsGo a5 a6 (k + 1) (a6) (l.drop (k + 1)) with
            | ok r => simp [pre]
            | error e => rfl
          case measure => simp [intOf]; omega
    · obtain rfl : k = l.length := by omega
      have hx : ¬ (l.length : Int) < (l.length : Int) := by omega
      have Hfin : Hid (fills ⟨a0, a1, a2, a3, a4, a5, a6, a7⟩ l = .ok out) := Lib.hid (by rw [HR.out, ← Hpre.out, List.drop_length, fillsGo, pre, List.append_nil])
      obtain ⟨m0, m1, f0, f1, hlt5⟩ := row2 hE5
      obtain ⟨d0, d1, _, _, _⟩ := row2 hD5
      go_wp2_with fail
      go_region
      go_wp2_with fail
      refine bodyPost_ret (v := .tuple #[u7, .agg #[.int .i64 0, .slice none 0 0]]) (by simp [results, Tryz.results37, go_sem, m0, m1, World.cell?_setCell_other]) rfl ?_
      unfold KListOr
      rw [Hfin.out]
      have hset : Only [w.heap.size + 1] wr ((wr.setCell ⟨w.heap.size + 1, 0, none⟩ (.int .i64 0)).setCell ⟨w.heap.size + 1, 1, none⟩ (.slice none 0 0)) := ((Only.refl _ _).setCell (by simp) _).setCell (by simp) _
      refine ⟨((hq4.q hqr).set2 (by omega) _ _).drew, _, rfl, Own.lower ((hown.only hset (fun g hg e => ?_)).quiet (Only.refl _ _).drew) (by omega)⟩
      rw [List.mem_singleton] at hg
      subst hg
      have := hfrom _ e
      omega
end Go.Proofs.YtjpbnboaonnfgaaGreatDoor
