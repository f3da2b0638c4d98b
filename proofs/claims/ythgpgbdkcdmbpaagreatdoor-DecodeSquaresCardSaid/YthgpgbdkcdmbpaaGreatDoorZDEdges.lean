/- Joined texts: DEdges. Conditions: each part names its own. -/
import Derived.Test.YthgpgbdkcdmbpaaGreatDoorK5
import Derived.Test.YthgpgbdkcdmbpaaGreatDoorK2
import Derived.Test.YthgpgbdkcdmbpaaGreatDoorZDSep
/- intra.Edges: what stands around a square. Conditions: a frame that may be, a square in it. -/
namespace Go.Proofs.YthgpgbdkcdmbpaaGreatDoor
open Go.RowKit
set_option linter.unusedVariables false
set_option linter.unusedSimpArgs false

section
set_option maxRecDepth 100000
set_option maxHeartbeats 4000000
theorem edges1_any {B lo hi : Nat} {w : World} {f : FrameD} (h : BoxF B lo hi w f) (x y : Int) (hx : x < f.W) (hy : y < f.H) :
    Calls Tryz.prog 150 #[.int .i64 x, .int .i64 y, .pointer (some ⟨B, 0, none⟩)] w fun e w' => e = .returned (.int .i64 (sampleD f x y)) ∧ w = w' := by
  obtain ⟨hok, a, cap, hrow, hI⟩ := h
  obtain ⟨c0, c1, c2⟩ := frame_cells hrow
  by_cases hx0 : x < 0
  · have HR : Hid (sampleD f x y = 128) := Lib.hid (by unfold sampleD; rw [if_pos (.inl hx0)])
    clear hrow hI hok
    go_enter Tryz.func150, Tryz.ntmps150
    go_wp2_with fail
    go_ret
    exact ⟨ret_int HR.out.symm, rfl⟩
  by_cases hy0 : y < 0
  · have HR : Hid (sampleD f x y = 128) := Lib.hid (by unfold sampleD; rw [if_pos (.inr hy0)])
    clear hrow hI hok
    go_enter Tryz.func150, Tryz.ntmps150
    go_wp2_with fail
    go_ret
    exact ⟨ret_int HR.out.symm, rfl⟩
  have HR : Hid (sampleD f x y = f.pix.getD (y * f.W + x).toNat 0) := Lib.hid (by unfold sampleD; rw [if_neg (by omega)])
  obtain ⟨p1, p2⟩ := place_in (W := f.W) (H := f.H) (x := x) (y := 0) (j := y) (n := 1) (by have := hok.w0; omega) (by omega) (by omega) (by omega) (by omega) (by omega) (by omega)
  rw [Int.zero_add] at p1 p2
  have h3 : f.W * f.H ≤ 32 * 32 := Int.mul_le_mul hok.w1 hok.h1 (by have := hok.h0; omega) (by omega)
  have hlen := hok.len
  obtain ⟨b, off, cap', hv, -, -, hc⟩ := hI.at (i := (y * f.W + x).toNat) (by omega)
  injection hv with e1 e2 e3
  subst e1; subst e3
  generalize f.pix.getD (y * f.W + x).toNat 0 = v at *
  generalize f.pix.length = N at *
  generalize f.W = W at *
  generalize f.H = H at *
  obtain ⟨M, hMe⟩ : ∃ M, M = y * W := ⟨_, rfl⟩
  have hyW : 0 ≤ y * W := Int.mul_nonneg (by omega) (by omega)
  have hM : wrap64 (y * W) = M := by rw [← hMe] at p1 p2 hyW ⊢; unfold wrap64; omega
  rw [← hMe] at p1 p2 hc hyW
  have t0 : 0 ≤ M + x := p1
  have t1 : M + x < (N : Int) := by omega
  have hS : wrap64 (M + x) = M + x := by unfold wrap64; omega
  clear hMe hrow hI hok p1 p2 h3 hlen hyW
  go_enter Tryz.func150, Tryz.ntmps150
  go_wp2_with fail
  go_ret
  exact ⟨ret_int HR.out.symm, rfl⟩
#print axioms edges1_any
def rowE (f : FrameD) (x y : Int) (k : Nat) : List Int := (List.range k).map fun i : Nat => sampleD f (x + (i : Int)) (y - 1)
def colE (f : FrameD) (x y : Int) (k : Nat) : List Int := (List.range k).map fun i : Nat => sampleD f (x - 1) (y + (i : Int))
theorem rowE_more (f : FrameD) (x y : Int) (k : Nat) : rowE f x y (k + 1) = rowE f x y k ++ [sampleD f (x + (k : Int)) (y - 1)] := by
  unfold rowE; rw [List.range_succ, List.map_append]; simp
theorem colE_more (f : FrameD) (x y : Int) (k : Nat) : colE f x y (k + 1) = colE f x y k ++ [sampleD f (x - 1) (y + (k : Int))] := by
  unfold colE; rw [List.range_succ, List.map_append]; simp
theorem rowE_len (f : FrameD) (x y : Int) (k : Nat) : (rowE f x y k).length = k := by simp [rowE]
theorem colE_len (f : FrameD) (x y : Int) (k : Nat) : (colE f x y k).length = k := by simp [colE]
theorem edges_any {lo hi : Nat} {pv : Value} {w : World} {f : FrameD} (hok : FrOk f) (h : Ints .i64 lo hi w pv f.pix) (x y : Int) (n : Nat) (hn : n = 4 ∨ n = 8) (hx : 0 ≤ x) (hxn : x + n ≤ f.W) (hy : 0 ≤ y) (hyn : y + n ≤ f.H) :
    Calls Tryz.prog 111 #[.agg #[.int .i64 f.W, .int .i64 f.H, pv], .int .i64 x, .int .i64 y, .int .i64 n] w fun e w' => ∃ v1 v2, e = .returned (.tuple #[v1, v2, .int .i64 (sampleD f (x - 1) (y - 1))]) ∧ Own .i64 3 w.heap.size w' v1 (topD f x y n) ∧ Own .i64 3 w.heap.size w' v2 (leftD f x y n) ∧ Only [] w w' := by
  suffices key : ∀ Q : Ending → World → Prop, Hid (∀ e w', (∃ v1 v2, e = .returned (.tuple #[v1, v2, .int .i64 (sampleD f (x - 1) (y - 1))]) ∧ Own .i64 3 w.heap.size w' v1 (topD f x y n) ∧ Own .i64 3 w.heap.size w' v2 (leftD f x y n) ∧ Only [] w w') → Q e w') → Calls Tryz.prog 111 #[.agg #[.int .i64 f.W, .int .i64 f.H, pv], .int .i64 x, .int .i64 y, .int .i64 n] w Q from key _ (Lib.hid fun _ _ h => h)
  intro Q HPost
  obtain ⟨a, cap, rfl, -⟩ := h.open
  have HT : Hid (topD f x y n = rowE f x y n) := Lib.hid rfl
  have HL : Hid (leftD f x y n = colE f x y n) := Lib.hid rfl
  have Hin := Lib.hid (fun hx hy => sampleD_in hok.sam hx hy)
  have hq1 := Only.new w (.cells #[.int .i64 f.W, .int .i64 f.H, .slice a f.pix.length cap] 27)
  have HR1 : Hid ((w.alloc (.cells #[.int .i64 f.W, .int .i64 f.H, .slice a f.pix.length cap] 27)).heap[w.heap.size]? = some (.cells #[.int .i64 f.W, .int .i64 f.H, .slice a f.pix.length cap] 27 (0, 0))) := Lib.hid (heap_alloc_new w _)
  have HI := Lib.hid (h.quiet hq1)
  have HQ1 := Lib.hid hq1
  have hM := pmay_any f.W f.H (h.quiet hq1)
  rw [show mayF ⟨f.W, f.H, f.pix⟩ = true from mayF_iff.2 hok] at hM
  have HM := Lib.hid hM
  have HP := Lib.hid (fun (W : World) => pin_any f.W f.H x y n (.slice a f.pix.length cap) W ⟨hok.w0, hok.w1⟩ ⟨hok.h0, hok.h1⟩ (by omega))
  rw [show liesD f.W f.H x y n = true from by unfold liesD; rw [decide_eq_true_iff]; omega] at HP
  have HB : Hid (∀ wt, Only [] (w.alloc (.cells #[.int .i64 f.W, .int .i64 f.H, .slice a f.pix.length cap] 27)) wt → ∀ x y, x < f.W → y < f.H → Calls Tryz.prog 150 #[.int .i64 x, .int .i64 y, .pointer (some ⟨w.heap.size, 0, none⟩)] wt fun e w' => e = .returned (.int .i64 (sampleD f x y)) ∧ wt = w') :=
    Lib.hid (fun wt o x y hx hy => edges1_any ⟨hok, a, cap, o.row HR1.out, HI.out.quiet o⟩ x y hx hy)
  have hmf : ∀ (fn : Fn) (first cap : Array Value) (W : World), (Instr.makeFunc fn first cap).run Tryz.prog W = .ok (.func fn first cap) W := fun _ _ _ _ => rfl
  have hW := hok.w1
  have hH := hok.h1
  clear h hq1 hM
  rcases hn with rfl | rfl
  · rw [show (((4 : Nat)) : Int) = 4 from rfl] at *
    go_enter Tryz.func111, Tryz.ntmps111
    obtain ⟨r0, r1, r2⟩ := frame_cells HR1.out
    go_wp2_with fail
    go_at_call 12
    refine HM.out.mono ?_
    rintro e w2 ⟨rfl, hq2⟩
    clear r0 r1 r2
    obtain ⟨r0, r1, r2⟩ := frame_cells (hq2.row HR1.out)
    have HQ2 := Lib.hid hq2
    clear hq2
    go_wp2_with fail
    go_at_call 55
    refine (HP.out w2).mono ?_
    rintro e w3 ⟨rfl, hq3⟩
    have HQ3 := Lib.hid (HQ2.out.q hq3)
    have Hz3 := Lib.hid (show w.heap.size + 1 ≤ w3.heap.size by have := (HQ2.out.q hq3).size; simp at this; omega)
    clear hq3 r0 r1 r2 HQ2
    go_wp2_with fail
    go_loopw [36, 12, 13, 14] (fun i t l _ wr => ∃ (k : Nat), k ≤ 4 ∧ i = .int .i64 k ∧ Hid (Own .i64 3 w3.heap.size wr t (rowE f x y k)) ∧ Hid (From w3.heap.size t) ∧ Hid (Own .i64 3 w3.heap.size wr l (colE f x y k)) ∧ Hid (From w3.heap.size l) ∧ Hid (SepD t l) ∧ Hid (Only [] w3 wr)) (fun i _ _ _ _ => 4 - (intOf i).toNat)
    case atStart => exact ⟨0, by omega, rfl, Lib.hid (Own.nil _ _ _ _), Lib.hid (From.nil _), Lib.hid (Own.nil _ _ _ _), Lib.hid (From.nil _), Lib.hid (SepD.nil _), Lib.hid (Only.refl _ _)⟩
    case round =>
      obtain ⟨k, hk, rfl, HOt, HFt, HOl, HFl, HSp, HQk⟩ := hrel
      have hlt1 := rowE_len f x y k
      have hlt2 := colE_len f x y k
      obtain ⟨ta, tcap, rfl, -⟩ := HOt.out.ints.open
      obtain ⟨la, lcap, rfl, -⟩ := HOl.out.ints.open
      rw [hlt1] at HOt HFt HSp ⊢
      rw [hlt2] at HOl HFl HSp ⊢
      by_cases hlt : k < 4
      · have hki : (k : Int) < 4 := by omega
        have hk0 : (0 : Int) ≤ (k : Int) := by omega
        have hm1 := rowE_more f x y k
        have hm2 := colE_more f x y k
        have hc1 := HB.out wr (HQ3.out.q HQk.out) (x + (k : Int)) (y - 1) (by omega) (by omega)
        have hc2 := fun wt (o : Only [] w3 wt) => HB.out wt (HQ3.out.q o) (x - 1) (y + (k : Int)) (by omega) (by omega)
        have hi1 := Hin.out (x + (k : Int)) (y - 1)
        have hi2 := Hin.out (x - 1) (y + (k : Int))
        have HC1 := Lib.hid hc1
        have HC2 := Lib.hid hc2
        clear hc1 hc2
        generalize sampleD f (x + (k : Int)) (y - 1) = p1 at *
        generalize sampleD f (x - 1) (y + (k : Int)) = p2 at *
        have hk1 : ∀ z ∈ [p1], InK .i64 z := by simp only [List.mem_singleton, forall_eq, InK]; omega
        have hk2 : ∀ z ∈ [p2], InK .i64 z := by simp only [List.mem_singleton, forall_eq, InK]; omega
        have hs1 := Lib.hid (fun (W : World) => ints_newG (k := .i64) (w := W) (t := 3) (l := [p1]) rfl (by simp [maxLen]) hk1 1 rfl rfl)
        have hs2 := Lib.hid (fun (W : World) => ints_newG (k := .i64) (w := W) (t := 3) (l := [p2]) rfl (by simp [maxLen]) hk2 1 rfl rfl)
        have hby1 := Lib.hid (show ((rowE f x y k).length + [p1].length) * 8 ≤ 140737488355328 by rw [hlt1]; simp; omega)
        have hby2 := Lib.hid (show ((colE f x y k).length + [p2].length) * 8 ≤ 140737488355328 by rw [hlt2]; simp; omega)
        have Hl1 : Hid ((rowE f x y k ++ [p1]).length = k + 1) := Lib.hid (by rw [List.length_append, hlt1]; rfl)
        have Hl2 : Hid ((colE f x y k ++ [p2]).length = k + 1) := Lib.hid (by rw [List.length_append, hlt2]; rfl)
        have Hm1 := Lib.hid hm1
        have Hm2 := Lib.hid hm2
        have hba1 := Lib.hid (fun (o : Obj) => (show w3.heap.size ≤ (wr.alloc o).heap.size by have := HQk.out.size; simp; omega))
        clear hm1 hm2 hlt1 hlt2 hi1 hi2 hk1 hk2
        go_wp2_with fail
        go_at_call 150
        refine HC1.out.mono ?_
        rintro e w' ⟨rfl, rfl⟩
        go_wp2_with (first
            | (at_builtin; refine wpList_append_ints rfl (.tmp 39) (.tmp 47) _ rfl EI (HOt.out.quiet (Only.new _ _)) rfl (hs1.out _) rfl hby1.out (hba1.out _) (fun v1 w4 hown1 ho1 => ?_); obtain ⟨x1, x1cap, hx1, _⟩ := hown1.ints.open; subst hx1; rw [Hl1.out] at hown1 ho1 ⊢; have HO1 := Lib.hid hown1; have HA1 := Lib.hid ho1; clear hown1 ho1)
            | fail)
        have hq4 := ((HQk.out).q (Only.new wr (.cells #[.int .i64 p1] 3))).acc HA1.out HFt.out
        have HQ4 := Lib.hid hq4
        have HOl4 := Lib.hid ((HOl.out.quiet (Only.new wr (.cells #[.int .i64 p1] 3))).accD HA1.out HSp.out)
        have HSp4 := Lib.hid (HA1.out.sepD HSp.out (fun g hg => ((HOl.out.quiet (Only.new wr (.cells #[.int .i64 p1] 3))).at g hg).2))
        have HFt4 := Lib.hid (HA1.out.from_ HFt.out (hba1.out _))
        have hba2 := Lib.hid (fun (o : Obj) => (show w3.heap.size ≤ (w4.alloc o).heap.size by have := hq4.size; simp; omega))
        clear hq4
        go_wp2_with fail
        go_at_call 150
        refine (HC2.out _ HQ4.out).mono ?_
        rintro e w' ⟨rfl, rfl⟩
        go_wp2_with (first
            | (at_builtin; refine wpList_append_ints rfl (.tmp 49) (.tmp 57) _ rfl EI (HOl4.out.quiet (Only.new _ _)) rfl (hs2.out _) rfl hby2.out (hba2.out _) (fun v1 w5 hown1 ho1 => ?_); obtain ⟨x1, x1cap, hx1, _⟩ := hown1.ints.open; subst hx1; rw [Hl2.out] at hown1 ho1 ⊢; have HO2 := Lib.hid hown1; have HA2 := Lib.hid ho1; clear hown1 ho1)
            | fail)
        refine ⟨⟨k + 1, by omega, by go_num, Lib.hid ?_, HFt4, Lib.hid ?_, Lib.hid (HA2.out.from_ HFl.out (hba2.out _)), Lib.hid ?_, Lib.hid ((HQ4.out.q (Only.new _ _)).acc HA2.out HFl.out)⟩, by simp [intOf]; omega⟩
        · rw [Hm1.out]; exact (HO1.out.quiet (Only.new _ _)).accD HA2.out HSp4.out.symm
        · rw [Hm2.out]; exact HO2.out
        · exact (HA2.out.sepD HSp4.out.symm (fun g hg => ((HO1.out.quiet (Only.new _ _)).at g hg).2)).symm
      · obtain rfl : k = 4 := by omega
        have hc := HB.out wr (HQ3.out.q HQk.out) (x - 1) (y - 1) (by omega) (by omega)
        have HC := Lib.hid hc
        clear hc hlt1 hlt2
        generalize sampleD f (x - 1) (y - 1) = p0 at *
        go_wp2_with fail
        go_at_call 150
        refine HC.out.mono ?_
        rintro e w' ⟨rfl, rfl⟩
        go_wp2_with fail
        refine bodyPost_ret (v := .tuple #[.slice ta 4 tcap, .slice la 4 lcap, .int .i64 p0]) (by simp [results, Tryz.results111, go_sem]) rfl (HPost.out _ _ ⟨_, _, rfl, ?_, ?_, (HQ1.out.q HQ3.out).q HQk.out⟩)
        · rw [HT.out]; exact HOt.out.lower (by have := Hz3.out; omega)
        · rw [HL.out]; exact HOl.out.lower (by have := Hz3.out; omega)
  · rw [show (((8 : Nat)) : Int) = 8 from rfl] at *
    go_enter Tryz.func111, Tryz.ntmps111
    obtain ⟨r0, r1, r2⟩ := frame_cells HR1.out
    go_wp2_with fail
    go_at_call 12
    refine HM.out.mono ?_
    rintro e w2 ⟨rfl, hq2⟩
    clear r0 r1 r2
    obtain ⟨r0, r1, r2⟩ := frame_cells (hq2.row HR1.out)
    have HQ2 := Lib.hid hq2
    clear hq2
    go_wp2_with fail
    go_at_call 55
    refine (HP.out w2).mono ?_
    rintro e w3 ⟨rfl, hq3⟩
    have HQ3 := Lib.hid (HQ2.out.q hq3)
    have Hz3 := Lib.hid (show w.heap.size + 1 ≤ w3.heap.size by have := (HQ2.out.q hq3).size; simp at this; omega)
    clear hq3 r0 r1 r2 HQ2
    go_wp2_with fail
    go_loopw [36, 12, 13, 14] (fun i t l _ wr => ∃ (k : Nat), k ≤ 8 ∧ i = .int .i64 k ∧ Hid (Own .i64 3 w3.heap.size wr t (rowE f x y k)) ∧ Hid (From w3.heap.size t) ∧ Hid (Own .i64 3 w3.heap.size wr l (colE f x y k)) ∧ Hid (From w3.heap.size l) ∧ Hid (SepD t l) ∧ Hid (Only [] w3 wr)) (fun i _ _ _ _ => 8 - (intOf i).toNat)
    case atStart => exact ⟨0, by omega, rfl, Lib.hid (Own.nil _ _ _ _), Lib.hid (From.nil _), Lib.hid (Own.nil _ _ _ _), Lib.hid (From.nil _), Lib.hid (SepD.nil _), Lib.hid (Only.refl _ _)⟩
    case round =>
      obtain ⟨k, hk, rfl, HOt, HFt, HOl, HFl, HSp, HQk⟩ := hrel
      have hlt1 := rowE_len f x y k
      have hlt2 := colE_len f x y k
      obtain ⟨ta, tcap, rfl, -⟩ := HOt.out.ints.open
      obtain ⟨la, lcap, rfl, -⟩ := HOl.out.ints.open
      rw [hlt1] at HOt HFt HSp ⊢
      rw [hlt2] at HOl HFl HSp ⊢
      by_cases hlt : k < 8
      · have hki : (k : Int) < 8 := by omega
        have hk0 : (0 : Int) ≤ (k : Int) := by omega
        have hm1 := rowE_more f x y k
        have hm2 := colE_more f x y k
        have hc1 := HB.out wr (HQ3.out.q HQk.out) (x + (k : Int)) (y - 1) (by omega) (by omega)
        have hc2 := fun wt (o : Only [] w3 wt) => HB.out wt (HQ3.out.q o) (x - 1) (y + (k : Int)) (by omega) (by omega)
        have hi1 := Hin.out (x + (k : Int)) (y - 1)
        have hi2 := Hin.out (x - 1) (y + (k : Int))
        have HC1 := Lib.hid hc1
        have HC2 := Lib.hid hc2
        clear hc1 hc2
        generalize sampleD f (x + (k : Int)) (y - 1) = p1 at *
        generalize sampleD f (x - 1) (y + (k : Int)) = p2 at *
        have hk1 : ∀ z ∈ [p1], InK .i64 z := by simp only [List.mem_singleton, forall_eq, InK]; omega
        have hk2 : ∀ z ∈ [p2], InK .i64 z := by simp only [List.mem_singleton, forall_eq, InK]; omega
        have hs1 := Lib.hid (fun (W : World) => ints_newG (k := .i64) (w := W) (t := 3) (l := [p1]) rfl (by simp [maxLen]) hk1 1 rfl rfl)
        have hs2 := Lib.hid (fun (W : World) => ints_newG (k := .i64) (w := W) (t := 3) (l := [p2]) rfl (by simp [maxLen]) hk2 1 rfl rfl)
        have hby1 := Lib.hid (show ((rowE f x y k).length + [p1].length) * 8 ≤ 140737488355328 by rw [hlt1]; simp; omega)
        have hby2 := Lib.hid (show ((colE f x y k).length + [p2].length) * 8 ≤ 140737488355328 by rw [hlt2]; simp; omega)
        have Hl1 : Hid ((rowE f x y k ++ [p1]).length = k + 1) := Lib.hid (by rw [List.length_append, hlt1]; rfl)
        have Hl2 : Hid ((colE f x y k ++ [p2]).length = k + 1) := Lib.hid (by rw [List.length_append, hlt2]; rfl)
        have Hm1 := Lib.hid hm1
        have Hm2 := Lib.hid hm2
        have hba1 := Lib.hid (fun (o : Obj) => (show w3.heap.size ≤ (wr.alloc o).heap.size by have := HQk.out.size; simp; omega))
        clear hm1 hm2 hlt1 hlt2 hi1 hi2 hk1 hk2
        go_wp2_with fail
        go_at_call 150
        refine HC1.out.mono ?_
        rintro e w' ⟨rfl, rfl⟩
        go_wp2_with (first
            | (at_builtin; refine wpList_append_ints rfl (.tmp 39) (.tmp 47) _ rfl EI (HOt.out.quiet (Only.new _ _)) rfl (hs1.out _) rfl hby1.out (hba1.out _) (fun v1 w4 hown1 ho1 => ?_); obtain ⟨x1, x1cap, hx1, _⟩ := hown1.ints.open; subst hx1; rw [Hl1.out] at hown1 ho1 ⊢; have HO1 := Lib.hid hown1; have HA1 := Lib.hid ho1; clear hown1 ho1)
            | fail)
        have hq4 := ((HQk.out).q (Only.new wr (.cells #[.int .i64 p1] 3))).acc HA1.out HFt.out
        have HQ4 := Lib.hid hq4
        have HOl4 := Lib.hid ((HOl.out.quiet (Only.new wr (.cells #[.int .i64 p1] 3))).accD HA1.out HSp.out)
        have HSp4 := Lib.hid (HA1.out.sepD HSp.out (fun g hg => ((HOl.out.quiet (Only.new wr (.cells #[.int .i64 p1] 3))).at g hg).2))
        have HFt4 := Lib.hid (HA1.out.from_ HFt.out (hba1.out _))
        have hba2 := Lib.hid (fun (o : Obj) => (show w3.heap.size ≤ (w4.alloc o).heap.size by have := hq4.size; simp; omega))
        clear hq4
        go_wp2_with fail
        go_at_call 150
        refine (HC2.out _ HQ4.out).mono ?_
        rintro e w' ⟨rfl, rfl⟩
        go_wp2_with (first
            | (at_builtin; refine wpList_append_ints rfl (.tmp 49) (.tmp 57) _ rfl EI (HOl4.out.quiet (Only.new _ _)) rfl (hs2.out _) rfl hby2.out (hba2.out _) (fun v1 w5 hown1 ho1 => ?_); obtain ⟨x1, x1cap, hx1, _⟩ := hown1.ints.open; subst hx1; rw [Hl2.out] at hown1 ho1 ⊢; have HO2 := Lib.hid hown1; have HA2 := Lib.hid ho1; clear hown1 ho1)
            | fail)
        refine ⟨⟨k + 1, by omega, by go_num, Lib.hid ?_, HFt4, Lib.hid ?_, Lib.hid (HA2.out.from_ HFl.out (hba2.out _)), Lib.hid ?_, Lib.hid ((HQ4.out.q (Only.new _ _)).acc HA2.out HFl.out)⟩, by simp [intOf]; omega⟩
        · rw [Hm1.out]; exact (HO1.out.quiet (Only.new _ _)).accD HA2.out HSp4.out.symm
        · rw [Hm2.out]; exact HO2.out
        · exact (HA2.out.sepD HSp4.out.symm (fun g hg => ((HO1.out.quiet (Only.new _ _)).at g hg).2)).symm
      · obtain rfl : k = 8 := by omega
        have hc := HB.out wr (HQ3.out.q HQk.out) (x - 1) (y - 1) (by omega) (by omega)
        have HC := Lib.hid hc
        clear hc hlt1 hlt2
        generalize sampleD f (x - 1) (y - 1) = p0 at *
        go_wp2_with fail
        go_at_call 150
        refine HC.out.mono ?_
        rintro e w' ⟨rfl, rfl⟩
        go_wp2_with fail
        refine bodyPost_ret (v := .tuple #[.slice ta 8 tcap, .slice la 8 lcap, .int .i64 p0]) (by simp [results, Tryz.results111, go_sem]) rfl (HPost.out _ _ ⟨_, _, rfl, ?_, ?_, (HQ1.out.q HQ3.out).q HQk.out⟩)
        · rw [HT.out]; exact HOt.out.lower (by have := Hz3.out; omega)
        · rw [HL.out]; exact HOl.out.lower (by have := Hz3.out; omega)
#print axioms edges_any
end
end Go.Proofs.YthgpgbdkcdmbpaaGreatDoor
