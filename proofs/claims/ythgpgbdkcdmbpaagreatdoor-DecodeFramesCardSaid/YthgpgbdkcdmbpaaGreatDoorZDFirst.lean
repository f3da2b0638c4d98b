/- kinlaw21.first: what the chapter's examples fix. Conditions: errors.errorType holds error's type. -/
import Derived.Test.YthgpgbdkcdmbpaaGreatDoorZDFew
import Derived.Test.YthgpgbdkcdmbpaaGreatDoorC4
namespace Go.Proofs.YthgpgbdkcdmbpaaGreatDoor
open Go.RowKit
set_option linter.unusedVariables false
set_option linter.unusedSimpArgs false
set_option maxRecDepth 100000
set_option maxHeartbeats 16000000
theorem dfirst_any (w : World) (hE : ErrT w) : Calls Tryz.prog 9 #[] w fun e w' => e = .returned (.bool true) ∧ Only [] w w' := by
 refine hidQ fun Q HPost => ?_
 have HE := lh hE
 clear hE
 have H1 := lh (fun W : World => frame_any (c := ⟨4, []⟩) (prev := frame0) 8 8 (w := W) (Ints.nil .u8 0 0 W) (Ints.nil .i64 0 0 W))
 have H2 := lh (fun W : World => frame_any (c := ⟨3, []⟩) (prev := frame0) 8 8 (w := W) (Ints.nil .u8 0 0 W) (Ints.nil .i64 0 0 W))
 have H3 := lh (fun (W : World) (lo hi : Nat) (v : Value) (h : Ints .u8 lo hi W v [0]) => frame_any (c := ⟨1, [0]⟩) (prev := frame0) 8 8 (w := W) h (Ints.nil .i64 0 0 W))
 rw [frameD_flat] at H1
 rw [frameD_skip] at H2
 rw [frameD_key] at H3
 have HW : Hid ((newF 8 8 128).W = 8 ∧ (newF 8 8 128).H = 8 ∧ (newF 8 8 128).pix.length = 64 ∧ withinB (newF 8 8 128).pix 128 128 = true ∧ frEq (newF 8 8 128) (newF 8 8 128) = true) := lh ⟨rfl, rfl, rfl, by decide +kernel, by simp [frEq, eqB]⟩
 generalize newF 8 8 128 = F at *
 go_enter Tryz.func9, Tryz.ntmps9
 go_wp2_with fail
 have HRA : Hid ((w.alloc (.cells #[.int .i64 0, .int .i64 0, .slice none 0 0] 27)).heap[w.heap.size]? = some (.cells #[.int .i64 0, .int .i64 0, .slice none 0 0] 27 (0, 0))) := lh (heap_alloc_new w _)
 have HQ1 := lh (Only.new w (.cells #[.int .i64 0, .int .i64 0, .slice none 0 0] 27))
 generalize hW1 : World.alloc w _ = W1 at *
 clear hW1
 go_at_call 11
 refine (H1.out W1).mono ?_
 rintro e W2 ⟨hq2, g, cap, rfl, hown2⟩
 rw [HW.out.1, HW.out.2.1]
 rw [HW.out.2.2.1] at hown2 ⊢
 have HQ2 := lh (HQ1.out.q hq2)
 have HA2 := lh (hq2.row HRA.out)
 have HO2 := lh hown2
 obtain ⟨k0, k1, k2⟩ := frame_cells HA2.out
 have hz2 := hq2.size
 have hzA := block_lt_of_cell k0
 have n1 : ¬ W2.heap.size = w.heap.size := by simp only at hzA; omega
 have n2 : ¬ w.heap.size = W2.heap.size := by simp only at hzA; omega
 have n3 : w.heap.size < W2.heap.size := hzA
 clear hq2 hown2 hz2 hzA
 go_wp2_with fail
 clear k0 k1 k2 n1 n2 n3
 have hn3 := Only.new W2 (.cells #[.int .i64 8, .int .i64 8, .slice (some ⟨g, 0, none⟩) 64 cap] 27)
 have HB3 : Hid ((W2.alloc (.cells #[.int .i64 8, .int .i64 8, .slice (some ⟨g, 0, none⟩) 64 cap] 27)).heap[W2.heap.size]? = some (.cells #[.int .i64 8, .int .i64 8, .slice (some ⟨g, 0, none⟩) 64 cap] 27 (0, 0))) := lh (heap_alloc_new W2 _)
 have HQ3 := lh (HQ2.out.q hn3)
 have HA3 := lh (hn3.row HA2.out)
 have HO3 := lh (HO2.out.quiet hn3)
 clear hn3
 generalize hB : W2.heap.size = B at *
 generalize hW3 : World.alloc W2 _ = W3 at *
 clear hW3 hB
 go_at_call 11
 refine (H2.out W3).mono ?_
 rintro e W4 ⟨hq4, ev, rfl, hev⟩
 have hev' : ev = .iface 37 (.int .i64 12) := hev
 subst hev'
 have HQ4 := lh (HQ3.out.q hq4)
 have HA4 := lh (hq4.row HA3.out)
 have HB4 := lh (hq4.row HB3.out)
 have HO4 := lh (HO3.out.quiet hq4)
 obtain ⟨k0, k1, k2⟩ := frame_cells HA4.out
 have n3 := block_lt_of_cell k0
 simp only at n3
 have n1 : ¬ W4.heap.size = w.heap.size := by omega
 have n2 : ¬ w.heap.size = W4.heap.size := by omega
 have n4 : ¬ W4.heap.size + 1 = w.heap.size := by omega
 have n5 : ¬ w.heap.size = W4.heap.size + 1 := by omega
 clear hq4 hev
 go_wp2_with fail
 clear k0 k1 k2 n1 n2 n3 n4 n5
 have hn5 := (Only.new W4 (.cells #[.int .i64 0, .int .i64 0, .slice none 0 0] 27)).q (Only.new _ (.cells #[.int .u8 0] 5))
 have HI5 : Hid (Ints .u8 (W4.heap.size + 1) (W4.heap.size + 1 + 1) ((W4.alloc (.cells #[.int .i64 0, .int .i64 0, .slice none 0 0] 27)).alloc (.cells #[.int .u8 0] 5)) (.slice (some ⟨W4.heap.size + 1, 0, none⟩) 1 1) [0]) := lh (ints_newG rfl (by simp [maxLen]) (by simp [InK]) 1 rfl (by simp))
 have HQ5 := lh (HQ4.out.q hn5)
 have HA5 := lh (hn5.row HA4.out)
 have HB5 := lh (hn5.row HB4.out)
 have HO5 := lh (HO4.out.quiet hn5)
 clear hn5
 generalize hW5 : World.alloc (World.alloc W4 _) _ = W5 at *
 clear hW5
 go_at_call 11
 refine (H3.out W5 _ _ _ HI5.out).mono ?_
 rintro e W6 ⟨hq6, g2, cap2, rfl, hown6⟩
 rw [HW.out.1, HW.out.2.1]
 rw [HW.out.2.2.1] at hown6 ⊢
 have HQ6 := lh (HQ5.out.q hq6)
 have HB6 := lh (hq6.row HB5.out)
 have HO6 := lh (HO5.out.quiet hq6)
 have HP6 := lh hown6
 clear hq6 hown6
 go_wp2_with fail
 have hn7 := Only.new W6 (.cells #[.int .i64 8, .int .i64 8, .slice (some ⟨g2, 0, none⟩) 64 cap2] 27)
 have HC7 : Hid ((W6.alloc (.cells #[.int .i64 8, .int .i64 8, .slice (some ⟨g2, 0, none⟩) 64 cap2] 27)).heap[W6.heap.size]? = some (.cells #[.int .i64 8, .int .i64 8, .slice (some ⟨g2, 0, none⟩) 64 cap2] 27 (0, 0))) := lh (heap_alloc_new W6 _)
 have HQ7 := lh (HQ6.out.q hn7)
 have HB7 := lh (hn7.row HB6.out)
 have HO7 := lh (HO6.out.quiet hn7)
 have HP7 := lh (HP6.out.quiet hn7)
 clear hn7
 generalize hC : W6.heap.size = C at *
 generalize hW7 : World.alloc W6 _ = W7 at *
 clear hW7 hC
 go_at_call 22
 refine (fail_any 12 W7).mono ?_
 rintro e W8 ⟨rfl, hq8⟩
 have hsm := same_any (v := .iface 37 (.int .i64 12)) (sv := .slice none 0 0) (o := some ⟨[], 12⟩) (c := 12) (p := []) (w := W8) (lo := 0) (hi := 0) (lo' := 0) (hi' := 0) (ErrV.code 0 0 W8 12) (Nat.zero_le _) (HE.out.quiet (HQ7.out.q hq8)) (by simp) (Cells.nil _ _ _ _) rfl rfl rfl
 have HSm := lh hsm
 have HQ8 := lh (HQ7.out.q hq8)
 have HB8 := lh (hq8.row HB7.out)
 have HC8 := lh (hq8.row HC7.out)
 have HO8 := lh (HO7.out.quiet hq8)
 have HP8 := lh (HP7.out.quiet hq8)
 clear hsm hq8
 go_wp2_with fail
 go_at_call 18
 refine HSm.out.mono ?_
 rintro e W9 ⟨rfl, hq9⟩
 have HQ9 := lh (HQ8.out.q hq9)
 have HB9 := lh (hq9.row HB8.out)
 have HC9 := lh (hq9.row HC8.out)
 have HO9 := lh (HO8.out.quiet hq9)
 have HP9 := lh (HP8.out.quiet hq9)
 obtain ⟨r0, r1, r2⟩ := frame_cells HB9.out
 obtain ⟨u0, u1, u2⟩ := frame_cells HC9.out
 have hwi := within_any 128 128 HO9.out.ints
 rw [HW.out.2.2.2.1] at hwi
 have HWi := lh hwi
 have hfr := kframe_any (A := F) (B := F) HO9.out.ints HP9.out.ints
 rw [HW.out.2.2.2.2, HW.out.1, HW.out.2.1] at hfr
 have HFr := lh hfr
 clear hq9 hwi hfr
 go_wp2_with fail
 go_at_call 23
 refine HWi.out.mono ?_
 rintro e w' ⟨rfl, rfl⟩
 go_wp2_with fail
 go_at_call 21
 refine HFr.out.mono ?_
 rintro e W10 ⟨rfl, hq10⟩
 have HQ10 := lh (HQ9.out.q hq10)
 clear hq10
 go_wp2_with fail
 exact HPost.out _ _ ⟨rfl, HQ10.out⟩
end Go.Proofs.YthgpgbdkcdmbpaaGreatDoor
