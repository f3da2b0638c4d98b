/- The law kinlaw21.DecodeBuilds answers true. Conditions: the arguments read; errors.errorType holds error's type. -/
import Derived.Test.YthgpgbdkcdmbpaaGreatDoorZDSqH
import Derived.Test.YthgpgbdkcdmbpaaGreatDoorZDRBg
import Derived.Test.YthgpgbdkcdmbpaaGreatDoorZDRPn
import Derived.Test.YthgpgbdkcdmbpaaGreatDoorZDFirst
import Derived.Deep.DeepCutAuto
import Derived.Deep.QuietTactic
namespace Go.Proofs.YthgpgbdkcdmbpaaGreatDoor
open Go.RowKit
set_option linter.unusedVariables false
set_option linter.unusedSimpArgs false
theorem qDBuildst0 {p : Prop} (h : p := by intro wz hSw; obtain ⟨hSa, hSb, hSc⟩ := hSw; obtain ⟨f0, f1, f2⟩ := frame_cells hSa; obtain ⟨p0, p1, p2⟩ := frame_cells hSb; go_simp; try with_reducible rfl) : p := h
theorem qDBuildst1 {p : Prop} (h : p := by intro wz hSw; obtain ⟨hSa, hSb, hSc⟩ := hSw; rw [run_load_rowK (.tmp 11) 64 (hr := hSc) (hu := Tryz.underlying64) (hi := Hinf.out)] <;> rfl) : p := h
section
variable {P : Program}
/-- the store of a whole row, the world behind it left open -/
theorem wp_store_rowO {w : World} {o : Oper} {a : Act} {K : Act → World → Prop} {Q : Exit → Act → World → Prop} (x y : Operand) (t : TypeId) (ho : o.op = .store t x y)
  {g : Nat} {c c' : Array Value} {ty : TypeId} (hx : a.eval x = .pointer (some ⟨g, 0, none⟩)) (hy : a.eval y = .agg c') (hr : w.heap[g]? = some (.cells c ty (0, 0))) (hi : (P.info? t).map (·.size) = some c'.size) (hs : c.size = c'.size) (h1 : c'.all (·.oneCell') = true)
  (h : ∀ w', Only [g] w w' → w'.heap[g]? = some (.cells c' ty (0, 0)) → K (a.put o.dst undef) w') : o.wp P a w K Q :=
 wp_store_row x y t ho hx hy hr hi hs h1 (h _ (Only.setRow (Only.refl _ _) (fun _ => by simp) _) (setRow_heap _ _ _ _ _ _ hr))
end
theorem frame_info (a b c : Value) : (Tryz.prog.info? 27).map (·.size) = some (#[a, b, c] : Array Value).size := by show _ = some 3; kernel_rfl
theorem err_size (a b : Value) : (Tryz.prog.info? 45).map (·.size) = some (#[a, b] : Array Value).size := err_info _ rfl
theorem frEq_self (f : FrameD) : frEq f f = true := by simp [frEq, eqB]
theorem pix_two {f p : FrameD} (h : pixB [f, p] = true) : f.pix.length ≤ 1000000000 := by
 have h2 := h
 unfold pixB at h2
 rw [Bool.and_eq_true, decide_eq_true_iff, decide_eq_true_iff] at h2
 have h3 := h2.2
 simp [pixSum] at h3
 omega
theorem buildD_code {f prev : FrameD} {x y qp k mo vx vy c : Int} {ms L : List Int} {S : List (List Int)} (h : buildD f prev x y qp k mo ms vx vy L S = .error c) : c ≠ 0 := by
 unfold buildD at h
 repeat' split at h
 all_goals first
  | (injection h with h; omega)
  | (rename_i hp; injection h with h; rw [← h]; exact parts_ne hp)
  | cases h
theorem qDBuilds0 {p : Prop} (h : p := by
 refine rdy (rdn 13 (fun K hK => ?_) .nil)
 refine wp_store_rowO (.tmp 16) (.tmp 53) 27 rfl (g := bA) (c' := #[.int .i64 z.W, .int .i64 z.H, .slice (some ⟨kb, 0, none⟩) z.pix.length kcap]) rfl rfl HA.out (frame_info _ _ _) rfl (by first | kernel_rfl | simp [Value.oneCell']) (fun v' hq hr => ?_)
 have q : Only [bA] v v' := by first | exact hq | exact ((Only.refl _ _).drew.mono (U := [bA]) (by simp)).trans hq (fun g h _ => h) (fun g h _ => h)
 replace HA := Lib.hid hr
 replace HE := Lib.hid (q.rowAt HE.out (by rw [List.mem_singleton]; have := Hne.out; omega))
 replace o : Hid (Only [] W8 v') := Lib.hid (o.out.trans q (by simp) (fun g hg hlt => by rw [List.mem_singleton] at hg; have := HzA.out; omega))
 replace HK := Lib.hid (HK.out.only q (fun g hg e => by rw [List.mem_singleton] at hg; have e2 : kb = g := (by simpa [Value.ownBlock] using e); exact HkA.out (e2.trans hg)))
 clear hq hr q
 obtain ⟨v, rfl⟩ : ∃ z, z = v' := ⟨_, rfl⟩
 refine hK.out _ _ ?_ (fun hHeld => ?_)
 ·first | exact ⟨o.out.row HB08.out, o.out.row HB18.out, o.out.row HB28.out⟩ | exact ⟨o.out.drew.row HB08.out, o.out.drew.row HB18.out, o.out.drew.row HB28.out⟩
 clear hK K
 try simp only [Act.put, List.setIfInBounds_toArray, List.set_cons_zero, List.set_cons_succ]
 refine rdy (rdn 14 (fun K hK => ?_) .nil)
 refine wp_store_rowO (.tmp 17) (.tmp 54) 45 rfl (g := bE) (c' := #[.int .i64 0, .slice none 0 0]) rfl rfl HE.out (err_size _ _) rfl (by first | kernel_rfl | simp [Value.oneCell']) (fun v' hq hr => ?_)
 have q : Only [bE] v v' := by first | exact hq | exact ((Only.refl _ _).drew.mono (U := [bE]) (by simp)).trans hq (fun g h _ => h) (fun g h _ => h)
 replace HE := Lib.hid hr
 replace HA := Lib.hid (q.rowAt HA.out (by rw [List.mem_singleton]; have := Hne.out; omega))
 replace o : Hid (Only [] W8 v') := Lib.hid (o.out.trans q (by simp) (fun g hg hlt => by rw [List.mem_singleton] at hg; have := HzE.out; omega))
 replace HK := Lib.hid (HK.out.only q (fun g hg e => by rw [List.mem_singleton] at hg; have e2 : kb = g := (by simpa [Value.ownBlock] using e); exact HkE.out (e2.trans hg)))
 clear hq hr q
 obtain ⟨v, rfl⟩ : ∃ z, z = v' := ⟨_, rfl⟩
 refine hK.out _ _ ?_ (fun hHeld => ?_)
 ·first | exact ⟨o.out.row HB08.out, o.out.row HB18.out, o.out.row HB28.out⟩ | exact ⟨o.out.drew.row HB08.out, o.out.drew.row HB18.out, o.out.drew.row HB28.out⟩
 clear hK K
 try simp only [Act.put, List.setIfInBounds_toArray, List.set_cons_zero, List.set_cons_succ]
 refine wpAnyH_done (by kernel_rfl) ?_ _
 go_wp2_with fail
 go_meet
 exact ⟨bA, bE, kb, kcap, rfl, rfl, o, HA, HE, HK⟩) : p := h
theorem qDBuilds1 {p : Prop} (h : p := by
 refine rdy (rdn 13 (fun K hK => ?_) .nil)
 refine wp_store_rowO (.tmp 16) (.tmp 53) 27 rfl (g := bA) (c' := #[.int .i64 0, .int .i64 0, .slice none 0 0]) rfl rfl HA.out (frame_info _ _ _) rfl (by first | kernel_rfl | simp [Value.oneCell']) (fun v' hq hr => ?_)
 have q : Only [bA] v v' := by first | exact hq | exact ((Only.refl _ _).drew.mono (U := [bA]) (by simp)).trans hq (fun g h _ => h) (fun g h _ => h)
 replace HA := Lib.hid hr
 replace HE := Lib.hid (q.rowAt HE.out (by rw [List.mem_singleton]; have := Hne.out; omega))
 replace o : Hid (Only [] W8 v') := Lib.hid (o.out.trans q (by simp) (fun g hg hlt => by rw [List.mem_singleton] at hg; have := HzA.out; omega))
 clear hq hr q
 obtain ⟨v, rfl⟩ : ∃ z, z = v' := ⟨_, rfl⟩
 refine hK.out _ _ ?_ (fun hHeld => ?_)
 ·first | exact ⟨o.out.row HB08.out, o.out.row HB18.out, o.out.row HB28.out⟩ | exact ⟨o.out.drew.row HB08.out, o.out.drew.row HB18.out, o.out.drew.row HB28.out⟩
 clear hK K
 try simp only [Act.put, List.setIfInBounds_toArray, List.set_cons_zero, List.set_cons_succ]
 refine rdy (rdn 14 (fun K hK => ?_) .nil)
 refine wp_store_rowO (.tmp 17) (.tmp 54) 45 rfl (g := bE) (c' := #[.int .i64 c, .slice none 0 0]) rfl rfl HE.out (err_size _ _) rfl (by first | kernel_rfl | simp [Value.oneCell']) (fun v' hq hr => ?_)
 have q : Only [bE] v v' := by first | exact hq | exact ((Only.refl _ _).drew.mono (U := [bE]) (by simp)).trans hq (fun g h _ => h) (fun g h _ => h)
 replace HE := Lib.hid hr
 replace HA := Lib.hid (q.rowAt HA.out (by rw [List.mem_singleton]; have := Hne.out; omega))
 replace o : Hid (Only [] W8 v') := Lib.hid (o.out.trans q (by simp) (fun g hg hlt => by rw [List.mem_singleton] at hg; have := HzE.out; omega))
 clear hq hr q
 obtain ⟨v, rfl⟩ : ∃ z, z = v' := ⟨_, rfl⟩
 refine hK.out _ _ ?_ (fun hHeld => ?_)
 ·first | exact ⟨o.out.row HB08.out, o.out.row HB18.out, o.out.row HB28.out⟩ | exact ⟨o.out.drew.row HB08.out, o.out.drew.row HB18.out, o.out.drew.row HB28.out⟩
 clear hK K
 try simp only [Act.put, List.setIfInBounds_toArray, List.set_cons_zero, List.set_cons_succ]
 refine wpAnyH_done (by kernel_rfl) ?_ _
 go_wp2_with fail
 go_meet
 exact ⟨bA, bE, rfl, rfl, o, HA, HE⟩) : p := h
theorem qDBuilds2 {p : Prop} (h : p := by
 go_wp2_with fail
 go_at_call 9
 refine (dfirst_any _ (HE.out.quiet HQ12.out)).mono ?_
 rintro e W13 ⟨rfl, hq13⟩
 obtain ⟨i0, i1, i2⟩ := frame_cells (hq13.row HI12.out)
 obtain ⟨f0, f1, f2⟩ := frame_cells (hq13.row HB12'.out)
 have hkf := kframe_any (A := f) (B := f) (HO12.out.quiet hq13) (HF.out.quiet (HQ12.out.q hq13))
 rw [frEq_self] at hkf
 have HKf2 := Lib.hid hkf
 have HQ13 := Lib.hid (HQ12.out.q hq13)
 clear hkf hq13
 go_wp2_with fail
 go_at_call 21
 refine HKf2.out.mono ?_
 rintro e W14 ⟨rfl, hq14⟩
 have HQ14 := Lib.hid (HQ13.out.q hq14)
 clear hq14
 go_wp2_with fail
 exact HPost.out _ _ ⟨rfl, HQ14.out⟩) : p := h
theorem qDBuilds3 {p : Prop} (h : p := by
 obtain ⟨v, rfl⟩ : ∃ z, z = v' := ⟨_, rfl⟩
 refine hK.out _ _ ?_ (fun hHeld => ?_)
 ·first | exact ⟨o.out.row HB08.out, o.out.row HB18.out, o.out.row HB28.out⟩ | exact ⟨o.out.drew.row HB08.out, o.out.drew.row HB18.out, o.out.drew.row HB28.out⟩
 clear hK K
 try simp only [Act.put, List.setIfInBounds_toArray, List.set_cons_zero, List.set_cons_succ]
 refine rdy (rdc 7 52 (fun K hK => ?_) .nil)
 go_simp
 go_at_call 28
 refine (HKc.out _ (by first | exact HQ8.out.q o.out | exact HQ8.out.q o.out.drew)).mono ?_
 rintro e v' ⟨hq, kb, kcap, rfl, hown⟩
 have q : Only [] v v' := by first | exact hq | exact ((Only.refl _ _).drew).q hq
 have hk1 : v.heap.size ≤ kb := by first | exact (hown.at kb rfl).1
 have HkA : Hid (kb ≠ bA) := Lib.hid (by have := (Array.getElem?_eq_some_iff.1 HA.out).1; omega)
 have HkE : Hid (kb ≠ bE) := Lib.hid (by have := (Array.getElem?_eq_some_iff.1 HE.out).1; omega)
 have HK : Hid (Own .i64 3 W7.heap.size v' (.slice (some ⟨kb, 0, none⟩) z.pix.length kcap) z.pix) := Lib.hid (hown.lower (Nat.le_trans (Nat.le_of_lt HY8.out) (by first | exact o.out.size | exact o.out.drew.size)))
 clear hown hk1
 replace HA := Lib.hid (q.row HA.out)
 replace HE := Lib.hid (q.row HE.out)
 replace o := Lib.hid (o.out.q q)
 clear hq q
 obtain ⟨v, rfl⟩ : ∃ z, z = v' := ⟨_, rfl⟩
 refine hK.out _ _ ?_ (fun hHeld => ?_)
 ·first | exact ⟨o.out.row HB08.out, o.out.row HB18.out, o.out.row HB28.out⟩ | exact ⟨o.out.drew.row HB08.out, o.out.drew.row HB18.out, o.out.drew.row HB28.out⟩
 clear hK K
 try simp only [Act.put, List.setIfInBounds_toArray, List.set_cons_zero, List.set_cons_succ]
 refine tkw 8 44 ⟨rfl, qDBuildst0⟩ ?_
 refine tkw 9 53 ⟨rfl, qDBuildst0⟩ ?_
 refine tkw 10 54 ⟨rfl, qDBuildst0⟩ ?_
 exact qDBuilds0) : p := h
theorem qDBuilds4 {p : Prop} (h : p := by
 obtain ⟨v, rfl⟩ : ∃ z, z = v' := ⟨_, rfl⟩
 refine hK.out _ _ ?_ (fun hHeld => ?_)
 ·first | exact ⟨o.out.row HB08.out, o.out.row HB18.out, o.out.row HB28.out⟩ | exact ⟨o.out.drew.row HB08.out, o.out.drew.row HB18.out, o.out.drew.row HB28.out⟩
 clear hK K
 try simp only [Act.put, List.setIfInBounds_toArray, List.set_cons_zero, List.set_cons_succ]
 refine rdy (rdc 7 52 (fun K hK => ?_) .nil)
 go_simp
 go_at_call 28
 refine (HKc.out _ (by first | exact HQ8.out.q o.out | exact HQ8.out.q o.out.drew)).mono ?_
 rintro e v' ⟨hq, rfl⟩
 have q : Only [] v v' := by first | exact hq | exact ((Only.refl _ _).drew).q hq
 replace HA := Lib.hid (q.row HA.out)
 replace HE := Lib.hid (q.row HE.out)
 replace o := Lib.hid (o.out.q q)
 clear hq q
 obtain ⟨v, rfl⟩ : ∃ z, z = v' := ⟨_, rfl⟩
 refine hK.out _ _ ?_ (fun hHeld => ?_)
 ·first | exact ⟨o.out.row HB08.out, o.out.row HB18.out, o.out.row HB28.out⟩ | exact ⟨o.out.drew.row HB08.out, o.out.drew.row HB18.out, o.out.drew.row HB28.out⟩
 clear hK K
 try simp only [Act.put, List.setIfInBounds_toArray, List.set_cons_zero, List.set_cons_succ]
 refine tkw 8 44 ⟨rfl, qDBuildst0⟩ ?_
 refine tkw 9 53 ⟨rfl, qDBuildst0⟩ ?_
 refine tkw 10 54 ⟨rfl, qDBuildst0⟩ ?_
 exact qDBuilds1) : p := h
theorem qDBuilds15 {p : Prop} (h : p := by
 clear hb hz
 obtain ⟨v, rfl⟩ : ∃ z, z = v' := ⟨_, rfl⟩
 refine hK.out _ _ ?_ (fun hHeld => ?_)
 ·first | exact ⟨o.out.row HB08.out, o.out.row HB18.out, o.out.row HB28.out⟩ | exact ⟨o.out.drew.row HB08.out, o.out.drew.row HB18.out, o.out.drew.row HB28.out⟩
 clear hK K
 try simp only [Act.put, List.setIfInBounds_toArray, List.set_cons_zero, List.set_cons_succ]
 exact qDBuilds0) : p := h
theorem qDBuilds5 {p : Prop} (h : p := by
 refine rdy (rdc 11 16 (fun K hK => ?_) .nil)
 go_simp
 generalize hW : World.alloc _ _ = v'
 have q : Only [] v v' := by rw [← hW]; first | exact Only.new _ _ | exact ((Only.refl _ _).drew).q (Only.new _ _)
 have HA : Hid (v'.heap[v.heap.size]? = some (.cells #[.int .i64 0, .int .i64 0, .slice none 0 0] 27 (0, 0))) := Lib.hid (by rw [← hW]; exact heap_alloc_new _ _)
 have HkA : Hid (kb ≠ v.heap.size) := Lib.hid (by have := (HK.out.at kb rfl).2; omega)
 have Hne : Hid (v.heap.size ≠ bE) := Lib.hid (by have := (Array.getElem?_eq_some_iff.1 HE.out).1; omega)
 replace HE := Lib.hid (q.row HE.out)
 replace HK := Lib.hid (HK.out.quiet q)
 have hz : W8.heap.size ≤ v.heap.size := o.out.size
 replace o := Lib.hid (o.out.q q)
 clear hW q
 generalize hb : v.heap.size = bA at HA HkA Hne ⊢
 have HzA : Hid (W8.heap.size ≤ bA) := Lib.hid (by rw [← hb]; exact hz)
 exact qDBuilds15) : p := h
theorem qDBuilds6 {p : Prop} (h : p := by
 refine rdy (rdc 12 17 (fun K hK => ?_) .nil)
 go_simp
 generalize hW : World.alloc _ _ = v'
 have q : Only [] v v' := by rw [← hW]; first | exact Only.new _ _ | exact ((Only.refl _ _).drew).q (Only.new _ _)
 have HE : Hid (v'.heap[v.heap.size]? = some (.cells #[.int .i64 0, .slice none 0 0] 45 (0, 0))) := Lib.hid (by rw [← hW]; exact heap_alloc_new _ _)
 have HkE : Hid (kb ≠ v.heap.size) := Lib.hid (by have := (HK.out.at kb rfl).2; omega)
 have Hne : Hid (bA ≠ v.heap.size) := Lib.hid (by have := (Array.getElem?_eq_some_iff.1 HA.out).1; omega)
 replace HA := Lib.hid (q.row HA.out)
 replace HK := Lib.hid (HK.out.quiet q)
 have hz : W8.heap.size ≤ v.heap.size := o.out.size
 replace o := Lib.hid (o.out.q q)
 clear hW q
 generalize hb : v.heap.size = bE at HE HkE Hne ⊢
 have HzE : Hid (W8.heap.size ≤ bE) := Lib.hid (by rw [← hb]; exact hz)
 exact qDBuilds15) : p := h
theorem qDBuilds16 {p : Prop} (h : p := by
 clear hb hz
 obtain ⟨v, rfl⟩ : ∃ z, z = v' := ⟨_, rfl⟩
 refine hK.out _ _ ?_ (fun hHeld => ?_)
 ·first | exact ⟨o.out.row HB08.out, o.out.row HB18.out, o.out.row HB28.out⟩ | exact ⟨o.out.drew.row HB08.out, o.out.drew.row HB18.out, o.out.drew.row HB28.out⟩
 clear hK K
 try simp only [Act.put, List.setIfInBounds_toArray, List.set_cons_zero, List.set_cons_succ]
 exact qDBuilds1) : p := h
theorem qDBuilds7 {p : Prop} (h : p := by
 refine rdy (rdc 11 16 (fun K hK => ?_) .nil)
 go_simp
 generalize hW : World.alloc _ _ = v'
 have q : Only [] v v' := by rw [← hW]; first | exact Only.new _ _ | exact ((Only.refl _ _).drew).q (Only.new _ _)
 have HA : Hid (v'.heap[v.heap.size]? = some (.cells #[.int .i64 0, .int .i64 0, .slice none 0 0] 27 (0, 0))) := Lib.hid (by rw [← hW]; exact heap_alloc_new _ _)
 have Hne : Hid (v.heap.size ≠ bE) := Lib.hid (by have := (Array.getElem?_eq_some_iff.1 HE.out).1; omega)
 replace HE := Lib.hid (q.row HE.out)
 have hz : W8.heap.size ≤ v.heap.size := o.out.size
 replace o := Lib.hid (o.out.q q)
 clear hW q
 generalize hb : v.heap.size = bA at HA Hne ⊢
 have HzA : Hid (W8.heap.size ≤ bA) := Lib.hid (by rw [← hb]; exact hz)
 exact qDBuilds16) : p := h
theorem qDBuilds8 {p : Prop} (h : p := by
 refine rdy (rdc 12 17 (fun K hK => ?_) .nil)
 go_simp
 generalize hW : World.alloc _ _ = v'
 have q : Only [] v v' := by rw [← hW]; first | exact Only.new _ _ | exact ((Only.refl _ _).drew).q (Only.new _ _)
 have HE : Hid (v'.heap[v.heap.size]? = some (.cells #[.int .i64 0, .slice none 0 0] 45 (0, 0))) := Lib.hid (by rw [← hW]; exact heap_alloc_new _ _)
 have Hne : Hid (bA ≠ v.heap.size) := Lib.hid (by have := (Array.getElem?_eq_some_iff.1 HA.out).1; omega)
 replace HA := Lib.hid (q.row HA.out)
 have hz : W8.heap.size ≤ v.heap.size := o.out.size
 replace o := Lib.hid (o.out.q q)
 clear hW q
 generalize hb : v.heap.size = bE at HE Hne ⊢
 have HzE : Hid (W8.heap.size ≤ bE) := Lib.hid (by rw [← hb]; exact hz)
 exact qDBuilds16) : p := h
theorem qDBuilds9 {p : Prop} (h : p := by
 obtain ⟨v, rfl⟩ : ∃ z, z = v' := ⟨_, rfl⟩
 refine hK.out _ _ ?_ (fun hHeld => ?_)
 ·first | exact ⟨o.out.row HB08.out, o.out.row HB18.out, o.out.row HB28.out⟩ | exact ⟨o.out.drew.row HB08.out, o.out.drew.row HB18.out, o.out.drew.row HB28.out⟩
 clear hK K
 try simp only [Act.put, List.setIfInBounds_toArray, List.set_cons_zero, List.set_cons_succ]
 refine rdy (rdc 7 52 (fun K hK => ?_) (rdc 11 16 (fun K hK => ?_) .nil))
 ·go_simp
  go_at_call 28
  refine (HKc.out _ (by first | exact HQ8.out.q o.out | exact HQ8.out.q o.out.drew)).mono ?_
  rintro e v' ⟨hq, kb, kcap, rfl, hown⟩
  have q : Only [] v v' := by first | exact hq | exact ((Only.refl _ _).drew).q hq
  have hk1 : v.heap.size ≤ kb := by first | exact (hown.at kb rfl).1
  have HkE : Hid (kb ≠ bE) := Lib.hid (by have := (Array.getElem?_eq_some_iff.1 HE.out).1; omega)
  have HK : Hid (Own .i64 3 W7.heap.size v' (.slice (some ⟨kb, 0, none⟩) z.pix.length kcap) z.pix) := Lib.hid (hown.lower (Nat.le_trans (Nat.le_of_lt HY8.out) (by first | exact o.out.size | exact o.out.drew.size)))
  clear hown hk1
  replace HE := Lib.hid (q.row HE.out)
  replace o := Lib.hid (o.out.q q)
  clear hq q
  obtain ⟨v, rfl⟩ : ∃ z, z = v' := ⟨_, rfl⟩
  refine hK.out _ _ ?_ (fun hHeld => ?_)
  ·first | exact ⟨o.out.row HB08.out, o.out.row HB18.out, o.out.row HB28.out⟩ | exact ⟨o.out.drew.row HB08.out, o.out.drew.row HB18.out, o.out.drew.row HB28.out⟩
  clear hK K
  try simp only [Act.put, List.setIfInBounds_toArray, List.set_cons_zero, List.set_cons_succ]
  refine tkw 8 44 ⟨rfl, qDBuildst0⟩ ?_
  refine tkw 9 53 ⟨rfl, qDBuildst0⟩ ?_
  refine tkw 10 54 ⟨rfl, qDBuildst0⟩ ?_
  exact qDBuilds5
 ·go_simp
  generalize hW : World.alloc _ _ = v'
  have q : Only [] v v' := by rw [← hW]; first | exact Only.new _ _ | exact ((Only.refl _ _).drew).q (Only.new _ _)
  have HA : Hid (v'.heap[v.heap.size]? = some (.cells #[.int .i64 0, .int .i64 0, .slice none 0 0] 27 (0, 0))) := Lib.hid (by rw [← hW]; exact heap_alloc_new _ _)
  have Hne : Hid (v.heap.size ≠ bE) := Lib.hid (by have := (Array.getElem?_eq_some_iff.1 HE.out).1; omega)
  replace HE := Lib.hid (q.row HE.out)
  have hz : W8.heap.size ≤ v.heap.size := o.out.size
  replace o := Lib.hid (o.out.q q)
  clear hW q
  generalize hb : v.heap.size = bA at HA Hne ⊢
  have HzA : Hid (W8.heap.size ≤ bA) := Lib.hid (by rw [← hb]; exact hz)
  clear hb hz
  exact qDBuilds3) : p := h
theorem qDBuilds10 {p : Prop} (h : p := by
 obtain ⟨v, rfl⟩ : ∃ z, z = v' := ⟨_, rfl⟩
 refine hK.out _ _ ?_ (fun hHeld => ?_)
 ·first | exact ⟨o.out.row HB08.out, o.out.row HB18.out, o.out.row HB28.out⟩ | exact ⟨o.out.drew.row HB08.out, o.out.drew.row HB18.out, o.out.drew.row HB28.out⟩
 clear hK K
 try simp only [Act.put, List.setIfInBounds_toArray, List.set_cons_zero, List.set_cons_succ]
 refine rdy (rdc 7 52 (fun K hK => ?_) (rdc 12 17 (fun K hK => ?_) .nil))
 ·go_simp
  go_at_call 28
  refine (HKc.out _ (by first | exact HQ8.out.q o.out | exact HQ8.out.q o.out.drew)).mono ?_
  rintro e v' ⟨hq, kb, kcap, rfl, hown⟩
  have q : Only [] v v' := by first | exact hq | exact ((Only.refl _ _).drew).q hq
  have hk1 : v.heap.size ≤ kb := by first | exact (hown.at kb rfl).1
  have HkA : Hid (kb ≠ bA) := Lib.hid (by have := (Array.getElem?_eq_some_iff.1 HA.out).1; omega)
  have HK : Hid (Own .i64 3 W7.heap.size v' (.slice (some ⟨kb, 0, none⟩) z.pix.length kcap) z.pix) := Lib.hid (hown.lower (Nat.le_trans (Nat.le_of_lt HY8.out) (by first | exact o.out.size | exact o.out.drew.size)))
  clear hown hk1
  replace HA := Lib.hid (q.row HA.out)
  replace o := Lib.hid (o.out.q q)
  clear hq q
  obtain ⟨v, rfl⟩ : ∃ z, z = v' := ⟨_, rfl⟩
  refine hK.out _ _ ?_ (fun hHeld => ?_)
  ·first | exact ⟨o.out.row HB08.out, o.out.row HB18.out, o.out.row HB28.out⟩ | exact ⟨o.out.drew.row HB08.out, o.out.drew.row HB18.out, o.out.drew.row HB28.out⟩
  clear hK K
  try simp only [Act.put, List.setIfInBounds_toArray, List.set_cons_zero, List.set_cons_succ]
  refine tkw 8 44 ⟨rfl, qDBuildst0⟩ ?_
  refine tkw 9 53 ⟨rfl, qDBuildst0⟩ ?_
  refine tkw 10 54 ⟨rfl, qDBuildst0⟩ ?_
  exact qDBuilds6
 ·go_simp
  generalize hW : World.alloc _ _ = v'
  have q : Only [] v v' := by rw [← hW]; first | exact Only.new _ _ | exact ((Only.refl _ _).drew).q (Only.new _ _)
  have HE : Hid (v'.heap[v.heap.size]? = some (.cells #[.int .i64 0, .slice none 0 0] 45 (0, 0))) := Lib.hid (by rw [← hW]; exact heap_alloc_new _ _)
  have Hne : Hid (bA ≠ v.heap.size) := Lib.hid (by have := (Array.getElem?_eq_some_iff.1 HA.out).1; omega)
  replace HA := Lib.hid (q.row HA.out)
  have hz : W8.heap.size ≤ v.heap.size := o.out.size
  replace o := Lib.hid (o.out.q q)
  clear hW q
  generalize hb : v.heap.size = bE at HE Hne ⊢
  have HzE : Hid (W8.heap.size ≤ bE) := Lib.hid (by rw [← hb]; exact hz)
  clear hb hz
  exact qDBuilds3) : p := h
theorem qDBuilds11 {p : Prop} (h : p := by
 obtain ⟨v, rfl⟩ : ∃ z, z = v' := ⟨_, rfl⟩
 refine hK.out _ _ ?_ (fun hHeld => ?_)
 ·first | exact ⟨o.out.row HB08.out, o.out.row HB18.out, o.out.row HB28.out⟩ | exact ⟨o.out.drew.row HB08.out, o.out.drew.row HB18.out, o.out.drew.row HB28.out⟩
 clear hK K
 try simp only [Act.put, List.setIfInBounds_toArray, List.set_cons_zero, List.set_cons_succ]
 refine rdy (rdc 7 52 (fun K hK => ?_) (rdc 11 16 (fun K hK => ?_) .nil))
 ·go_simp
  go_at_call 28
  refine (HKc.out _ (by first | exact HQ8.out.q o.out | exact HQ8.out.q o.out.drew)).mono ?_
  rintro e v' ⟨hq, rfl⟩
  have q : Only [] v v' := by first | exact hq | exact ((Only.refl _ _).drew).q hq
  replace HE := Lib.hid (q.row HE.out)
  replace o := Lib.hid (o.out.q q)
  clear hq q
  obtain ⟨v, rfl⟩ : ∃ z, z = v' := ⟨_, rfl⟩
  refine hK.out _ _ ?_ (fun hHeld => ?_)
  ·first | exact ⟨o.out.row HB08.out, o.out.row HB18.out, o.out.row HB28.out⟩ | exact ⟨o.out.drew.row HB08.out, o.out.drew.row HB18.out, o.out.drew.row HB28.out⟩
  clear hK K
  try simp only [Act.put, List.setIfInBounds_toArray, List.set_cons_zero, List.set_cons_succ]
  refine tkw 8 44 ⟨rfl, qDBuildst0⟩ ?_
  refine tkw 9 53 ⟨rfl, qDBuildst0⟩ ?_
  refine tkw 10 54 ⟨rfl, qDBuildst0⟩ ?_
  exact qDBuilds7
 ·go_simp
  generalize hW : World.alloc _ _ = v'
  have q : Only [] v v' := by rw [← hW]; first | exact Only.new _ _ | exact ((Only.refl _ _).drew).q (Only.new _ _)
  have HA : Hid (v'.heap[v.heap.size]? = some (.cells #[.int .i64 0, .int .i64 0, .slice none 0 0] 27 (0, 0))) := Lib.hid (by rw [← hW]; exact heap_alloc_new _ _)
  have Hne : Hid (v.heap.size ≠ bE) := Lib.hid (by have := (Array.getElem?_eq_some_iff.1 HE.out).1; omega)
  replace HE := Lib.hid (q.row HE.out)
  have hz : W8.heap.size ≤ v.heap.size := o.out.size
  replace o := Lib.hid (o.out.q q)
  clear hW q
  generalize hb : v.heap.size = bA at HA Hne ⊢
  have HzA : Hid (W8.heap.size ≤ bA) := Lib.hid (by rw [← hb]; exact hz)
  clear hb hz
  exact qDBuilds4) : p := h
theorem qDBuilds12 {p : Prop} (h : p := by
 obtain ⟨v, rfl⟩ : ∃ z, z = v' := ⟨_, rfl⟩
 refine hK.out _ _ ?_ (fun hHeld => ?_)
 ·first | exact ⟨o.out.row HB08.out, o.out.row HB18.out, o.out.row HB28.out⟩ | exact ⟨o.out.drew.row HB08.out, o.out.drew.row HB18.out, o.out.drew.row HB28.out⟩
 clear hK K
 try simp only [Act.put, List.setIfInBounds_toArray, List.set_cons_zero, List.set_cons_succ]
 refine rdy (rdc 7 52 (fun K hK => ?_) (rdc 12 17 (fun K hK => ?_) .nil))
 ·go_simp
  go_at_call 28
  refine (HKc.out _ (by first | exact HQ8.out.q o.out | exact HQ8.out.q o.out.drew)).mono ?_
  rintro e v' ⟨hq, rfl⟩
  have q : Only [] v v' := by first | exact hq | exact ((Only.refl _ _).drew).q hq
  replace HA := Lib.hid (q.row HA.out)
  replace o := Lib.hid (o.out.q q)
  clear hq q
  obtain ⟨v, rfl⟩ : ∃ z, z = v' := ⟨_, rfl⟩
  refine hK.out _ _ ?_ (fun hHeld => ?_)
  ·first | exact ⟨o.out.row HB08.out, o.out.row HB18.out, o.out.row HB28.out⟩ | exact ⟨o.out.drew.row HB08.out, o.out.drew.row HB18.out, o.out.drew.row HB28.out⟩
  clear hK K
  try simp only [Act.put, List.setIfInBounds_toArray, List.set_cons_zero, List.set_cons_succ]
  refine tkw 8 44 ⟨rfl, qDBuildst0⟩ ?_
  refine tkw 9 53 ⟨rfl, qDBuildst0⟩ ?_
  refine tkw 10 54 ⟨rfl, qDBuildst0⟩ ?_
  exact qDBuilds8
 ·go_simp
  generalize hW : World.alloc _ _ = v'
  have q : Only [] v v' := by rw [← hW]; first | exact Only.new _ _ | exact ((Only.refl _ _).drew).q (Only.new _ _)
  have HE : Hid (v'.heap[v.heap.size]? = some (.cells #[.int .i64 0, .slice none 0 0] 45 (0, 0))) := Lib.hid (by rw [← hW]; exact heap_alloc_new _ _)
  have Hne : Hid (bA ≠ v.heap.size) := Lib.hid (by have := (Array.getElem?_eq_some_iff.1 HA.out).1; omega)
  replace HA := Lib.hid (q.row HA.out)
  have hz : W8.heap.size ≤ v.heap.size := o.out.size
  replace o := Lib.hid (o.out.q q)
  clear hW q
  generalize hb : v.heap.size = bE at HE Hne ⊢
  have HzE : Hid (W8.heap.size ≤ bE) := Lib.hid (by rw [← hb]; exact hz)
  clear hb hz
  exact qDBuilds4) : p := h
theorem qDBuilds13 {p : Prop} (h : p := by
 clear hb hz
 obtain ⟨v, rfl⟩ : ∃ z, z = v' := ⟨_, rfl⟩
 refine hK.out _ _ ?_ (fun hHeld => ?_)
 ·first | exact ⟨o.out.row HB08.out, o.out.row HB18.out, o.out.row HB28.out⟩ | exact ⟨o.out.drew.row HB08.out, o.out.drew.row HB18.out, o.out.drew.row HB28.out⟩
 clear hK K
 try simp only [Act.put, List.setIfInBounds_toArray, List.set_cons_zero, List.set_cons_succ]
 refine rdy (rdc 6 51 (fun K hK => ?_) .nil)
 go_simp
 go_at_call 29
 refine (HPl.out _ (by first | exact HQ8.out.q o.out | exact HQ8.out.q o.out.drew)).mono ?_
 rintro e v' ⟨rfl, hq⟩
 have q : Only [] v v' := by first | exact hq | exact ((Only.refl _ _).drew).q hq
 replace HA := Lib.hid (q.row HA.out)
 replace HE := Lib.hid (q.row HE.out)
 replace o := Lib.hid (o.out.q q)
 clear hq q
 exact qDBuilds4) : p := h
theorem qDBuilds14 {p : Prop} (h : p := by
 clear hb hz
 obtain ⟨v, rfl⟩ : ∃ z, z = v' := ⟨_, rfl⟩
 refine hK.out _ _ ?_ (fun hHeld => ?_)
 ·first | exact ⟨o.out.row HB08.out, o.out.row HB18.out, o.out.row HB28.out⟩ | exact ⟨o.out.drew.row HB08.out, o.out.drew.row HB18.out, o.out.drew.row HB28.out⟩
 clear hK K
 try simp only [Act.put, List.setIfInBounds_toArray, List.set_cons_zero, List.set_cons_succ]
 refine rdy (rdc 6 51 (fun K hK => ?_) .nil)
 go_simp
 go_at_call 29
 refine (HPl.out _ (by first | exact HQ8.out.q o.out | exact HQ8.out.q o.out.drew)).mono ?_
 rintro e v' ⟨rfl, hq⟩
 have q : Only [] v v' := by first | exact hq | exact ((Only.refl _ _).drew).q hq
 replace HA := Lib.hid (q.row HA.out)
 replace HE := Lib.hid (q.row HE.out)
 replace o := Lib.hid (o.out.q q)
 clear hq q
 exact qDBuilds3) : p := h
set_option maxRecDepth 100000 in
set_option maxHeartbeats 8000000 in
theorem dbuilds_any {fv pv lv : Value} {vs : List Value} {w : World} {f prev : FrameD} {k mo vx vy : Int} {ms L : List Int} {S : List (List Int)} (x y qp : Int) (hf : Ints .i64 0 w.heap.size w fv f.pix) (hp : Ints .i64 0 w.heap.size w pv prev.pix) (h : SqIn 0 w.heap.size w lv vs L S) (hm : ms.length = 4) (hmk : ∀ x ∈ ms, InK .i64 x) (hls : S.length = 4) (hE : ErrT w) :
  Calls Tryz.prog 7 #[.agg #[.int .i64 f.W, .int .i64 f.H, fv], .agg #[.int .i64 prev.W, .int .i64 prev.H, pv], .int .i64 x, .int .i64 y, .int .i64 qp, .agg (sqL k mo ms vx vy lv vs).toArray] w fun e w' => (e = .returned (.bool true) ∧ Only [] w w') := by
 refine hidQ fun Q HPost => ?_
 obtain ⟨fa, fcap, rfl, -, fmax, -⟩ := hf.open
 obtain ⟨pa, pcap, rfl, -, -⟩ := hp.open
 have hinf : (Tryz.prog.info? 64).map (·.size) = some (sqL k mo ms vx vy lv vs).toArray.size := sqL_info hm h.len
 have HBu : Hid (weighD L S ≤ 20000 → ∀ (wx : World) (ia : Option Addr) (icap lo1 hi1 : Nat), Only [] w wx → Ints .i64 lo1 hi1 wx (.slice ia f.pix.length icap) f.pix → Calls Tryz.prog 27 #[.agg #[.int .i64 f.W, .int .i64 f.H, .slice ia f.pix.length icap], .agg #[.int .i64 prev.W, .int .i64 prev.H, .slice pa prev.pix.length pcap], .int .i64 x, .int .i64 y, .int .i64 qp, .agg (sqL k mo ms vx vy lv vs).toArray] wx (BuildP wx (buildD f prev x y qp k mo ms vx vy L S))) := Lib.hid (fun hw wx ia icap l1 h1 o hi => build_any hi (hp.quiet o) (h.only o (by simp)) hm o.size hmk (weigh_lens hw).1 (weigh_lens hw).2 hls)
 have HKB : Hid (∀ wx, Only [] w wx → Calls Tryz.prog 28 #[.agg #[.int .i64 f.W, .int .i64 f.H, .slice fa f.pix.length fcap], .agg #[.int .i64 prev.W, .int .i64 prev.H, .slice pa prev.pix.length pcap], .int .i64 x, .int .i64 y, .int .i64 qp, .agg (sqL k mo ms vx vy lv vs).toArray] wx (KBuildP wx (buildD f prev x y qp k mo ms vx vy L S))) := Lib.hid (fun wx o => kb_any (hf.quiet o) (hp.quiet o) (h.only o (by simp)) hm hmk o.size hls)
 have HPl : Hid (∀ wx, Only [] w wx → Calls Tryz.prog 29 #[.agg (sqL k mo ms vx vy lv vs).toArray] wx fun e w' => e = .returned (.agg (sqL k mo ms vx vy lv vs).toArray) ∧ Only [] wx w') := Lib.hid (fun wx o => kplain_any hm (h.only o (by simp)))
 have HWe : Hid (∀ wx, Only [] w wx → Calls Tryz.prog 25 #[.agg (sqL k mo ms vx vy lv vs).toArray] wx fun e w' => e = .returned (.int .i64 ((weighD L S : Nat) : Int)) ∧ Only [] wx w') := Lib.hid (fun wx o => weighs_any hm (h.only o (by simp)))
 obtain ⟨sa, hsa⟩ : ∃ sa, sa = (sqL k mo ms vx vy lv vs).toArray := ⟨_, rfl⟩
 rw [← hsa] at hinf HBu HKB HPl HWe ⊢
 have Hinf := Lib.hid hinf
 obtain ⟨hq1, HB01, HB11, HB21, -⟩ := boxes3 w (.cells #[.int .i64 f.W, .int .i64 f.H, .slice fa f.pix.length fcap] 27) (.cells #[.int .i64 prev.W, .int .i64 prev.H, .slice pa prev.pix.length pcap] 27) (.cells sa 64)
 have HQ1 := Lib.hid hq1
 have HF := Lib.hid hf
 have HP := Lib.hid hp
 have HE := Lib.hid hE
 clear hf hp h hm hmk hls hE hinf hsa hq1 fmax
 go_enter Tryz.func7, Tryz.ntmps7
 go_wp2_with fail
 generalize hW1 : World.alloc (World.alloc (World.alloc w _) _) _ = W1 at *
 clear hW1
 go_at_call 9
 refine (dfirst_any W1 (HE.out.quiet HQ1.out)).mono ?_
 rintro e W2 ⟨rfl, hq2⟩
 have HB02 := Lib.hid (hq2.row HB01.out)
 have HB12 := Lib.hid (hq2.row HB11.out)
 have HB22 := Lib.hid (hq2.row HB21.out)
 have HQ2 := Lib.hid (HQ1.out.q hq2)
 clear hq2
 obtain ⟨f0, f1, f2⟩ := frame_cells HB02.out
 obtain ⟨p0, p1, p2⟩ := frame_cells HB12.out
 have n0 := block_lt_of_cell f0
 simp only at n0
 go_wp2_with fail
 clear f0 f1 f2 p0 p1 p2 n0
 have hn1 := Only.new W2 (.cells #[.int .i64 f.W, .int .i64 f.H, .slice fa f.pix.length fcap, .int .i64 prev.W, .int .i64 prev.H, .slice pa prev.pix.length pcap] 27)
 have HPx := Lib.hid (pix_any (frames_two (HF.out.quiet HQ2.out) (HP.out.quiet HQ2.out)))
 have HB03 := Lib.hid (hn1.row HB02.out)
 have HB13 := Lib.hid (hn1.row HB12.out)
 have HB23 := Lib.hid (hn1.row HB22.out)
 have HQ3 := Lib.hid (HQ2.out.q hn1)
 clear hn1
 generalize hW3 : World.alloc W2 _ = W3 at *
 clear hW3
 go_at_call 24
 refine HPx.out.mono ?_
 rintro e w' ⟨rfl, rfl⟩
 have Hfl := Lib.hid (pix_two (f := f) (p := prev))
 generalize pixB [f, prev] = bb at *
 cases bb with
 | false =>
  go_wp2_with fail
  go_at_call 9
  refine (dfirst_any _ (HE.out.quiet HQ3.out)).mono ?_
  rintro e W4 ⟨rfl, hq4⟩
  have HQ4 := Lib.hid (HQ3.out.q hq4)
  clear hq4
  go_wp2_with fail
  exact HPost.out _ _ ⟨rfl, HQ4.out⟩
 | true =>
  go_wp2_with (first | (refine wpList_load_row_on (by rfl) (.tmp 11) 64 rfl rfl HB23.out Tryz.underlying64 rfl Hinf.out ?_) | fail)
  go_at_call 25
  refine (HWe.out W3 HQ3.out).mono ?_
  rintro e W4 ⟨rfl, hq4⟩
  have HB04 := Lib.hid (hq4.row HB03.out)
  have HB14 := Lib.hid (hq4.row HB13.out)
  have HB24 := Lib.hid (hq4.row HB23.out)
  have HQ4 := Lib.hid (HQ3.out.q hq4)
  clear hq4
  by_cases hwd : 20000 < weighD L S
  ·have hwi : (20000 : Int) < ((weighD L S : Nat) : Int) := by omega
   generalize weighD L S = wd at *
   go_wp2_with fail
   go_at_call 9
   refine (dfirst_any _ (HE.out.quiet HQ4.out)).mono ?_
   rintro e W5 ⟨rfl, hq5⟩
   have HQ5 := Lib.hid (HQ4.out.q hq5)
   clear hq5
   go_wp2_with fail
   exact HPost.out _ _ ⟨rfl, HQ5.out⟩
  ·have hwi : ¬ (20000 : Int) < ((weighD L S : Nat) : Int) := by omega
   have HBd := Lib.hid (HBu.out (by omega))
   clear HBu HWe
   generalize weighD L S = wd at *
   obtain ⟨f0, f1, f2⟩ := frame_cells HB04.out
   go_wp2_with fail
   clear f0 f1 f2 hwi hwd
   go_at_call 26
   refine (kcopyf_any (HF.out.quiet HQ4.out) (Hfl.out (by first | rfl | trivial))).mono ?_
   rintro e W5 ⟨iv, rfl, hown, hq5⟩
   obtain ⟨ia, icap, rfl, -⟩ := hown.ints.open
   have HB05 := Lib.hid (hq5.row HB04.out)
   have HB15 := Lib.hid (hq5.row HB14.out)
   have HB25 := Lib.hid (hq5.row HB24.out)
   have HQ5 := Lib.hid (HQ4.out.q hq5)
   have hn6 := Only.new W5 (.cells #[.int .i64 f.W, .int .i64 f.H, .slice ia f.pix.length icap] 27)
   have HI6 : Hid ((W5.alloc (.cells #[.int .i64 f.W, .int .i64 f.H, .slice ia f.pix.length icap] 27)).heap[W5.heap.size]? = some (.cells #[.int .i64 f.W, .int .i64 f.H, .slice ia f.pix.length icap] 27 (0, 0))) := Lib.hid (heap_alloc_new W5 _)
   have HO6 : Hid (Ints .i64 0 W5.heap.size (W5.alloc (.cells #[.int .i64 f.W, .int .i64 f.H, .slice ia f.pix.length icap] 27)) (.slice ia f.pix.length icap) f.pix) := Lib.hid ((hown.ints.quiet hn6).mono (Nat.zero_le _) (Nat.le_refl _))
   have HB06 := Lib.hid (hn6.row HB05.out)
   have HB16 := Lib.hid (hn6.row HB15.out)
   have HB26 := Lib.hid (hn6.row HB25.out)
   have HQ6 := Lib.hid (HQ5.out.q hn6)
   clear hn6 hq5 hown Hfl
   go_upto_region 6 with (fail)
   generalize hW6 : World.alloc W5 _ = W6 at *
   have HZ6 : Hid (W5.heap.size < W6.heap.size) := Lib.hid (Array.getElem?_eq_some_iff.1 HI6.out).1
   clear hW6
   obtain ⟨i0, i1, i2⟩ := frame_cells HI6.out
   obtain ⟨p0, p1, p2⟩ := frame_cells HB16.out
   go_wp2_with (first | (refine wpList_load_row rfl (.tmp 11) 64 rfl rfl HB26.out Tryz.underlying64 rfl Hinf.out ?_) | fail)
   clear i0 i1 i2 p0 p1 p2
   go_at_call 27
   refine (HBd.out W6 ia icap 0 W5.heap.size HQ6.out HO6.out).mono ?_
   rintro e W7 ⟨hq7, hm⟩
   have HB07 := Lib.hid (hq7.row HB06.out)
   have HB17 := Lib.hid (hq7.row HB16.out)
   have HB27 := Lib.hid (hq7.row HB26.out)
   have HQ7 := Lib.hid (HQ6.out.q hq7)
   have HI7 := Lib.hid (hq7.row HI6.out)
   have HO7 := Lib.hid (HO6.out.quiet hq7)
   have HZ7 := Lib.hid (Nat.lt_of_lt_of_le HZ6.out hq7.size)
   cases hbd : buildD f prev x y qp k mo ms vx vy L S with
   | error c =>
    have Hcz : Hid (c ≠ 0) := Lib.hid (buildD_code hbd)
    rw [hbd] at hm HKB
    subst hm
    have HKc := HKB
    clear HKB hbd HBd
    have hn8 := Only.new W7 (.cells #[.int .i64 0, .int .i64 0, .slice none 0 0] 27)
    have HA8' : Hid ((W7.alloc (.cells #[.int .i64 0, .int .i64 0, .slice none 0 0] 27)).heap[W7.heap.size]? = some (.cells #[.int .i64 0, .int .i64 0, .slice none 0 0] 27 (0, 0))) := Lib.hid (heap_alloc_new W7 _)
    have HB08 := Lib.hid (hn8.row HB07.out)
    have HB18 := Lib.hid (hn8.row HB17.out)
    have HB28 := Lib.hid (hn8.row HB27.out)
    have HQ8 := Lib.hid (HQ7.out.q hn8)
    have HI8 := Lib.hid (hn8.row HI7.out)
    have HO8 := Lib.hid (HO7.out.quiet hn8)
    have HZ8 := Lib.hid (And.intro HZ7.out hq7.size)
    clear hn8 hq7
    go_upto_region 7 with (fail)
    generalize hW8 : World.alloc W7 _ = W8 at *
    have HY8 : Hid (W7.heap.size < W8.heap.size) := Lib.hid (Array.getElem?_eq_some_iff.1 HA8'.out).1
    clear hW8
    go_cut [16, 17] (fun s16 s17 wx => ∃ (bA bE : Nat), s16 = .pointer (some ⟨bA, 0, none⟩) ∧ s17 = .pointer (some ⟨bE, 0, none⟩) ∧ Hid (Only [] W8 wx) ∧ Hid (wx.heap[bA]? = some (.cells #[.int .i64 0, .int .i64 0, .slice none 0 0] 27 (0, 0))) ∧ Hid (wx.heap[bE]? = some (.cells #[.int .i64 c, .slice none 0 0] 45 (0, 0))))
    case first =>
     have o := Lib.hid (Only.refl [] W8)
     refine wp_region_held_drew (S := (fun wz => wz.heap[w.heap.size]? = some (.cells #[.int .i64 f.W, .int .i64 f.H, .slice fa f.pix.length fcap] 27 (0, 0)) ∧ wz.heap[w.heap.size + 1]? = some (.cells #[.int .i64 prev.W, .int .i64 prev.H, .slice pa prev.pix.length pcap] 27 (0, 0)) ∧ wz.heap[w.heap.size + 1 + 1]? = some (.cells sa 64 (0, 0)))) (by kernel_rfl) ?_ (fun hHeld => ?_)
     ·exact ⟨HB08.out, HB18.out, HB28.out⟩
     refine tkw 0 45 ⟨rfl, qDBuildst0⟩ ?_
     refine tkw 1 46 ⟨rfl, qDBuildst0⟩ ?_
     refine tkw 2 47 ⟨rfl, qDBuildst0⟩ ?_
     refine tkw 3 48 ⟨rfl, qDBuildst0⟩ ?_
     refine tkw 4 49 ⟨rfl, qDBuildst0⟩ ?_
     refine tkw 5 50 ⟨rfl, qDBuildst1⟩ ?_
     refine rdy (rdc 6 51 (fun K hK => ?_) (rdc 11 16 (fun K hK => ?_) (rdc 12 17 (fun K hK => ?_) .nil)))
     ·go_simp
      go_at_call 29
      refine (HPl.out _ (by first | exact HQ8.out.q o.out | exact HQ8.out.q o.out.drew)).mono ?_
      rintro e v' ⟨rfl, hq⟩
      have q : Only [] W8 v' := by first | exact hq | exact ((Only.refl _ _).drew).q hq
      replace o := Lib.hid (o.out.q q)
      clear hq q
      obtain ⟨v, rfl⟩ : ∃ z, z = v' := ⟨_, rfl⟩
      refine hK.out _ _ ?_ (fun hHeld => ?_)
      ·first | exact ⟨o.out.row HB08.out, o.out.row HB18.out, o.out.row HB28.out⟩ | exact ⟨o.out.drew.row HB08.out, o.out.drew.row HB18.out, o.out.drew.row HB28.out⟩
      clear hK K
      try simp only [Act.put, List.setIfInBounds_toArray, List.set_cons_zero, List.set_cons_succ]
      refine rdy (rdc 7 52 (fun K hK => ?_) (rdc 11 16 (fun K hK => ?_) (rdc 12 17 (fun K hK => ?_) .nil)))
      ·go_simp
       go_at_call 28
       refine (HKc.out _ (by first | exact HQ8.out.q o.out | exact HQ8.out.q o.out.drew)).mono ?_
       rintro e v' ⟨hq, rfl⟩
       have q : Only [] v v' := by first | exact hq | exact ((Only.refl _ _).drew).q hq
       replace o := Lib.hid (o.out.q q)
       clear hq q
       obtain ⟨v, rfl⟩ : ∃ z, z = v' := ⟨_, rfl⟩
       refine hK.out _ _ ?_ (fun hHeld => ?_)
       ·first | exact ⟨o.out.row HB08.out, o.out.row HB18.out, o.out.row HB28.out⟩ | exact ⟨o.out.drew.row HB08.out, o.out.drew.row HB18.out, o.out.drew.row HB28.out⟩
       clear hK K
       try simp only [Act.put, List.setIfInBounds_toArray, List.set_cons_zero, List.set_cons_succ]
       refine tkw 8 44 ⟨rfl, qDBuildst0⟩ ?_
       refine tkw 9 53 ⟨rfl, qDBuildst0⟩ ?_
       refine tkw 10 54 ⟨rfl, qDBuildst0⟩ ?_
       refine rdy (rdc 11 16 (fun K hK => ?_) (rdc 12 17 (fun K hK => ?_) .nil))
       ·go_simp
        generalize hW : World.alloc _ _ = v'
        have q : Only [] v v' := by rw [← hW]; first | exact Only.new _ _ | exact ((Only.refl _ _).drew).q (Only.new _ _)
        have HA : Hid (v'.heap[v.heap.size]? = some (.cells #[.int .i64 0, .int .i64 0, .slice none 0 0] 27 (0, 0))) := Lib.hid (by rw [← hW]; exact heap_alloc_new _ _)
        have hz : W8.heap.size ≤ v.heap.size := o.out.size
        replace o := Lib.hid (o.out.q q)
        clear hW q
        generalize hb : v.heap.size = bA at HA ⊢
        have HzA : Hid (W8.heap.size ≤ bA) := Lib.hid (by rw [← hb]; exact hz)
        clear hb hz
        obtain ⟨v, rfl⟩ : ∃ z, z = v' := ⟨_, rfl⟩
        refine hK.out _ _ ?_ (fun hHeld => ?_)
        ·first | exact ⟨o.out.row HB08.out, o.out.row HB18.out, o.out.row HB28.out⟩ | exact ⟨o.out.drew.row HB08.out, o.out.drew.row HB18.out, o.out.drew.row HB28.out⟩
        clear hK K
        try simp only [Act.put, List.setIfInBounds_toArray, List.set_cons_zero, List.set_cons_succ]
        exact qDBuilds8
       ·go_simp
        generalize hW : World.alloc _ _ = v'
        have q : Only [] v v' := by rw [← hW]; first | exact Only.new _ _ | exact ((Only.refl _ _).drew).q (Only.new _ _)
        have HE : Hid (v'.heap[v.heap.size]? = some (.cells #[.int .i64 0, .slice none 0 0] 45 (0, 0))) := Lib.hid (by rw [← hW]; exact heap_alloc_new _ _)
        have hz : W8.heap.size ≤ v.heap.size := o.out.size
        replace o := Lib.hid (o.out.q q)
        clear hW q
        generalize hb : v.heap.size = bE at HE ⊢
        have HzE : Hid (W8.heap.size ≤ bE) := Lib.hid (by rw [← hb]; exact hz)
        clear hb hz
        obtain ⟨v, rfl⟩ : ∃ z, z = v' := ⟨_, rfl⟩
        refine hK.out _ _ ?_ (fun hHeld => ?_)
        ·first | exact ⟨o.out.row HB08.out, o.out.row HB18.out, o.out.row HB28.out⟩ | exact ⟨o.out.drew.row HB08.out, o.out.drew.row HB18.out, o.out.drew.row HB28.out⟩
        clear hK K
        try simp only [Act.put, List.setIfInBounds_toArray, List.set_cons_zero, List.set_cons_succ]
        exact qDBuilds7
      ·go_simp
       generalize hW : World.alloc _ _ = v'
       have q : Only [] v v' := by rw [← hW]; first | exact Only.new _ _ | exact ((Only.refl _ _).drew).q (Only.new _ _)
       have HA : Hid (v'.heap[v.heap.size]? = some (.cells #[.int .i64 0, .int .i64 0, .slice none 0 0] 27 (0, 0))) := Lib.hid (by rw [← hW]; exact heap_alloc_new _ _)
       have hz : W8.heap.size ≤ v.heap.size := o.out.size
       replace o := Lib.hid (o.out.q q)
       clear hW q
       generalize hb : v.heap.size = bA at HA ⊢
       have HzA : Hid (W8.heap.size ≤ bA) := Lib.hid (by rw [← hb]; exact hz)
       clear hb hz
       exact qDBuilds12
      ·go_simp
       generalize hW : World.alloc _ _ = v'
       have q : Only [] v v' := by rw [← hW]; first | exact Only.new _ _ | exact ((Only.refl _ _).drew).q (Only.new _ _)
       have HE : Hid (v'.heap[v.heap.size]? = some (.cells #[.int .i64 0, .slice none 0 0] 45 (0, 0))) := Lib.hid (by rw [← hW]; exact heap_alloc_new _ _)
       have hz : W8.heap.size ≤ v.heap.size := o.out.size
       replace o := Lib.hid (o.out.q q)
       clear hW q
       generalize hb : v.heap.size = bE at HE ⊢
       have HzE : Hid (W8.heap.size ≤ bE) := Lib.hid (by rw [← hb]; exact hz)
       clear hb hz
       exact qDBuilds11
     ·go_simp
      generalize hW : World.alloc _ _ = v'
      have q : Only [] W8 v' := by rw [← hW]; first | exact Only.new _ _ | exact ((Only.refl _ _).drew).q (Only.new _ _)
      have HA : Hid (v'.heap[W8.heap.size]? = some (.cells #[.int .i64 0, .int .i64 0, .slice none 0 0] 27 (0, 0))) := Lib.hid (by rw [← hW]; exact heap_alloc_new _ _)
      have hz : W8.heap.size ≤ W8.heap.size := o.out.size
      replace o := Lib.hid (o.out.q q)
      clear hW q
      generalize hb : W8.heap.size = bA at HA ⊢
      have HzA : Hid (W8.heap.size ≤ bA) := Lib.hid (by rw [← hb]; exact hz)
      clear hb hz
      obtain ⟨v, rfl⟩ : ∃ z, z = v' := ⟨_, rfl⟩
      refine hK.out _ _ ?_ (fun hHeld => ?_)
      ·first | exact ⟨o.out.row HB08.out, o.out.row HB18.out, o.out.row HB28.out⟩ | exact ⟨o.out.drew.row HB08.out, o.out.drew.row HB18.out, o.out.drew.row HB28.out⟩
      clear hK K
      try simp only [Act.put, List.setIfInBounds_toArray, List.set_cons_zero, List.set_cons_succ]
      refine rdy (rdc 6 51 (fun K hK => ?_) (rdc 12 17 (fun K hK => ?_) .nil))
      ·go_simp
       go_at_call 29
       refine (HPl.out _ (by first | exact HQ8.out.q o.out | exact HQ8.out.q o.out.drew)).mono ?_
       rintro e v' ⟨rfl, hq⟩
       have q : Only [] v v' := by first | exact hq | exact ((Only.refl _ _).drew).q hq
       replace HA := Lib.hid (q.row HA.out)
       replace o := Lib.hid (o.out.q q)
       clear hq q
       exact qDBuilds12
      ·go_simp
       generalize hW : World.alloc _ _ = v'
       have q : Only [] v v' := by rw [← hW]; first | exact Only.new _ _ | exact ((Only.refl _ _).drew).q (Only.new _ _)
       have HE : Hid (v'.heap[v.heap.size]? = some (.cells #[.int .i64 0, .slice none 0 0] 45 (0, 0))) := Lib.hid (by rw [← hW]; exact heap_alloc_new _ _)
       have Hne : Hid (bA ≠ v.heap.size) := Lib.hid (by have := (Array.getElem?_eq_some_iff.1 HA.out).1; omega)
       replace HA := Lib.hid (q.row HA.out)
       have hz : W8.heap.size ≤ v.heap.size := o.out.size
       replace o := Lib.hid (o.out.q q)
       clear hW q
       generalize hb : v.heap.size = bE at HE Hne ⊢
       have HzE : Hid (W8.heap.size ≤ bE) := Lib.hid (by rw [← hb]; exact hz)
       exact qDBuilds13
     ·go_simp
      generalize hW : World.alloc _ _ = v'
      have q : Only [] W8 v' := by rw [← hW]; first | exact Only.new _ _ | exact ((Only.refl _ _).drew).q (Only.new _ _)
      have HE : Hid (v'.heap[W8.heap.size]? = some (.cells #[.int .i64 0, .slice none 0 0] 45 (0, 0))) := Lib.hid (by rw [← hW]; exact heap_alloc_new _ _)
      have hz : W8.heap.size ≤ W8.heap.size := o.out.size
      replace o := Lib.hid (o.out.q q)
      clear hW q
      generalize hb : W8.heap.size = bE at HE ⊢
      have HzE : Hid (W8.heap.size ≤ bE) := Lib.hid (by rw [← hb]; exact hz)
      clear hb hz
      obtain ⟨v, rfl⟩ : ∃ z, z = v' := ⟨_, rfl⟩
      refine hK.out _ _ ?_ (fun hHeld => ?_)
      ·first | exact ⟨o.out.row HB08.out, o.out.row HB18.out, o.out.row HB28.out⟩ | exact ⟨o.out.drew.row HB08.out, o.out.drew.row HB18.out, o.out.drew.row HB28.out⟩
      clear hK K
      try simp only [Act.put, List.setIfInBounds_toArray, List.set_cons_zero, List.set_cons_succ]
      refine rdy (rdc 6 51 (fun K hK => ?_) (rdc 11 16 (fun K hK => ?_) .nil))
      ·go_simp
       go_at_call 29
       refine (HPl.out _ (by first | exact HQ8.out.q o.out | exact HQ8.out.q o.out.drew)).mono ?_
       rintro e v' ⟨rfl, hq⟩
       have q : Only [] v v' := by first | exact hq | exact ((Only.refl _ _).drew).q hq
       replace HE := Lib.hid (q.row HE.out)
       replace o := Lib.hid (o.out.q q)
       clear hq q
       exact qDBuilds11
      ·go_simp
       generalize hW : World.alloc _ _ = v'
       have q : Only [] v v' := by rw [← hW]; first | exact Only.new _ _ | exact ((Only.refl _ _).drew).q (Only.new _ _)
       have HA : Hid (v'.heap[v.heap.size]? = some (.cells #[.int .i64 0, .int .i64 0, .slice none 0 0] 27 (0, 0))) := Lib.hid (by rw [← hW]; exact heap_alloc_new _ _)
       have Hne : Hid (v.heap.size ≠ bE) := Lib.hid (by have := (Array.getElem?_eq_some_iff.1 HE.out).1; omega)
       replace HE := Lib.hid (q.row HE.out)
       have hz : W8.heap.size ≤ v.heap.size := o.out.size
       replace o := Lib.hid (o.out.q q)
       clear hW q
       generalize hb : v.heap.size = bA at HA Hne ⊢
       have HzA : Hid (W8.heap.size ≤ bA) := Lib.hid (by rw [← hb]; exact hz)
       exact qDBuilds13
    case rest =>
     obtain ⟨bA, bE, rfl, rfl, HOn, HBr, HEr⟩ := hcut
     have HA9 := Lib.hid (HOn.out.row HA8'.out)
     have HI9 := Lib.hid (HOn.out.row HI8.out)
     have HB09 := Lib.hid (HOn.out.row HB08.out)
     have HQ9 := Lib.hid (HQ8.out.q HOn.out)
     have HO9 := Lib.hid (HO8.out.quiet HOn.out)
     obtain ⟨a0, a1, a2⟩ := frame_cells HA9.out
     obtain ⟨b0, b1, b2⟩ := frame_cells HBr.out
     have hkf := kframe_any (A := frame0) (B := frame0) (Ints.nil .i64 0 0 wc : Ints .i64 0 0 wc (.slice none 0 0) frame0.pix) (Ints.nil .i64 0 0 wc : Ints .i64 0 0 wc (.slice none 0 0) frame0.pix)
     rw [frEq_self] at hkf
     have HKf := Lib.hid hkf
     clear hkf
     obtain ⟨e0, e1, -⟩ := row2 HEr.out
     have HSm := Lib.hid (fun (wx : World) (o : Only [] wc wx) => same_any (lo := 0) (hi := 0) (v := .iface 37 (.int .i64 c)) (o := (some ⟨[], c⟩)) (c := c) (p := []) (sv := .slice none 0 0) (lo' := 0) (hi' := 0) (w := wx) (by first | exact rfl | exact ErrV.code _ _ _ _) (Nat.zero_le _) (HE.out.quiet (HQ9.out.q o)) (by simp) (Cells.nil 2 0 0 wx) (by first | rfl | (simp; exact Hcz.out)) rfl rfl)
     go_wp2_with fail
     go_at_call 21
     refine HKf.out.mono ?_
     rintro e W10 ⟨rfl, hq10⟩
     have HQ10' := Lib.hid hq10
     obtain ⟨e0, e1, -⟩ := row2 (hq10.row HEr.out)
     clear hq10
     go_wp2_with fail
     go_at_call 18
     refine (HSm.out W10 HQ10'.out).mono ?_
     rintro e W11 ⟨rfl, hq11⟩
     have HQc := Lib.hid (HQ10'.out.q hq11)
     have HA11 := Lib.hid (HQc.out.row HA9.out)
     have HI11 := Lib.hid (HQc.out.row HI9.out)
     have HB11' := Lib.hid (HQc.out.row HB09.out)
     have HQ11 := Lib.hid (HQ9.out.q HQc.out)
     have HO11 := Lib.hid (HO9.out.quiet HQc.out)
     clear hq11 a0 a1 a2 b0 b1 b2 e0 e1
     go_wp2_with fail
     go_loopw [18] (fun i wr => i = .int .i64 0 ∧ W11 = wr) (fun i _ => 0)
     case atStart => exact ⟨rfl, rfl⟩
     case round =>
      obtain ⟨rfl, rfl⟩ := hrel
      obtain ⟨a0, a1, a2⟩ := frame_cells HA11.out
      have HQ12 := HQ11
      have HI12 := HI11
      have HB12' := HB11'
      have HO12 := HO11
      exact qDBuilds2
   | ok z =>
    rw [hbd] at hm HKB
    obtain ⟨gb, gcap, rfl, hown⟩ := hm
    have HKc := HKB
    clear HKB hbd HBd
    have hn8 := Only.new W7 (.cells #[.int .i64 z.W, .int .i64 z.H, .slice (some ⟨gb, 0, none⟩) z.pix.length gcap] 27)
    have HA8' : Hid ((W7.alloc (.cells #[.int .i64 z.W, .int .i64 z.H, .slice (some ⟨gb, 0, none⟩) z.pix.length gcap] 27)).heap[W7.heap.size]? = some (.cells #[.int .i64 z.W, .int .i64 z.H, .slice (some ⟨gb, 0, none⟩) z.pix.length gcap] 27 (0, 0))) := Lib.hid (heap_alloc_new W7 _)
    have HB08 := Lib.hid (hn8.row HB07.out)
    have HB18 := Lib.hid (hn8.row HB17.out)
    have HB28 := Lib.hid (hn8.row HB27.out)
    have HQ8 := Lib.hid (HQ7.out.q hn8)
    have HI8 := Lib.hid (hn8.row HI7.out)
    have HO8 := Lib.hid (HO7.out.quiet hn8)
    have HZ8 := Lib.hid (And.intro HZ7.out hq7.size)
    have HG8 := Lib.hid (hown.quiet hn8)
    have Hgb := Lib.hid (hown.at gb rfl)
    clear hown
    clear hn8 hq7
    go_upto_region 7 with (fail)
    generalize hW8 : World.alloc W7 _ = W8 at *
    have HY8 : Hid (W7.heap.size < W8.heap.size) := Lib.hid (Array.getElem?_eq_some_iff.1 HA8'.out).1
    clear hW8
    go_cut [16, 17] (fun s16 s17 wx => ∃ (bA bE : Nat) (kb kcap : Nat), s16 = .pointer (some ⟨bA, 0, none⟩) ∧ s17 = .pointer (some ⟨bE, 0, none⟩) ∧ Hid (Only [] W8 wx) ∧ Hid (wx.heap[bA]? = some (.cells #[.int .i64 z.W, .int .i64 z.H, .slice (some ⟨kb, 0, none⟩) z.pix.length kcap] 27 (0, 0))) ∧ Hid (wx.heap[bE]? = some (.cells #[.int .i64 0, .slice none 0 0] 45 (0, 0))) ∧ Hid (Own .i64 3 W7.heap.size wx (.slice (some ⟨kb, 0, none⟩) z.pix.length kcap) z.pix))
    case first =>
     have o := Lib.hid (Only.refl [] W8)
     refine wp_region_held_drew (S := (fun wz => wz.heap[w.heap.size]? = some (.cells #[.int .i64 f.W, .int .i64 f.H, .slice fa f.pix.length fcap] 27 (0, 0)) ∧ wz.heap[w.heap.size + 1]? = some (.cells #[.int .i64 prev.W, .int .i64 prev.H, .slice pa prev.pix.length pcap] 27 (0, 0)) ∧ wz.heap[w.heap.size + 1 + 1]? = some (.cells sa 64 (0, 0)))) (by kernel_rfl) ?_ (fun hHeld => ?_)
     ·exact ⟨HB08.out, HB18.out, HB28.out⟩
     refine tkw 0 45 ⟨rfl, qDBuildst0⟩ ?_
     refine tkw 1 46 ⟨rfl, qDBuildst0⟩ ?_
     refine tkw 2 47 ⟨rfl, qDBuildst0⟩ ?_
     refine tkw 3 48 ⟨rfl, qDBuildst0⟩ ?_
     refine tkw 4 49 ⟨rfl, qDBuildst0⟩ ?_
     refine tkw 5 50 ⟨rfl, qDBuildst1⟩ ?_
     refine rdy (rdc 6 51 (fun K hK => ?_) (rdc 11 16 (fun K hK => ?_) (rdc 12 17 (fun K hK => ?_) .nil)))
     ·go_simp
      go_at_call 29
      refine (HPl.out _ (by first | exact HQ8.out.q o.out | exact HQ8.out.q o.out.drew)).mono ?_
      rintro e v' ⟨rfl, hq⟩
      have q : Only [] W8 v' := by first | exact hq | exact ((Only.refl _ _).drew).q hq
      replace o := Lib.hid (o.out.q q)
      clear hq q
      obtain ⟨v, rfl⟩ : ∃ z, z = v' := ⟨_, rfl⟩
      refine hK.out _ _ ?_ (fun hHeld => ?_)
      ·first | exact ⟨o.out.row HB08.out, o.out.row HB18.out, o.out.row HB28.out⟩ | exact ⟨o.out.drew.row HB08.out, o.out.drew.row HB18.out, o.out.drew.row HB28.out⟩
      clear hK K
      try simp only [Act.put, List.setIfInBounds_toArray, List.set_cons_zero, List.set_cons_succ]
      refine rdy (rdc 7 52 (fun K hK => ?_) (rdc 11 16 (fun K hK => ?_) (rdc 12 17 (fun K hK => ?_) .nil)))
      ·go_simp
       go_at_call 28
       refine (HKc.out _ (by first | exact HQ8.out.q o.out | exact HQ8.out.q o.out.drew)).mono ?_
       rintro e v' ⟨hq, kb, kcap, rfl, hown⟩
       have q : Only [] v v' := by first | exact hq | exact ((Only.refl _ _).drew).q hq
       have hk1 : v.heap.size ≤ kb := by first | exact (hown.at kb rfl).1
       have HK : Hid (Own .i64 3 W7.heap.size v' (.slice (some ⟨kb, 0, none⟩) z.pix.length kcap) z.pix) := Lib.hid (hown.lower (Nat.le_trans (Nat.le_of_lt HY8.out) (by first | exact o.out.size | exact o.out.drew.size)))
       clear hown hk1
       replace o := Lib.hid (o.out.q q)
       clear hq q
       obtain ⟨v, rfl⟩ : ∃ z, z = v' := ⟨_, rfl⟩
       refine hK.out _ _ ?_ (fun hHeld => ?_)
       ·first | exact ⟨o.out.row HB08.out, o.out.row HB18.out, o.out.row HB28.out⟩ | exact ⟨o.out.drew.row HB08.out, o.out.drew.row HB18.out, o.out.drew.row HB28.out⟩
       clear hK K
       try simp only [Act.put, List.setIfInBounds_toArray, List.set_cons_zero, List.set_cons_succ]
       refine tkw 8 44 ⟨rfl, qDBuildst0⟩ ?_
       refine tkw 9 53 ⟨rfl, qDBuildst0⟩ ?_
       refine tkw 10 54 ⟨rfl, qDBuildst0⟩ ?_
       refine rdy (rdc 11 16 (fun K hK => ?_) (rdc 12 17 (fun K hK => ?_) .nil))
       ·go_simp
        generalize hW : World.alloc _ _ = v'
        have q : Only [] v v' := by rw [← hW]; first | exact Only.new _ _ | exact ((Only.refl _ _).drew).q (Only.new _ _)
        have HA : Hid (v'.heap[v.heap.size]? = some (.cells #[.int .i64 0, .int .i64 0, .slice none 0 0] 27 (0, 0))) := Lib.hid (by rw [← hW]; exact heap_alloc_new _ _)
        have HkA : Hid (kb ≠ v.heap.size) := Lib.hid (by have := (HK.out.at kb rfl).2; omega)
        replace HK := Lib.hid (HK.out.quiet q)
        have hz : W8.heap.size ≤ v.heap.size := o.out.size
        replace o := Lib.hid (o.out.q q)
        clear hW q
        generalize hb : v.heap.size = bA at HA HkA ⊢
        have HzA : Hid (W8.heap.size ≤ bA) := Lib.hid (by rw [← hb]; exact hz)
        clear hb hz
        obtain ⟨v, rfl⟩ : ∃ z, z = v' := ⟨_, rfl⟩
        refine hK.out _ _ ?_ (fun hHeld => ?_)
        ·first | exact ⟨o.out.row HB08.out, o.out.row HB18.out, o.out.row HB28.out⟩ | exact ⟨o.out.drew.row HB08.out, o.out.drew.row HB18.out, o.out.drew.row HB28.out⟩
        clear hK K
        try simp only [Act.put, List.setIfInBounds_toArray, List.set_cons_zero, List.set_cons_succ]
        exact qDBuilds6
       ·go_simp
        generalize hW : World.alloc _ _ = v'
        have q : Only [] v v' := by rw [← hW]; first | exact Only.new _ _ | exact ((Only.refl _ _).drew).q (Only.new _ _)
        have HE : Hid (v'.heap[v.heap.size]? = some (.cells #[.int .i64 0, .slice none 0 0] 45 (0, 0))) := Lib.hid (by rw [← hW]; exact heap_alloc_new _ _)
        have HkE : Hid (kb ≠ v.heap.size) := Lib.hid (by have := (HK.out.at kb rfl).2; omega)
        replace HK := Lib.hid (HK.out.quiet q)
        have hz : W8.heap.size ≤ v.heap.size := o.out.size
        replace o := Lib.hid (o.out.q q)
        clear hW q
        generalize hb : v.heap.size = bE at HE HkE ⊢
        have HzE : Hid (W8.heap.size ≤ bE) := Lib.hid (by rw [← hb]; exact hz)
        clear hb hz
        obtain ⟨v, rfl⟩ : ∃ z, z = v' := ⟨_, rfl⟩
        refine hK.out _ _ ?_ (fun hHeld => ?_)
        ·first | exact ⟨o.out.row HB08.out, o.out.row HB18.out, o.out.row HB28.out⟩ | exact ⟨o.out.drew.row HB08.out, o.out.drew.row HB18.out, o.out.drew.row HB28.out⟩
        clear hK K
        try simp only [Act.put, List.setIfInBounds_toArray, List.set_cons_zero, List.set_cons_succ]
        exact qDBuilds5
      ·go_simp
       generalize hW : World.alloc _ _ = v'
       have q : Only [] v v' := by rw [← hW]; first | exact Only.new _ _ | exact ((Only.refl _ _).drew).q (Only.new _ _)
       have HA : Hid (v'.heap[v.heap.size]? = some (.cells #[.int .i64 0, .int .i64 0, .slice none 0 0] 27 (0, 0))) := Lib.hid (by rw [← hW]; exact heap_alloc_new _ _)
       have hz : W8.heap.size ≤ v.heap.size := o.out.size
       replace o := Lib.hid (o.out.q q)
       clear hW q
       generalize hb : v.heap.size = bA at HA ⊢
       have HzA : Hid (W8.heap.size ≤ bA) := Lib.hid (by rw [← hb]; exact hz)
       clear hb hz
       exact qDBuilds10
      ·go_simp
       generalize hW : World.alloc _ _ = v'
       have q : Only [] v v' := by rw [← hW]; first | exact Only.new _ _ | exact ((Only.refl _ _).drew).q (Only.new _ _)
       have HE : Hid (v'.heap[v.heap.size]? = some (.cells #[.int .i64 0, .slice none 0 0] 45 (0, 0))) := Lib.hid (by rw [← hW]; exact heap_alloc_new _ _)
       have hz : W8.heap.size ≤ v.heap.size := o.out.size
       replace o := Lib.hid (o.out.q q)
       clear hW q
       generalize hb : v.heap.size = bE at HE ⊢
       have HzE : Hid (W8.heap.size ≤ bE) := Lib.hid (by rw [← hb]; exact hz)
       clear hb hz
       exact qDBuilds9
     ·go_simp
      generalize hW : World.alloc _ _ = v'
      have q : Only [] W8 v' := by rw [← hW]; first | exact Only.new _ _ | exact ((Only.refl _ _).drew).q (Only.new _ _)
      have HA : Hid (v'.heap[W8.heap.size]? = some (.cells #[.int .i64 0, .int .i64 0, .slice none 0 0] 27 (0, 0))) := Lib.hid (by rw [← hW]; exact heap_alloc_new _ _)
      have hz : W8.heap.size ≤ W8.heap.size := o.out.size
      replace o := Lib.hid (o.out.q q)
      clear hW q
      generalize hb : W8.heap.size = bA at HA ⊢
      have HzA : Hid (W8.heap.size ≤ bA) := Lib.hid (by rw [← hb]; exact hz)
      clear hb hz
      obtain ⟨v, rfl⟩ : ∃ z, z = v' := ⟨_, rfl⟩
      refine hK.out _ _ ?_ (fun hHeld => ?_)
      ·first | exact ⟨o.out.row HB08.out, o.out.row HB18.out, o.out.row HB28.out⟩ | exact ⟨o.out.drew.row HB08.out, o.out.drew.row HB18.out, o.out.drew.row HB28.out⟩
      clear hK K
      try simp only [Act.put, List.setIfInBounds_toArray, List.set_cons_zero, List.set_cons_succ]
      refine rdy (rdc 6 51 (fun K hK => ?_) (rdc 12 17 (fun K hK => ?_) .nil))
      ·go_simp
       go_at_call 29
       refine (HPl.out _ (by first | exact HQ8.out.q o.out | exact HQ8.out.q o.out.drew)).mono ?_
       rintro e v' ⟨rfl, hq⟩
       have q : Only [] v v' := by first | exact hq | exact ((Only.refl _ _).drew).q hq
       replace HA := Lib.hid (q.row HA.out)
       replace o := Lib.hid (o.out.q q)
       clear hq q
       exact qDBuilds10
      ·go_simp
       generalize hW : World.alloc _ _ = v'
       have q : Only [] v v' := by rw [← hW]; first | exact Only.new _ _ | exact ((Only.refl _ _).drew).q (Only.new _ _)
       have HE : Hid (v'.heap[v.heap.size]? = some (.cells #[.int .i64 0, .slice none 0 0] 45 (0, 0))) := Lib.hid (by rw [← hW]; exact heap_alloc_new _ _)
       have Hne : Hid (bA ≠ v.heap.size) := Lib.hid (by have := (Array.getElem?_eq_some_iff.1 HA.out).1; omega)
       replace HA := Lib.hid (q.row HA.out)
       have hz : W8.heap.size ≤ v.heap.size := o.out.size
       replace o := Lib.hid (o.out.q q)
       clear hW q
       generalize hb : v.heap.size = bE at HE Hne ⊢
       have HzE : Hid (W8.heap.size ≤ bE) := Lib.hid (by rw [← hb]; exact hz)
       exact qDBuilds14
     ·go_simp
      generalize hW : World.alloc _ _ = v'
      have q : Only [] W8 v' := by rw [← hW]; first | exact Only.new _ _ | exact ((Only.refl _ _).drew).q (Only.new _ _)
      have HE : Hid (v'.heap[W8.heap.size]? = some (.cells #[.int .i64 0, .slice none 0 0] 45 (0, 0))) := Lib.hid (by rw [← hW]; exact heap_alloc_new _ _)
      have hz : W8.heap.size ≤ W8.heap.size := o.out.size
      replace o := Lib.hid (o.out.q q)
      clear hW q
      generalize hb : W8.heap.size = bE at HE ⊢
      have HzE : Hid (W8.heap.size ≤ bE) := Lib.hid (by rw [← hb]; exact hz)
      clear hb hz
      obtain ⟨v, rfl⟩ : ∃ z, z = v' := ⟨_, rfl⟩
      refine hK.out _ _ ?_ (fun hHeld => ?_)
      ·first | exact ⟨o.out.row HB08.out, o.out.row HB18.out, o.out.row HB28.out⟩ | exact ⟨o.out.drew.row HB08.out, o.out.drew.row HB18.out, o.out.drew.row HB28.out⟩
      clear hK K
      try simp only [Act.put, List.setIfInBounds_toArray, List.set_cons_zero, List.set_cons_succ]
      refine rdy (rdc 6 51 (fun K hK => ?_) (rdc 11 16 (fun K hK => ?_) .nil))
      ·go_simp
       go_at_call 29
       refine (HPl.out _ (by first | exact HQ8.out.q o.out | exact HQ8.out.q o.out.drew)).mono ?_
       rintro e v' ⟨rfl, hq⟩
       have q : Only [] v v' := by first | exact hq | exact ((Only.refl _ _).drew).q hq
       replace HE := Lib.hid (q.row HE.out)
       replace o := Lib.hid (o.out.q q)
       clear hq q
       exact qDBuilds9
      ·go_simp
       generalize hW : World.alloc _ _ = v'
       have q : Only [] v v' := by rw [← hW]; first | exact Only.new _ _ | exact ((Only.refl _ _).drew).q (Only.new _ _)
       have HA : Hid (v'.heap[v.heap.size]? = some (.cells #[.int .i64 0, .int .i64 0, .slice none 0 0] 27 (0, 0))) := Lib.hid (by rw [← hW]; exact heap_alloc_new _ _)
       have Hne : Hid (v.heap.size ≠ bE) := Lib.hid (by have := (Array.getElem?_eq_some_iff.1 HE.out).1; omega)
       replace HE := Lib.hid (q.row HE.out)
       have hz : W8.heap.size ≤ v.heap.size := o.out.size
       replace o := Lib.hid (o.out.q q)
       clear hW q
       generalize hb : v.heap.size = bA at HA Hne ⊢
       have HzA : Hid (W8.heap.size ≤ bA) := Lib.hid (by rw [← hb]; exact hz)
       exact qDBuilds14
    case rest =>
     obtain ⟨bA, bE, kb, kcap, rfl, rfl, HOn, HBr, HEr, HKr⟩ := hcut
     have HA9 := Lib.hid (HOn.out.row HA8'.out)
     have HI9 := Lib.hid (HOn.out.row HI8.out)
     have HB09 := Lib.hid (HOn.out.row HB08.out)
     have HQ9 := Lib.hid (HQ8.out.q HOn.out)
     have HO9 := Lib.hid (HO8.out.quiet HOn.out)
     have HG9 := Lib.hid (HG8.out.quiet HOn.out)
     obtain ⟨a0, a1, a2⟩ := frame_cells HA9.out
     obtain ⟨b0, b1, b2⟩ := frame_cells HBr.out
     have hkf := kframe_any (A := z) (B := z) HG9.out.ints HKr.out.ints
     rw [frEq_self] at hkf
     have HKf := Lib.hid hkf
     clear hkf
     obtain ⟨e0, e1, -⟩ := row2 HEr.out
     have HSm := Lib.hid (fun (wx : World) (o : Only [] wc wx) => same_any (lo := 0) (hi := 0) (v := .nilIface) (o := none) (c := 0) (p := []) (sv := .slice none 0 0) (lo' := 0) (hi' := 0) (w := wx) (by first | exact rfl | exact ErrV.code _ _ _ _) (Nat.zero_le _) (HE.out.quiet (HQ9.out.q o)) (by simp) (Cells.nil 2 0 0 wx) (by first | rfl | (simp; exact Hcz.out)) rfl rfl)
     go_wp2_with fail
     go_at_call 21
     refine HKf.out.mono ?_
     rintro e W10 ⟨rfl, hq10⟩
     have HQ10' := Lib.hid hq10
     obtain ⟨e0, e1, -⟩ := row2 (hq10.row HEr.out)
     clear hq10
     go_wp2_with fail
     go_at_call 18
     refine (HSm.out W10 HQ10'.out).mono ?_
     rintro e W11 ⟨rfl, hq11⟩
     have HQc := Lib.hid (HQ10'.out.q hq11)
     have HA11 := Lib.hid (HQc.out.row HA9.out)
     have HI11 := Lib.hid (HQc.out.row HI9.out)
     have HB11' := Lib.hid (HQc.out.row HB09.out)
     have HQ11 := Lib.hid (HQ9.out.q HQc.out)
     have HO11 := Lib.hid (HO9.out.quiet HQc.out)
     have HG11 := Lib.hid (HG9.out.quiet HQc.out)
     clear hq11 a0 a1 a2 b0 b1 b2 e0 e1
     go_wp2_with fail
     have HM := Lib.hid (show (z.pix.length : Int) ≤ 9223372036854775807 by have := HG11.out.ints.1.len_le; unfold maxLen at this; omega)
     go_loopw [18] (fun i wr => ∃ (j : Nat) (l : List Int), j ≤ z.pix.length ∧ i = .int .i64 j ∧ Hid (l.length = z.pix.length) ∧ Hid (Own .i64 3 W6.heap.size wr (.slice (some ⟨gb, 0, none⟩) z.pix.length gcap) l) ∧ Hid (Only [gb] W11 wr)) (fun i _ => z.pix.length - (intOf i).toNat)
     case atStart => exact ⟨0, z.pix, by omega, rfl, Lib.hid rfl, HG11, Lib.hid (Only.refl _ _)⟩
     case round =>
      obtain ⟨j, l, hj, rfl, Hl, HOj, HQj⟩ := hrel
      have HAj := Lib.hid (HQj.out.rowAt HA11.out (by rw [List.mem_singleton]; have := Hgb.out; omega))
      obtain ⟨a0, a1, a2⟩ := frame_cells HAj.out
      by_cases hlt : j < z.pix.length
      ·have hji : (j : Int) < (z.pix.length : Int) := by omega
       have hj0 : (0 : Int) ≤ (j : Int) := by omega
       have cg := HOj.out.cellS Hl.out.symm (i := j) (by rw [Hl.out]; exact hlt)
       have fg := HOj.out.frzS Hl.out.symm j
       obtain ⟨hs1, hs2⟩ := HOj.out.storeS Hl.out.symm (x := -1) (by simp [InK]) j
       have HS1 := Lib.hid hs1
       have HS2 := Lib.hid (HQj.out.trans hs2 (U := [gb]) (fun g h _ => h) (fun g h _ => h))
       clear hs1 hs2
       have hNb := HM.out
       have Hlt := Lib.hid hlt
       go_wp2_with fail
       exact ⟨⟨j + 1, l.set j (-1), by have := Hlt.out; omega, by go_num, Lib.hid (by rw [List.length_set]; exact Hl.out), HS1, HS2⟩, by simp [intOf]; have := Hlt.out; omega⟩
      ·obtain rfl : j = z.pix.length := by omega
       have hji : ¬ ((z.pix.length : Nat) : Int) < ((z.pix.length : Nat) : Int) := by omega
       have HQ12 := Lib.hid (HQ11.out.trans HQj.out (U := []) (by simp) (fun g hg hlt => by rw [List.mem_singleton] at hg; have := Hgb.out; have := HQ6.out.size; omega))
       have HI12 := Lib.hid (HQj.out.rowAt HI11.out (by rw [List.mem_singleton]; have := Hgb.out; have := HZ6.out; omega))
       have HB12' := Lib.hid (HQj.out.rowAt HB11'.out (by rw [List.mem_singleton]; have := Hgb.out; have := HQ5.out.size; have := HZ6.out; omega))
       have HO12 := Lib.hid (HO11.out.only HQj.out (fun g hg => by rw [List.mem_singleton] at hg; have := Hgb.out; have := HZ6.out; exact .inr (by omega)))
       exact qDBuilds2
theorem dbuilds_card {fv pv lv : Value} {vs : List Value} {w : World} {f prev : FrameD} {k mo vx vy : Int} {ms L : List Int} {S : List (List Int)} (hf : Ints .i64 0 w.heap.size w fv f.pix) (_ : InK .i64 f.W ∧ InK .i64 f.H) (hp : Ints .i64 0 w.heap.size w pv prev.pix) (_ : InK .i64 prev.W ∧ InK .i64 prev.H) (x y qp : Int) (h : SqIn 0 w.heap.size w lv vs L S) (hm : ms.length = 4) (hmk : ∀ x ∈ ms, InK .i64 x) (hls : S.length = 4) (_ : w.heap.size ≤ w.heap.size) (hE : ErrT w) :
  Calls Tryz.prog 7 #[.agg #[.int .i64 f.W, .int .i64 f.H, fv], .agg #[.int .i64 prev.W, .int .i64 prev.H, pv], .int .i64 x, .int .i64 y, .int .i64 qp, .agg (sqL k mo ms vx vy lv vs).toArray] w fun e w' => (e = .returned (.bool true) ∧ Only [] w w') := dbuilds_any x y qp hf hp h hm hmk hls hE
end Go.Proofs.YthgpgbdkcdmbpaaGreatDoor
