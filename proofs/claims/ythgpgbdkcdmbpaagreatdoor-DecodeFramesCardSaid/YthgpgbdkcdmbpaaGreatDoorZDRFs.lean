/- kinref21.Frames: what coded frames mean, one behind the other, by the document. Conditions: they read, their data are small. -/
import Derived.Test.YthgpgbdkcdmbpaaGreatDoorRF
import Derived.Test.YthgpgbdkcdmbpaaGreatDoorFS
import Derived.Deep.DeepCutAuto
namespace Go.Proofs.YthgpgbdkcdmbpaaGreatDoor
open Go.RowKit
set_option linter.unusedVariables false
set_option linter.unusedSimpArgs false
set_option maxRecDepth 100000
set_option maxHeartbeats 16000000
theorem qDRFst0 {p : Prop} (h : p := by intro wz hSw; obtain ⟨hS0, hS1, hS2⟩ := hSw; obtain ⟨p0, p1, p2⟩ := frame_cells hS2; go_simp; try with_reducible rfl) : p := h
/-- what the document's Frames hands back -/
def KFramesP (w : World) (r : Except Err (List FrameD)) (e : Ending) (w' : World) : Prop :=
 Only [] w w' ∧ match r with
  | .ok fs => ∃ a cap, e = .returned (.tuple #[.slice a fs.length cap, .agg #[.int .i64 0, .slice none 0 0]]) ∧ FramesAt w.heap.size w'.heap.size w' (.slice a fs.length cap) fs
  | .error er => ∃ sv, e = .returned (.tuple #[.slice none 0 0, .agg #[.int .i64 er.code, sv]]) ∧ Cells 2 w.heap.size w'.heap.size w' sv er.path.length (flat er.path)
theorem qDRFs9 {p : Prop} (h : p := by
 replace HK : Hid (Ints .i64 kb (kb + 1) v' (.slice (some ⟨kb, 0, none⟩) f.pix.length kcap) f.pix) := lh (HK.out.only q (fun g hg => by rw [mSg] at hg; subst hg; exact HkE.out.2))
 replace HKb : Hid (W8.heap.size ≤ kb ∧ (kb + 1) ≤ v'.heap.size) := lh ⟨HKb.out.1, Nat.le_trans HKb.out.2 q.size⟩
 replace o : Hid (Only [] W8 v') := lh (o.out.trans q (by simp) (fun g hg hlt => by rw [mSg] at hg; have := HkE.out.1; omega))
 clear hq hr q
 obtain ⟨v, rfl⟩ : ∃ z, z = v' := ⟨_, rfl⟩
 refine hK.out _ _ ?_ (fun hHeld => ?_)
 ·exact HSS.out _ (by first | exact o.out | exact o.out.drew)
 clear hK K
 refine wpAnyH_done (by kernel_rfl) ?_ _
 go_wp2_with fail
 go_meet
 exact ⟨bA, bE, kb, kcap, rfl, rfl, o, HA, HE, HKb, HK, HkA, HkE⟩) : p := h
theorem qDRFs11 {p : Prop} (h : p := by
 exact HSS.out _ (by first | exact o.out | exact o.out.drew)) : p := h
theorem qDRFs0 {p : Prop} (h : p := by
 refine rdy (rdn 13 (fun K hK => ?_) .nil)
 refine wp_store_rowQ (.tmp 11) (.tmp 33) 27 rfl (g := bA) (c' := #[.int .i64 f.W, .int .i64 f.H, .slice (some ⟨kb, 0, none⟩) f.pix.length kcap]) rfl rfl HA.out (fr_info _ _ _) rfl (by first | kernel_rfl | simp [Value.oneCell']) (fun v' hq hr => ?_)
 have q : Only [bA] v v' := by first | exact hq | exact ((Only.refl _ _).drew.mono (U := [bA]) (by simp)).trans hq (fun g h _ => h) (fun g h _ => h)
 replace HA := lh hr
 replace HE := lh (q.rowAt HE.out (by rw [mSg]; have := HnAE.out; omega))
 replace HK : Hid (Ints .i64 kb (kb + 1) v' (.slice (some ⟨kb, 0, none⟩) f.pix.length kcap) f.pix) := lh (HK.out.only q (fun g hg => by rw [mSg] at hg; subst hg; exact HkA.out.2))
 replace HKb : Hid (W8.heap.size ≤ kb ∧ (kb + 1) ≤ v'.heap.size) := lh ⟨HKb.out.1, Nat.le_trans HKb.out.2 q.size⟩
 replace o : Hid (Only [] W8 v') := lh (o.out.trans q (by simp) (fun g hg hlt => by rw [mSg] at hg; have := HkA.out.1; omega))
 clear hq hr q
 obtain ⟨v, rfl⟩ : ∃ z, z = v' := ⟨_, rfl⟩
 refine hK.out _ _ ?_ (fun hHeld => ?_)
 ·exact qDRFs11
 clear hK K
 refine rdy (rdn 14 (fun K hK => ?_) .nil)
 refine wp_store_rowQ (.tmp 12) (.tmp 34) 45 rfl (g := bE) (c' := #[.int .i64 0, .slice none 0 0]) rfl rfl HE.out (er_info _ _) rfl (by first | kernel_rfl | simp [Value.oneCell']) (fun v' hq hr => ?_)
 have q : Only [bE] v v' := by first | exact hq | exact ((Only.refl _ _).drew.mono (U := [bE]) (by simp)).trans hq (fun g h _ => h) (fun g h _ => h)
 replace HE := lh hr
 replace HA := lh (q.rowAt HA.out (by rw [mSg]; have := HnAE.out; omega))
 exact qDRFs9) : p := h
theorem qDRFs1 {p : Prop} (h : p := by
 refine rdy (rdn 13 (fun K hK => ?_) .nil)
 refine wp_store_rowQ (.tmp 11) (.tmp 33) 27 rfl (g := bA) (c' := #[.int .i64 f.W, .int .i64 f.H, .slice (some ⟨kb, 0, none⟩) f.pix.length kcap]) rfl rfl HA.out (fr_info _ _ _) rfl (by first | kernel_rfl | simp [Value.oneCell']) (fun v' hq hr => ?_)
 have q : Only [bA] v v' := by first | exact hq | exact ((Only.refl _ _).drew.mono (U := [bA]) (by simp)).trans hq (fun g h _ => h) (fun g h _ => h)
 replace HA := lh hr
 replace HE := lh (q.rowAt HE.out (by rw [mSg]; have := HnEA.out; omega))
 replace HK : Hid (Ints .i64 kb (kb + 1) v' (.slice (some ⟨kb, 0, none⟩) f.pix.length kcap) f.pix) := lh (HK.out.only q (fun g hg => by rw [mSg] at hg; subst hg; exact HkA.out.2))
 replace HKb : Hid (W8.heap.size ≤ kb ∧ (kb + 1) ≤ v'.heap.size) := lh ⟨HKb.out.1, Nat.le_trans HKb.out.2 q.size⟩
 replace o : Hid (Only [] W8 v') := lh (o.out.trans q (by simp) (fun g hg hlt => by rw [mSg] at hg; have := HkA.out.1; omega))
 clear hq hr q
 obtain ⟨v, rfl⟩ : ∃ z, z = v' := ⟨_, rfl⟩
 refine hK.out _ _ ?_ (fun hHeld => ?_)
 ·exact qDRFs11
 clear hK K
 refine rdy (rdn 14 (fun K hK => ?_) .nil)
 refine wp_store_rowQ (.tmp 12) (.tmp 34) 45 rfl (g := bE) (c' := #[.int .i64 0, .slice none 0 0]) rfl rfl HE.out (er_info _ _) rfl (by first | kernel_rfl | simp [Value.oneCell']) (fun v' hq hr => ?_)
 have q : Only [bE] v v' := by first | exact hq | exact ((Only.refl _ _).drew.mono (U := [bE]) (by simp)).trans hq (fun g h _ => h) (fun g h _ => h)
 replace HE := lh hr
 replace HA := lh (q.rowAt HA.out (by rw [mSg]; have := HnEA.out; omega))
 exact qDRFs9) : p := h
theorem qDRFs10 {p : Prop} (h : p := by
 replace HK : Hid (Cells 2 l1 h1 v' (.slice a1 er.path.length cap1) er.path.length (flat er.path)) := lh (HK.out.only q (fun g hg => by rw [mSg] at hg; subst hg; exact HkE.out.2))
 replace HKb : Hid (W8.heap.size ≤ l1 ∧ h1 ≤ v'.heap.size) := lh ⟨HKb.out.1, Nat.le_trans HKb.out.2 q.size⟩
 replace o : Hid (Only [] W8 v') := lh (o.out.trans q (by simp) (fun g hg hlt => by rw [mSg] at hg; have := HkE.out.1; omega))
 clear hq hr q
 obtain ⟨v, rfl⟩ : ∃ z, z = v' := ⟨_, rfl⟩
 refine hK.out _ _ ?_ (fun hHeld => ?_)
 ·exact HSS.out _ (by first | exact o.out | exact o.out.drew)
 clear hK K
 refine wpAnyH_done (by kernel_rfl) ?_ _
 go_wp2_with fail
 go_meet
 exact ⟨bA, bE, l1, h1, a1, cap1, rfl, rfl, o, HA, HE, HKb, HK, HkA, HkE⟩) : p := h
theorem qDRFs2 {p : Prop} (h : p := by
 refine rdy (rdn 13 (fun K hK => ?_) .nil)
 refine wp_store_rowQ (.tmp 11) (.tmp 33) 27 rfl (g := bA) (c' := #[.int .i64 0, .int .i64 0, .slice none 0 0]) rfl rfl HA.out (fr_info _ _ _) rfl (by first | kernel_rfl | simp [Value.oneCell']) (fun v' hq hr => ?_)
 have q : Only [bA] v v' := by first | exact hq | exact ((Only.refl _ _).drew.mono (U := [bA]) (by simp)).trans hq (fun g h _ => h) (fun g h _ => h)
 replace HA := lh hr
 replace HE := lh (q.rowAt HE.out (by rw [mSg]; have := HnAE.out; omega))
 replace HK : Hid (Cells 2 l1 h1 v' (.slice a1 er.path.length cap1) er.path.length (flat er.path)) := lh (HK.out.only q (fun g hg => by rw [mSg] at hg; subst hg; exact HkA.out.2))
 replace HKb : Hid (W8.heap.size ≤ l1 ∧ h1 ≤ v'.heap.size) := lh ⟨HKb.out.1, Nat.le_trans HKb.out.2 q.size⟩
 replace o : Hid (Only [] W8 v') := lh (o.out.trans q (by simp) (fun g hg hlt => by rw [mSg] at hg; have := HkA.out.1; omega))
 clear hq hr q
 obtain ⟨v, rfl⟩ : ∃ z, z = v' := ⟨_, rfl⟩
 refine hK.out _ _ ?_ (fun hHeld => ?_)
 ·exact qDRFs11
 clear hK K
 refine rdy (rdn 14 (fun K hK => ?_) .nil)
 refine wp_store_rowQ (.tmp 12) (.tmp 34) 45 rfl (g := bE) (c' := #[.int .i64 er.code, .slice a1 er.path.length cap1]) rfl rfl HE.out (er_info _ _) rfl (by first | kernel_rfl | simp [Value.oneCell']) (fun v' hq hr => ?_)
 have q : Only [bE] v v' := by first | exact hq | exact ((Only.refl _ _).drew.mono (U := [bE]) (by simp)).trans hq (fun g h _ => h) (fun g h _ => h)
 replace HE := lh hr
 replace HA := lh (q.rowAt HA.out (by rw [mSg]; have := HnAE.out; omega))
 exact qDRFs10) : p := h
theorem qDRFs3 {p : Prop} (h : p := by
 refine rdy (rdn 13 (fun K hK => ?_) .nil)
 refine wp_store_rowQ (.tmp 11) (.tmp 33) 27 rfl (g := bA) (c' := #[.int .i64 0, .int .i64 0, .slice none 0 0]) rfl rfl HA.out (fr_info _ _ _) rfl (by first | kernel_rfl | simp [Value.oneCell']) (fun v' hq hr => ?_)
 have q : Only [bA] v v' := by first | exact hq | exact ((Only.refl _ _).drew.mono (U := [bA]) (by simp)).trans hq (fun g h _ => h) (fun g h _ => h)
 replace HA := lh hr
 replace HE := lh (q.rowAt HE.out (by rw [mSg]; have := HnEA.out; omega))
 replace HK : Hid (Cells 2 l1 h1 v' (.slice a1 er.path.length cap1) er.path.length (flat er.path)) := lh (HK.out.only q (fun g hg => by rw [mSg] at hg; subst hg; exact HkA.out.2))
 replace HKb : Hid (W8.heap.size ≤ l1 ∧ h1 ≤ v'.heap.size) := lh ⟨HKb.out.1, Nat.le_trans HKb.out.2 q.size⟩
 replace o : Hid (Only [] W8 v') := lh (o.out.trans q (by simp) (fun g hg hlt => by rw [mSg] at hg; have := HkA.out.1; omega))
 clear hq hr q
 obtain ⟨v, rfl⟩ : ∃ z, z = v' := ⟨_, rfl⟩
 refine hK.out _ _ ?_ (fun hHeld => ?_)
 ·exact qDRFs11
 clear hK K
 refine rdy (rdn 14 (fun K hK => ?_) .nil)
 refine wp_store_rowQ (.tmp 12) (.tmp 34) 45 rfl (g := bE) (c' := #[.int .i64 er.code, .slice a1 er.path.length cap1]) rfl rfl HE.out (er_info _ _) rfl (by first | kernel_rfl | simp [Value.oneCell']) (fun v' hq hr => ?_)
 have q : Only [bE] v v' := by first | exact hq | exact ((Only.refl _ _).drew.mono (U := [bE]) (by simp)).trans hq (fun g h _ => h) (fun g h _ => h)
 replace HE := lh hr
 replace HA := lh (q.rowAt HA.out (by rw [mSg]; have := HnEA.out; omega))
 exact qDRFs10) : p := h
theorem qDRFs4 {p : Prop} (h : p := by
 exact qDRFs11) : p := h
theorem qDRFs5 {p : Prop} (h : p := by
 refine rdy (rdc 11 11 (fun K hK => ?_) .nil)
 go_simp
 generalize hW : World.alloc _ _ = v'
 have q : Only [] v v' := by rw [← hW]; first | exact Only.new _ _ | exact ((Only.refl _ _).drew).q (Only.new _ _)
 have HA : Hid (v'.heap[v.heap.size]? = some (.cells #[.int .i64 0, .int .i64 0, .slice none 0 0] 27 (0, 0))) := lh (by rw [← hW]; exact heap_alloc_new _ _)
 have hz : W8.heap.size ≤ v.heap.size := o.out.size
 have HkA : Hid (W8.heap.size ≤ v.heap.size ∧ (v.heap.size < kb ∨ (kb + 1) ≤ v.heap.size)) := lh ⟨hz, .inr HKb.out.2⟩
 have HnEA : Hid (bE ≠ v.heap.size) := lh (by have := (Array.getElem?_eq_some_iff.1 HE.out).1; omega)
 replace HE := lh (q.row HE.out)
 replace HK : Hid (Ints .i64 kb (kb + 1) v' (.slice (some ⟨kb, 0, none⟩) f.pix.length kcap) f.pix) := lh (HK.out.only q (by simp))
 replace HKb : Hid (W8.heap.size ≤ kb ∧ (kb + 1) ≤ v'.heap.size) := lh ⟨HKb.out.1, Nat.le_trans HKb.out.2 q.size⟩
 replace o := lh (o.out.q q)
 clear hW q
 generalize hb : v.heap.size = bA at HA HkA HnEA ⊢
 have HzA : Hid (W8.heap.size ≤ bA) := lh (by rw [← hb]; exact hz)
 clear hb hz
 obtain ⟨v, rfl⟩ : ∃ z, z = v' := ⟨_, rfl⟩
 refine hK.out _ _ ?_ (fun hHeld => ?_)
 ·exact qDRFs4
 clear hK K
 exact qDRFs1) : p := h
theorem qDRFs6 {p : Prop} (h : p := by
 refine rdy (rdc 12 12 (fun K hK => ?_) .nil)
 go_simp
 generalize hW : World.alloc _ _ = v'
 have q : Only [] v v' := by rw [← hW]; first | exact Only.new _ _ | exact ((Only.refl _ _).drew).q (Only.new _ _)
 have HE : Hid (v'.heap[v.heap.size]? = some (.cells #[.int .i64 0, .slice none 0 0] 45 (0, 0))) := lh (by rw [← hW]; exact heap_alloc_new _ _)
 have hz : W8.heap.size ≤ v.heap.size := o.out.size
 have HkE : Hid (W8.heap.size ≤ v.heap.size ∧ (v.heap.size < kb ∨ (kb + 1) ≤ v.heap.size)) := lh ⟨hz, .inr HKb.out.2⟩
 have HnAE : Hid (bA ≠ v.heap.size) := lh (by have := (Array.getElem?_eq_some_iff.1 HA.out).1; omega)
 replace HA := lh (q.row HA.out)
 replace HK : Hid (Ints .i64 kb (kb + 1) v' (.slice (some ⟨kb, 0, none⟩) f.pix.length kcap) f.pix) := lh (HK.out.only q (by simp))
 replace HKb : Hid (W8.heap.size ≤ kb ∧ (kb + 1) ≤ v'.heap.size) := lh ⟨HKb.out.1, Nat.le_trans HKb.out.2 q.size⟩
 replace o := lh (o.out.q q)
 clear hW q
 generalize hb : v.heap.size = bE at HE HkE HnAE ⊢
 have HzE : Hid (W8.heap.size ≤ bE) := lh (by rw [← hb]; exact hz)
 clear hb hz
 obtain ⟨v, rfl⟩ : ∃ z, z = v' := ⟨_, rfl⟩
 refine hK.out _ _ ?_ (fun hHeld => ?_)
 ·exact qDRFs4
 clear hK K
 exact qDRFs0) : p := h
theorem qDRFs7 {p : Prop} (h : p := by
 refine rdy (rdc 11 11 (fun K hK => ?_) .nil)
 go_simp
 generalize hW : World.alloc _ _ = v'
 have q : Only [] v v' := by rw [← hW]; first | exact Only.new _ _ | exact ((Only.refl _ _).drew).q (Only.new _ _)
 have HA : Hid (v'.heap[v.heap.size]? = some (.cells #[.int .i64 0, .int .i64 0, .slice none 0 0] 27 (0, 0))) := lh (by rw [← hW]; exact heap_alloc_new _ _)
 have hz : W8.heap.size ≤ v.heap.size := o.out.size
 have HkA : Hid (W8.heap.size ≤ v.heap.size ∧ (v.heap.size < l1 ∨ h1 ≤ v.heap.size)) := lh ⟨hz, .inr HKb.out.2⟩
 have HnEA : Hid (bE ≠ v.heap.size) := lh (by have := (Array.getElem?_eq_some_iff.1 HE.out).1; omega)
 replace HE := lh (q.row HE.out)
 replace HK : Hid (Cells 2 l1 h1 v' (.slice a1 er.path.length cap1) er.path.length (flat er.path)) := lh (HK.out.only q (by simp))
 replace HKb : Hid (W8.heap.size ≤ l1 ∧ h1 ≤ v'.heap.size) := lh ⟨HKb.out.1, Nat.le_trans HKb.out.2 q.size⟩
 replace o := lh (o.out.q q)
 clear hW q
 generalize hb : v.heap.size = bA at HA HkA HnEA ⊢
 have HzA : Hid (W8.heap.size ≤ bA) := lh (by rw [← hb]; exact hz)
 clear hb hz
 obtain ⟨v, rfl⟩ : ∃ z, z = v' := ⟨_, rfl⟩
 refine hK.out _ _ ?_ (fun hHeld => ?_)
 ·exact qDRFs4
 clear hK K
 exact qDRFs3) : p := h
theorem qDRFs8 {p : Prop} (h : p := by
 refine rdy (rdc 12 12 (fun K hK => ?_) .nil)
 go_simp
 generalize hW : World.alloc _ _ = v'
 have q : Only [] v v' := by rw [← hW]; first | exact Only.new _ _ | exact ((Only.refl _ _).drew).q (Only.new _ _)
 have HE : Hid (v'.heap[v.heap.size]? = some (.cells #[.int .i64 0, .slice none 0 0] 45 (0, 0))) := lh (by rw [← hW]; exact heap_alloc_new _ _)
 have hz : W8.heap.size ≤ v.heap.size := o.out.size
 have HkE : Hid (W8.heap.size ≤ v.heap.size ∧ (v.heap.size < l1 ∨ h1 ≤ v.heap.size)) := lh ⟨hz, .inr HKb.out.2⟩
 have HnAE : Hid (bA ≠ v.heap.size) := lh (by have := (Array.getElem?_eq_some_iff.1 HA.out).1; omega)
 replace HA := lh (q.row HA.out)
 replace HK : Hid (Cells 2 l1 h1 v' (.slice a1 er.path.length cap1) er.path.length (flat er.path)) := lh (HK.out.only q (by simp))
 replace HKb : Hid (W8.heap.size ≤ l1 ∧ h1 ≤ v'.heap.size) := lh ⟨HKb.out.1, Nat.le_trans HKb.out.2 q.size⟩
 replace o := lh (o.out.q q)
 clear hW q
 generalize hb : v.heap.size = bE at HE HkE HnAE ⊢
 have HzE : Hid (W8.heap.size ≤ bE) := lh (by rw [← hb]; exact hz)
 clear hb hz
 obtain ⟨v, rfl⟩ : ∃ z, z = v' := ⟨_, rfl⟩
 refine hK.out _ _ ?_ (fun hHeld => ?_)
 ·exact qDRFs4
 clear hK K
 exact qDRFs2) : p := h
theorem kdframes_any {lo hi : Nat} {v : Value} {w : World} {l : List Coded} (W H : Int) (h : CodedsAt lo hi w v l) (hdl : ∀ c ∈ l, c.data.length ≤ 140737488355328) :
  Calls Tryz.prog 16 #[v, .int .i64 W, .int .i64 H] w (KFramesP w (framesD l W H)) := by
 refine hidQ fun Q HPost => ?_
 obtain ⟨a, cap, rfl, hcap, hmax, hel⟩ := h.open
 have Hel := lh hel
 have Hdl := lh hdl
 have hll : (l.length : Int) ≤ 9223372036854775807 := by unfold maxLen at hmax; omega
 clear h hel hcap hmax hdl
 by_cases h16 : 16 < l.length
 ·have hr : framesD l W H = .error ⟨[], 5⟩ := by unfold framesD; rw [if_pos h16]
  rw [hr] at HPost
  have h16i : (16 : Int) < (l.length : Int) := by omega
  clear hr h16
  have HQ1 := lh (Only.new w (.cells #[.int .i64 0, .slice none 0 0] 45))
  have HE1 : Hid ((w.alloc (.cells #[.int .i64 0, .slice none 0 0] 45)).heap[w.heap.size]? = some (.cells #[.int .i64 0, .slice none 0 0] 45 (0, 0))) := lh (heap_alloc_new w _)
  go_enter Tryz.func16, Tryz.ntmps16
  go_wp2_with fail
  generalize hW1 : World.alloc w _ = W1 at *
  clear hW1
  go_at_call 22
  refine (fail_any _ _).mono ?_
  rintro e w3 ⟨rfl, hq3⟩
  have HE3 := lh (hq3.row HE1.out)
  have HQ3 := lh (HQ1.out.q hq3)
  clear hq3
  obtain ⟨z0, z1, y0, y1, -⟩ := row2 HE3.out
  go_wp2_with fail
  obtain ⟨hrow, hon⟩ := row2_set (x := .int .i64 5) (y := .slice none 0 0) HE3.out
  have hall : Only [] w _ := HQ3.out.trans hon (U := []) (by simp) (fun g hg hl => by rw [mSg] at hg; omega)
  refine bodyPost_ret (results_tmp_cell Tryz.results16 _ _ w.heap.size _ _ _ _ (.slice none 0 0) rfl rfl hrow Tryz.underlying45 rfl (err_info _ rfl)) rfl (HPost.out _ _ ?_)
  exact ⟨hall, _, rfl, Cells.nil _ _ _ _⟩
 ·have hr : framesD l W H = framesGo W H l 0 frame0 [] := by unfold framesD; rw [if_neg h16]
  rw [hr] at HPost
  have h16i : ¬ (16 : Int) < (l.length : Int) := by omega
  have h16n : l.length ≤ 16 := by omega
  clear hr h16
  obtain ⟨hq1, HE1, HP1, HZ1⟩ := boxes2 w (.cells #[.int .i64 0, .slice none 0 0] 45) (.cells #[.int .i64 0, .int .i64 0, .slice none 0 0] 27)
  have HQ1 := lh hq1
  clear hq1
  go_enter Tryz.func16, Tryz.ntmps16
  go_wp2_with fail
  generalize hW1 : World.alloc (World.alloc w _) _ = W1 at *
  clear hW1
  go_loopw [10, 8] (fun i r wr => ∃ (k : Nat) (prev : FrameD) (acc : List FrameD) (pv : Value) (b : Nat), k ≤ l.length ∧ i = .int .i64 k ∧ Hid (framesGo W H (l.drop k) k prev acc = framesGo W H l 0 frame0 []) ∧ Hid (acc.length = k) ∧ Hid (OwnF (w.heap.size + 1 + 1) wr r acc) ∧ Hid (wr.heap[w.heap.size]? = some (.cells #[.int .i64 0, .slice none 0 0] 45 (0, 0))) ∧ Hid (wr.heap[w.heap.size + 1]? = some (.cells #[.int .i64 prev.W, .int .i64 prev.H, pv] 27 (0, 0))) ∧ Hid (Ints .i64 b (b + 1) wr pv prev.pix ∧ (prev.pix = [] ∨ w.heap.size + 1 < b)) ∧ Hid (Only [] w wr)) (fun i _ _ => l.length - (intOf i).toNat)
  case atStart => exact ⟨0, frame0, [], .slice none 0 0, 0, by omega, rfl, lh rfl, lh rfl, lh (OwnF.nil _ _), HE1, HP1, lh ⟨Ints.nil _ _ _ _, .inl rfl⟩, HQ1⟩
  case round =>
   obtain ⟨k, prev, acc, pv, b, hk, rfl, Hgo, Hal, HOk, HEk, HRk, HIk, HQk⟩ := hrel
   obtain ⟨ra, rcap, hra⟩ := HOk.out.isSlice
   rw [Hal.out] at hra
   subst hra
   by_cases hlt : k < l.length
   ·have hki : (k : Int) < (l.length : Int) := by omega
    have hk0 : (0 : Int) ≤ (k : Int) := by omega
    obtain ⟨cb, coff, dv, rfl, _, _, hc1, hc2, hik, hd⟩ := Hel.out k hlt
    have Hcl := lh (Hdl.out _ (by rw [List.getD_eq_getElem?_getD, List.getElem?_eq_getElem hlt]; exact List.getElem_mem _ : l.getD k default ∈ l))
    have hgo := Hgo.out
    rw [dropC hlt] at hgo
    generalize l.getD k default = c at *
    have HC1 := lh (fun (wx : World) (o : Only [] wr wx) => (HQk.out.q o).cell hc1 (by simp))
    have HC2 := lh (fun (wx : World) (o : Only [] wr wx) => (HQk.out.q o).cell hc2 (by simp))
    obtain ⟨pa, pcap, rfl, -⟩ := HIk.out.1.open
    obtain ⟨da, dcap, rfl, -⟩ := hd.open
    have HD := lh hd
    have HGo := lh hgo
    have Hlt := lh hlt
    have HFr := lh (fun (wx : World) (o : Only [] wr wx) => kdframe_any (c := c) (prev := prev) (W := W) (H := H) (HD.out.quiet (HQk.out.q o)) (HIk.out.1.quiet o) Hcl.out)
    have HBo := lh (frameD_both (c := c) (prev := prev) (w := W) (h := H) hd.2)
    clear hc1 hc2 hik hd hgo
    have HSS : Hid (∀ wx : World, Only [] wr wx → wx.cell? ⟨cb, coff + k * 2, none⟩ = some (.int .i64 c.kind) ∧ wx.cell? ⟨cb, coff + k * 2 + 1, none⟩ = some (.slice da c.data.length dcap) ∧ wx.heap[w.heap.size + 1]? = some (.cells #[.int .i64 prev.W, .int .i64 prev.H, .slice pa prev.pix.length pcap] 27 (0, 0))) := lh (fun wx o => ⟨HC1.out wx o, HC2.out wx o, o.row HRk.out⟩)
    have hzk := HQk.out.size
    have hz1 := HZ1.out
    have hz2 : w.heap.size + 1 + 1 ≤ wr.heap.size := by have := block_lt_of_cell (frame_cells HRk.out).1; simp only at this; omega
    have HZk := lh hz2
    clear hzk hz1 hz2
    cases hfr : frameD c prev W H with
    | error er =>
     rw [hfr] at HFr
     have hgo := HGo.out
     rw [framesGo_bad hfr] at hgo
     have HGO := lh hgo
     obtain ⟨hpl, hcd⟩ := HBo.out.2 er hfr
     have Hec : Hid (er.code ≠ 0) := lh (by omega)
     have Hep := lh hpl
     clear hpl hcd
     clear hgo hfr HBo
     go_upto_region 8 with (fail)
     obtain ⟨W8, hW8⟩ : ∃ z, z = wr := ⟨_, rfl⟩
     subst hW8
     go_cut [11, 12] (fun sA sE wx => ∃ (bA : Nat) (bE : Nat) (l1 : Nat) (h1 : Nat) (a1 : Option Addr) (cap1 : Nat), sA = .pointer (some ⟨bA, 0, none⟩) ∧ sE = .pointer (some ⟨bE, 0, none⟩) ∧ Hid (Only [] W8 wx) ∧ Hid (wx.heap[bA]? = some (.cells #[.int .i64 0, .int .i64 0, .slice none 0 0] 27 (0, 0))) ∧ Hid (wx.heap[bE]? = some (.cells #[.int .i64 er.code, .slice a1 er.path.length cap1] 45 (0, 0))) ∧ Hid (W8.heap.size ≤ l1 ∧ h1 ≤ wx.heap.size) ∧ Hid (Cells 2 l1 h1 wx (.slice a1 er.path.length cap1) er.path.length (flat er.path)) ∧ Hid (W8.heap.size ≤ bA ∧ (bA < l1 ∨ h1 ≤ bA)) ∧ Hid (W8.heap.size ≤ bE ∧ (bE < l1 ∨ h1 ≤ bE)))
     case first =>
      have o := lh (Only.refl [] W8)
      refine wp_region_held_drew (S := (fun wz => wz.cell? ⟨cb, coff + k * 2, none⟩ = some (.int .i64 c.kind) ∧ wz.cell? ⟨cb, coff + k * 2 + 1, none⟩ = some (.slice da c.data.length dcap) ∧ wz.heap[w.heap.size + 1]? = some (.cells #[.int .i64 prev.W, .int .i64 prev.H, .slice pa prev.pix.length pcap] 27 (0, 0)))) (by kernel_rfl) ?_ (fun hHeld => ?_)
      ·first | exact HSS.out _ (Only.refl _ _) | exact HSS.out _ (Only.refl _ _).drew
      refine tkw 0 25 ⟨rfl, qDRFst0⟩ ?_
      refine tkw 1 26 ⟨rfl, qDRFst0⟩ ?_
      refine tkw 2 27 ⟨rfl, qDRFst0⟩ ?_
      refine tkw 3 28 ⟨rfl, qDRFst0⟩ ?_
      refine tkw 4 29 ⟨rfl, qDRFst0⟩ ?_
      refine tkw 5 30 ⟨rfl, qDRFst0⟩ ?_
      refine tkw 6 31 ⟨rfl, qDRFst0⟩ ?_
      refine rdy (rdc 7 32 (fun K hK => ?_) (rdc 11 11 (fun K hK => ?_) (rdc 12 12 (fun K hK => ?_) .nil)))
      ·go_simp
       go_at_call 20
       refine (HFr.out _ (by first | exact o.out | exact o.out.drew)).mono ?_
       rintro e v' ⟨hq, sv, rfl, hcs⟩
       obtain ⟨_, a1, cap1, hsv, _⟩ := id hcs
       subst hsv
       obtain ⟨l1, hl1⟩ : ∃ z, z = W8.heap.size := ⟨_, rfl⟩
       obtain ⟨h1, hh1⟩ : ∃ z, z = v'.heap.size := ⟨_, rfl⟩
       have hKf : Cells 2 l1 h1 v' (.slice a1 er.path.length cap1) er.path.length (flat er.path) := by rw [hl1, hh1]; exact hcs
       have hKl : W8.heap.size ≤ l1 := by omega
       have hKh : h1 ≤ v'.heap.size := by omega
       clear hcs hl1 hh1
       have q : Only [] W8 v' := by first | exact hq | exact ((Only.refl _ _).drew).q hq
       have hVl : W8.heap.size ≤ W8.heap.size := o.out.size
       have HK := lh hKf
       have HKb : Hid (W8.heap.size ≤ l1 ∧ h1 ≤ v'.heap.size) := lh ⟨by omega, hKh⟩
       replace o := lh (o.out.q q)
       clear hq q hKf hKl hKh hVl
       obtain ⟨v, rfl⟩ : ∃ z, z = v' := ⟨_, rfl⟩
       refine hK.out _ _ ?_ (fun hHeld => ?_)
       ·exact qDRFs4
       clear hK K
       refine tkw 8 24 ⟨rfl, qDRFst0⟩ ?_
       refine tkw 9 33 ⟨rfl, qDRFst0⟩ ?_
       refine tkw 10 34 ⟨rfl, qDRFst0⟩ ?_
       refine rdy (rdc 11 11 (fun K hK => ?_) (rdc 12 12 (fun K hK => ?_) .nil))
       ·go_simp
        generalize hW : World.alloc _ _ = v'
        have q : Only [] v v' := by rw [← hW]; first | exact Only.new _ _ | exact ((Only.refl _ _).drew).q (Only.new _ _)
        have HA : Hid (v'.heap[v.heap.size]? = some (.cells #[.int .i64 0, .int .i64 0, .slice none 0 0] 27 (0, 0))) := lh (by rw [← hW]; exact heap_alloc_new _ _)
        have hz : W8.heap.size ≤ v.heap.size := o.out.size
        have HkA : Hid (W8.heap.size ≤ v.heap.size ∧ (v.heap.size < l1 ∨ h1 ≤ v.heap.size)) := lh ⟨hz, .inr HKb.out.2⟩
        replace HK : Hid (Cells 2 l1 h1 v' (.slice a1 er.path.length cap1) er.path.length (flat er.path)) := lh (HK.out.only q (by simp))
        replace HKb : Hid (W8.heap.size ≤ l1 ∧ h1 ≤ v'.heap.size) := lh ⟨HKb.out.1, Nat.le_trans HKb.out.2 q.size⟩
        replace o := lh (o.out.q q)
        clear hW q
        generalize hb : v.heap.size = bA at HA HkA ⊢
        have HzA : Hid (W8.heap.size ≤ bA) := lh (by rw [← hb]; exact hz)
        clear hb hz
        obtain ⟨v, rfl⟩ : ∃ z, z = v' := ⟨_, rfl⟩
        refine hK.out _ _ ?_ (fun hHeld => ?_)
        ·exact qDRFs4
        clear hK K
        exact qDRFs8
       ·go_simp
        generalize hW : World.alloc _ _ = v'
        have q : Only [] v v' := by rw [← hW]; first | exact Only.new _ _ | exact ((Only.refl _ _).drew).q (Only.new _ _)
        have HE : Hid (v'.heap[v.heap.size]? = some (.cells #[.int .i64 0, .slice none 0 0] 45 (0, 0))) := lh (by rw [← hW]; exact heap_alloc_new _ _)
        have hz : W8.heap.size ≤ v.heap.size := o.out.size
        have HkE : Hid (W8.heap.size ≤ v.heap.size ∧ (v.heap.size < l1 ∨ h1 ≤ v.heap.size)) := lh ⟨hz, .inr HKb.out.2⟩
        replace HK : Hid (Cells 2 l1 h1 v' (.slice a1 er.path.length cap1) er.path.length (flat er.path)) := lh (HK.out.only q (by simp))
        replace HKb : Hid (W8.heap.size ≤ l1 ∧ h1 ≤ v'.heap.size) := lh ⟨HKb.out.1, Nat.le_trans HKb.out.2 q.size⟩
        replace o := lh (o.out.q q)
        clear hW q
        generalize hb : v.heap.size = bE at HE HkE ⊢
        have HzE : Hid (W8.heap.size ≤ bE) := lh (by rw [← hb]; exact hz)
        clear hb hz
        obtain ⟨v, rfl⟩ : ∃ z, z = v' := ⟨_, rfl⟩
        refine hK.out _ _ ?_ (fun hHeld => ?_)
        ·exact qDRFs4
        clear hK K
        exact qDRFs7
      ·go_simp
       generalize hW : World.alloc _ _ = v'
       have q : Only [] W8 v' := by rw [← hW]; first | exact Only.new _ _ | exact ((Only.refl _ _).drew).q (Only.new _ _)
       have HA : Hid (v'.heap[W8.heap.size]? = some (.cells #[.int .i64 0, .int .i64 0, .slice none 0 0] 27 (0, 0))) := lh (by rw [← hW]; exact heap_alloc_new _ _)
       have hz : W8.heap.size ≤ W8.heap.size := o.out.size
       replace o := lh (o.out.q q)
       clear hW q
       generalize hb : W8.heap.size = bA at HA ⊢
       have HzA : Hid (W8.heap.size ≤ bA) := lh (by rw [← hb]; exact hz)
       clear hb hz
       obtain ⟨v, rfl⟩ : ∃ z, z = v' := ⟨_, rfl⟩
       refine hK.out _ _ ?_ (fun hHeld => ?_)
       ·exact qDRFs4
       clear hK K
       refine rdy (rdc 7 32 (fun K hK => ?_) (rdc 12 12 (fun K hK => ?_) .nil))
       ·go_simp
        go_at_call 20
        refine (HFr.out _ (by first | exact o.out | exact o.out.drew)).mono ?_
        rintro e v' ⟨hq, sv, rfl, hcs⟩
        obtain ⟨_, a1, cap1, hsv, _⟩ := id hcs
        subst hsv
        obtain ⟨l1, hl1⟩ : ∃ z, z = v.heap.size := ⟨_, rfl⟩
        obtain ⟨h1, hh1⟩ : ∃ z, z = v'.heap.size := ⟨_, rfl⟩
        have hKf : Cells 2 l1 h1 v' (.slice a1 er.path.length cap1) er.path.length (flat er.path) := by rw [hl1, hh1]; exact hcs
        have hKl : v.heap.size ≤ l1 := by omega
        have hKh : h1 ≤ v'.heap.size := by omega
        clear hcs hl1 hh1
        have q : Only [] v v' := by first | exact hq | exact ((Only.refl _ _).drew).q hq
        have hVl : W8.heap.size ≤ v.heap.size := o.out.size
        have HkA : Hid (W8.heap.size ≤ bA ∧ (bA < l1 ∨ h1 ≤ bA)) := lh (by have := (Array.getElem?_eq_some_iff.1 HA.out).1; have := HzA.out; exact ⟨by omega, .inl (by omega)⟩)
        replace HA := lh (q.row HA.out)
        have HK := lh hKf
        have HKb : Hid (W8.heap.size ≤ l1 ∧ h1 ≤ v'.heap.size) := lh ⟨by omega, hKh⟩
        replace o := lh (o.out.q q)
        clear hq q hKf hKl hKh hVl
        obtain ⟨v, rfl⟩ : ∃ z, z = v' := ⟨_, rfl⟩
        refine hK.out _ _ ?_ (fun hHeld => ?_)
        ·exact qDRFs4
        clear hK K
        refine tkw 8 24 ⟨rfl, qDRFst0⟩ ?_
        refine tkw 9 33 ⟨rfl, qDRFst0⟩ ?_
        refine tkw 10 34 ⟨rfl, qDRFst0⟩ ?_
        exact qDRFs8
       ·go_simp
        generalize hW : World.alloc _ _ = v'
        have q : Only [] v v' := by rw [← hW]; first | exact Only.new _ _ | exact ((Only.refl _ _).drew).q (Only.new _ _)
        have HE : Hid (v'.heap[v.heap.size]? = some (.cells #[.int .i64 0, .slice none 0 0] 45 (0, 0))) := lh (by rw [← hW]; exact heap_alloc_new _ _)
        have hz : W8.heap.size ≤ v.heap.size := o.out.size
        have HnAE : Hid (bA ≠ v.heap.size) := lh (by have := (Array.getElem?_eq_some_iff.1 HA.out).1; omega)
        replace HA := lh (q.row HA.out)
        replace o := lh (o.out.q q)
        clear hW q
        generalize hb : v.heap.size = bE at HE HnAE ⊢
        have HzE : Hid (W8.heap.size ≤ bE) := lh (by rw [← hb]; exact hz)
        clear hb hz
        obtain ⟨v, rfl⟩ : ∃ z, z = v' := ⟨_, rfl⟩
        refine hK.out _ _ ?_ (fun hHeld => ?_)
        ·exact qDRFs4
        clear hK K
        refine rdy (rdc 7 32 (fun K hK => ?_) .nil)
        go_simp
        go_at_call 20
        refine (HFr.out _ (by first | exact o.out | exact o.out.drew)).mono ?_
        rintro e v' ⟨hq, sv, rfl, hcs⟩
        obtain ⟨_, a1, cap1, hsv, _⟩ := id hcs
        subst hsv
        obtain ⟨l1, hl1⟩ : ∃ z, z = v.heap.size := ⟨_, rfl⟩
        obtain ⟨h1, hh1⟩ : ∃ z, z = v'.heap.size := ⟨_, rfl⟩
        have hKf : Cells 2 l1 h1 v' (.slice a1 er.path.length cap1) er.path.length (flat er.path) := by rw [hl1, hh1]; exact hcs
        have hKl : v.heap.size ≤ l1 := by omega
        have hKh : h1 ≤ v'.heap.size := by omega
        clear hcs hl1 hh1
        have q : Only [] v v' := by first | exact hq | exact ((Only.refl _ _).drew).q hq
        have hVl : W8.heap.size ≤ v.heap.size := o.out.size
        have HkA : Hid (W8.heap.size ≤ bA ∧ (bA < l1 ∨ h1 ≤ bA)) := lh (by have := (Array.getElem?_eq_some_iff.1 HA.out).1; have := HzA.out; exact ⟨by omega, .inl (by omega)⟩)
        have HkE : Hid (W8.heap.size ≤ bE ∧ (bE < l1 ∨ h1 ≤ bE)) := lh (by have := (Array.getElem?_eq_some_iff.1 HE.out).1; have := HzE.out; exact ⟨by omega, .inl (by omega)⟩)
        replace HA := lh (q.row HA.out)
        replace HE := lh (q.row HE.out)
        have HK := lh hKf
        have HKb : Hid (W8.heap.size ≤ l1 ∧ h1 ≤ v'.heap.size) := lh ⟨by omega, hKh⟩
        replace o := lh (o.out.q q)
        clear hq q hKf hKl hKh hVl
        obtain ⟨v, rfl⟩ : ∃ z, z = v' := ⟨_, rfl⟩
        refine hK.out _ _ ?_ (fun hHeld => ?_)
        ·exact qDRFs4
        clear hK K
        refine tkw 8 24 ⟨rfl, qDRFst0⟩ ?_
        refine tkw 9 33 ⟨rfl, qDRFst0⟩ ?_
        refine tkw 10 34 ⟨rfl, qDRFst0⟩ ?_
        exact qDRFs2
      ·go_simp
       generalize hW : World.alloc _ _ = v'
       have q : Only [] W8 v' := by rw [← hW]; first | exact Only.new _ _ | exact ((Only.refl _ _).drew).q (Only.new _ _)
       have HE : Hid (v'.heap[W8.heap.size]? = some (.cells #[.int .i64 0, .slice none 0 0] 45 (0, 0))) := lh (by rw [← hW]; exact heap_alloc_new _ _)
       have hz : W8.heap.size ≤ W8.heap.size := o.out.size
       replace o := lh (o.out.q q)
       clear hW q
       generalize hb : W8.heap.size = bE at HE ⊢
       have HzE : Hid (W8.heap.size ≤ bE) := lh (by rw [← hb]; exact hz)
       clear hb hz
       obtain ⟨v, rfl⟩ : ∃ z, z = v' := ⟨_, rfl⟩
       refine hK.out _ _ ?_ (fun hHeld => ?_)
       ·exact qDRFs4
       clear hK K
       refine rdy (rdc 7 32 (fun K hK => ?_) (rdc 11 11 (fun K hK => ?_) .nil))
       ·go_simp
        go_at_call 20
        refine (HFr.out _ (by first | exact o.out | exact o.out.drew)).mono ?_
        rintro e v' ⟨hq, sv, rfl, hcs⟩
        obtain ⟨_, a1, cap1, hsv, _⟩ := id hcs
        subst hsv
        obtain ⟨l1, hl1⟩ : ∃ z, z = v.heap.size := ⟨_, rfl⟩
        obtain ⟨h1, hh1⟩ : ∃ z, z = v'.heap.size := ⟨_, rfl⟩
        have hKf : Cells 2 l1 h1 v' (.slice a1 er.path.length cap1) er.path.length (flat er.path) := by rw [hl1, hh1]; exact hcs
        have hKl : v.heap.size ≤ l1 := by omega
        have hKh : h1 ≤ v'.heap.size := by omega
        clear hcs hl1 hh1
        have q : Only [] v v' := by first | exact hq | exact ((Only.refl _ _).drew).q hq
        have hVl : W8.heap.size ≤ v.heap.size := o.out.size
        have HkE : Hid (W8.heap.size ≤ bE ∧ (bE < l1 ∨ h1 ≤ bE)) := lh (by have := (Array.getElem?_eq_some_iff.1 HE.out).1; have := HzE.out; exact ⟨by omega, .inl (by omega)⟩)
        replace HE := lh (q.row HE.out)
        have HK := lh hKf
        have HKb : Hid (W8.heap.size ≤ l1 ∧ h1 ≤ v'.heap.size) := lh ⟨by omega, hKh⟩
        replace o := lh (o.out.q q)
        clear hq q hKf hKl hKh hVl
        obtain ⟨v, rfl⟩ : ∃ z, z = v' := ⟨_, rfl⟩
        refine hK.out _ _ ?_ (fun hHeld => ?_)
        ·exact qDRFs4
        clear hK K
        refine tkw 8 24 ⟨rfl, qDRFst0⟩ ?_
        refine tkw 9 33 ⟨rfl, qDRFst0⟩ ?_
        refine tkw 10 34 ⟨rfl, qDRFst0⟩ ?_
        exact qDRFs7
       ·go_simp
        generalize hW : World.alloc _ _ = v'
        have q : Only [] v v' := by rw [← hW]; first | exact Only.new _ _ | exact ((Only.refl _ _).drew).q (Only.new _ _)
        have HA : Hid (v'.heap[v.heap.size]? = some (.cells #[.int .i64 0, .int .i64 0, .slice none 0 0] 27 (0, 0))) := lh (by rw [← hW]; exact heap_alloc_new _ _)
        have hz : W8.heap.size ≤ v.heap.size := o.out.size
        have HnEA : Hid (bE ≠ v.heap.size) := lh (by have := (Array.getElem?_eq_some_iff.1 HE.out).1; omega)
        replace HE := lh (q.row HE.out)
        replace o := lh (o.out.q q)
        clear hW q
        generalize hb : v.heap.size = bA at HA HnEA ⊢
        have HzA : Hid (W8.heap.size ≤ bA) := lh (by rw [← hb]; exact hz)
        clear hb hz
        obtain ⟨v, rfl⟩ : ∃ z, z = v' := ⟨_, rfl⟩
        refine hK.out _ _ ?_ (fun hHeld => ?_)
        ·exact qDRFs4
        clear hK K
        refine rdy (rdc 7 32 (fun K hK => ?_) .nil)
        go_simp
        go_at_call 20
        refine (HFr.out _ (by first | exact o.out | exact o.out.drew)).mono ?_
        rintro e v' ⟨hq, sv, rfl, hcs⟩
        obtain ⟨_, a1, cap1, hsv, _⟩ := id hcs
        subst hsv
        obtain ⟨l1, hl1⟩ : ∃ z, z = v.heap.size := ⟨_, rfl⟩
        obtain ⟨h1, hh1⟩ : ∃ z, z = v'.heap.size := ⟨_, rfl⟩
        have hKf : Cells 2 l1 h1 v' (.slice a1 er.path.length cap1) er.path.length (flat er.path) := by rw [hl1, hh1]; exact hcs
        have hKl : v.heap.size ≤ l1 := by omega
        have hKh : h1 ≤ v'.heap.size := by omega
        clear hcs hl1 hh1
        have q : Only [] v v' := by first | exact hq | exact ((Only.refl _ _).drew).q hq
        have hVl : W8.heap.size ≤ v.heap.size := o.out.size
        have HkA : Hid (W8.heap.size ≤ bA ∧ (bA < l1 ∨ h1 ≤ bA)) := lh (by have := (Array.getElem?_eq_some_iff.1 HA.out).1; have := HzA.out; exact ⟨by omega, .inl (by omega)⟩)
        have HkE : Hid (W8.heap.size ≤ bE ∧ (bE < l1 ∨ h1 ≤ bE)) := lh (by have := (Array.getElem?_eq_some_iff.1 HE.out).1; have := HzE.out; exact ⟨by omega, .inl (by omega)⟩)
        replace HA := lh (q.row HA.out)
        replace HE := lh (q.row HE.out)
        have HK := lh hKf
        have HKb : Hid (W8.heap.size ≤ l1 ∧ h1 ≤ v'.heap.size) := lh ⟨by omega, hKh⟩
        replace o := lh (o.out.q q)
        clear hq q hKf hKl hKh hVl
        obtain ⟨v, rfl⟩ : ∃ z, z = v' := ⟨_, rfl⟩
        refine hK.out _ _ ?_ (fun hHeld => ?_)
        ·exact qDRFs4
        clear hK K
        refine tkw 8 24 ⟨rfl, qDRFst0⟩ ?_
        refine tkw 9 33 ⟨rfl, qDRFst0⟩ ?_
        refine tkw 10 34 ⟨rfl, qDRFst0⟩ ?_
        exact qDRFs3
     case rest =>
      obtain ⟨bA, bE, l1, h1, a1, cap1, rfl, rfl, HOn, HAr, HEr, HKb, HKr, HkA, HkE⟩ := hcut
      have HE9 := lh (HOn.out.row HEk.out)
      have HR9 := lh (HOn.out.row HRk.out)
      have HQ9 := lh (HQk.out.q HOn.out)
      have HO9 := lh (HOk.out.quiet HOn.out)
      obtain ⟨e0, e1, -⟩ := row2 HEr.out
      have hcb : (er.code == 0) = false := by rw [beq_eq_false_iff_ne]; exact Hec.out
      go_wp2_with fail
      go_at_call 43
      refine (kok_any _ _ _).mono ?_
      rintro e w10 ⟨rfl, hq10⟩
      rw [hcb]
      have HE10 := lh (hq10.row HE9.out)
      have HR10 := lh (hq10.row HR9.out)
      have HQ10 := lh (HQ9.out.q hq10)
      have HO10 := lh (HO9.out.quiet hq10)
      have HA10 := lh (hq10.row HAr.out)
      have HX10 := lh (hq10.row HEr.out)
      have HK10 := lh (HKr.out.only hq10 (by simp))
      have Hz10 := lh hq10.size
      have HOz := lh HOn.out.size
      clear hq10 e0 e1 hcb
      obtain ⟨e0, e1, -⟩ := row2 HX10.out
      have HIn := lh (kin_any sFrames k er.code HK10.out Hec.out (by have := Hep.out; omega))
      go_wp2_with fail
      go_at_call 44
      refine HIn.out.mono ?_
      rintro e w11 ⟨kv, rfl, ⟨sv11, rfl, hcs11⟩, hq11⟩
      obtain ⟨_, a2, cap2, hsv, _⟩ := id hcs11
      subst hsv
      have HE11 := lh (hq11.row HE10.out)
      have HQ11 := lh (HQ10.out.q hq11)
      have Hcs := lh hcs11
      clear hcs11 hq11 e0 e1
      obtain ⟨z0, z1, y0, y1, -⟩ := row2 HE11.out
      go_wp2_with fail
      obtain ⟨hrow, hon⟩ := row2_set (x := .int .i64 er.code) (y := .slice a2 (er.path.length + 1) cap2) HE11.out
      have hall : Only [] w _ := HQ11.out.trans hon (U := []) (by simp) (fun g hg hl => by rw [mSg] at hg; omega)
      refine bodyPost_ret (results_tmp_cell Tryz.results16 _ _ w.heap.size _ _ _ _ (.slice none 0 0) rfl rfl hrow Tryz.underlying45 rfl (err_info _ rfl)) rfl (HPost.out _ _ ?_)
      rw [← HGO.out]
      exact ⟨hall, _, rfl, (Hcs.out.only hon (fun x hx => by rw [mSg] at hx; left; have := HZk.out; have := HOz.out; have := Hz10.out; omega)).mono (by have := HZk.out; have := HOz.out; have := Hz10.out; omega) hon.size⟩
    | ok f =>
     rw [hfr] at HFr
     have hgo := HGo.out
     rw [framesGo_more hfr] at hgo
     have HGO := lh hgo
     obtain ⟨hok, hfw, hfh⟩ := HBo.out.1 f hfr
     have Hok := lh hok
     clear hok hfw hfh
     clear hgo hfr HBo
     go_upto_region 8 with (fail)
     obtain ⟨W8, hW8⟩ : ∃ z, z = wr := ⟨_, rfl⟩
     subst hW8
     go_cut [11, 12] (fun sA sE wx => ∃ (bA : Nat) (bE : Nat) (kb : Nat) (kcap : Nat), sA = .pointer (some ⟨bA, 0, none⟩) ∧ sE = .pointer (some ⟨bE, 0, none⟩) ∧ Hid (Only [] W8 wx) ∧ Hid (wx.heap[bA]? = some (.cells #[.int .i64 f.W, .int .i64 f.H, .slice (some ⟨kb, 0, none⟩) f.pix.length kcap] 27 (0, 0))) ∧ Hid (wx.heap[bE]? = some (.cells #[.int .i64 0, .slice none 0 0] 45 (0, 0))) ∧ Hid (W8.heap.size ≤ kb ∧ (kb + 1) ≤ wx.heap.size) ∧ Hid (Ints .i64 kb (kb + 1) wx (.slice (some ⟨kb, 0, none⟩) f.pix.length kcap) f.pix) ∧ Hid (W8.heap.size ≤ bA ∧ (bA < kb ∨ (kb + 1) ≤ bA)) ∧ Hid (W8.heap.size ≤ bE ∧ (bE < kb ∨ (kb + 1) ≤ bE)))
     case first =>
      have o := lh (Only.refl [] W8)
      refine wp_region_held_drew (S := (fun wz => wz.cell? ⟨cb, coff + k * 2, none⟩ = some (.int .i64 c.kind) ∧ wz.cell? ⟨cb, coff + k * 2 + 1, none⟩ = some (.slice da c.data.length dcap) ∧ wz.heap[w.heap.size + 1]? = some (.cells #[.int .i64 prev.W, .int .i64 prev.H, .slice pa prev.pix.length pcap] 27 (0, 0)))) (by kernel_rfl) ?_ (fun hHeld => ?_)
      ·first | exact HSS.out _ (Only.refl _ _) | exact HSS.out _ (Only.refl _ _).drew
      refine tkw 0 25 ⟨rfl, qDRFst0⟩ ?_
      refine tkw 1 26 ⟨rfl, qDRFst0⟩ ?_
      refine tkw 2 27 ⟨rfl, qDRFst0⟩ ?_
      refine tkw 3 28 ⟨rfl, qDRFst0⟩ ?_
      refine tkw 4 29 ⟨rfl, qDRFst0⟩ ?_
      refine tkw 5 30 ⟨rfl, qDRFst0⟩ ?_
      refine tkw 6 31 ⟨rfl, qDRFst0⟩ ?_
      refine rdy (rdc 7 32 (fun K hK => ?_) (rdc 11 11 (fun K hK => ?_) (rdc 12 12 (fun K hK => ?_) .nil)))
      ·go_simp
       go_at_call 20
       refine (HFr.out _ (by first | exact o.out | exact o.out.drew)).mono ?_
       rintro e v' ⟨hq, kb, kcap, rfl, hown⟩
       have hKf : Ints .i64 kb (kb + 1) v' (.slice (some ⟨kb, 0, none⟩) f.pix.length kcap) f.pix := ints_nar hown.ints
       have hKl : W8.heap.size ≤ kb := (hown.at kb rfl).1
       have hKh : kb + 1 ≤ v'.heap.size := (hown.at kb rfl).2
       clear hown
       have q : Only [] W8 v' := by first | exact hq | exact ((Only.refl _ _).drew).q hq
       have hVl : W8.heap.size ≤ W8.heap.size := o.out.size
       have HK := lh hKf
       have HKb : Hid (W8.heap.size ≤ kb ∧ (kb + 1) ≤ v'.heap.size) := lh ⟨by omega, hKh⟩
       replace o := lh (o.out.q q)
       clear hq q hKf hKl hKh hVl
       obtain ⟨v, rfl⟩ : ∃ z, z = v' := ⟨_, rfl⟩
       refine hK.out _ _ ?_ (fun hHeld => ?_)
       ·exact qDRFs4
       clear hK K
       refine tkw 8 24 ⟨rfl, qDRFst0⟩ ?_
       refine tkw 9 33 ⟨rfl, qDRFst0⟩ ?_
       refine tkw 10 34 ⟨rfl, qDRFst0⟩ ?_
       refine rdy (rdc 11 11 (fun K hK => ?_) (rdc 12 12 (fun K hK => ?_) .nil))
       ·go_simp
        generalize hW : World.alloc _ _ = v'
        have q : Only [] v v' := by rw [← hW]; first | exact Only.new _ _ | exact ((Only.refl _ _).drew).q (Only.new _ _)
        have HA : Hid (v'.heap[v.heap.size]? = some (.cells #[.int .i64 0, .int .i64 0, .slice none 0 0] 27 (0, 0))) := lh (by rw [← hW]; exact heap_alloc_new _ _)
        have hz : W8.heap.size ≤ v.heap.size := o.out.size
        have HkA : Hid (W8.heap.size ≤ v.heap.size ∧ (v.heap.size < kb ∨ (kb + 1) ≤ v.heap.size)) := lh ⟨hz, .inr HKb.out.2⟩
        replace HK : Hid (Ints .i64 kb (kb + 1) v' (.slice (some ⟨kb, 0, none⟩) f.pix.length kcap) f.pix) := lh (HK.out.only q (by simp))
        replace HKb : Hid (W8.heap.size ≤ kb ∧ (kb + 1) ≤ v'.heap.size) := lh ⟨HKb.out.1, Nat.le_trans HKb.out.2 q.size⟩
        replace o := lh (o.out.q q)
        clear hW q
        generalize hb : v.heap.size = bA at HA HkA ⊢
        have HzA : Hid (W8.heap.size ≤ bA) := lh (by rw [← hb]; exact hz)
        clear hb hz
        obtain ⟨v, rfl⟩ : ∃ z, z = v' := ⟨_, rfl⟩
        refine hK.out _ _ ?_ (fun hHeld => ?_)
        ·exact qDRFs4
        clear hK K
        exact qDRFs6
       ·go_simp
        generalize hW : World.alloc _ _ = v'
        have q : Only [] v v' := by rw [← hW]; first | exact Only.new _ _ | exact ((Only.refl _ _).drew).q (Only.new _ _)
        have HE : Hid (v'.heap[v.heap.size]? = some (.cells #[.int .i64 0, .slice none 0 0] 45 (0, 0))) := lh (by rw [← hW]; exact heap_alloc_new _ _)
        have hz : W8.heap.size ≤ v.heap.size := o.out.size
        have HkE : Hid (W8.heap.size ≤ v.heap.size ∧ (v.heap.size < kb ∨ (kb + 1) ≤ v.heap.size)) := lh ⟨hz, .inr HKb.out.2⟩
        replace HK : Hid (Ints .i64 kb (kb + 1) v' (.slice (some ⟨kb, 0, none⟩) f.pix.length kcap) f.pix) := lh (HK.out.only q (by simp))
        replace HKb : Hid (W8.heap.size ≤ kb ∧ (kb + 1) ≤ v'.heap.size) := lh ⟨HKb.out.1, Nat.le_trans HKb.out.2 q.size⟩
        replace o := lh (o.out.q q)
        clear hW q
        generalize hb : v.heap.size = bE at HE HkE ⊢
        have HzE : Hid (W8.heap.size ≤ bE) := lh (by rw [← hb]; exact hz)
        clear hb hz
        obtain ⟨v, rfl⟩ : ∃ z, z = v' := ⟨_, rfl⟩
        refine hK.out _ _ ?_ (fun hHeld => ?_)
        ·exact qDRFs4
        clear hK K
        exact qDRFs5
      ·go_simp
       generalize hW : World.alloc _ _ = v'
       have q : Only [] W8 v' := by rw [← hW]; first | exact Only.new _ _ | exact ((Only.refl _ _).drew).q (Only.new _ _)
       have HA : Hid (v'.heap[W8.heap.size]? = some (.cells #[.int .i64 0, .int .i64 0, .slice none 0 0] 27 (0, 0))) := lh (by rw [← hW]; exact heap_alloc_new _ _)
       have hz : W8.heap.size ≤ W8.heap.size := o.out.size
       replace o := lh (o.out.q q)
       clear hW q
       generalize hb : W8.heap.size = bA at HA ⊢
       have HzA : Hid (W8.heap.size ≤ bA) := lh (by rw [← hb]; exact hz)
       clear hb hz
       obtain ⟨v, rfl⟩ : ∃ z, z = v' := ⟨_, rfl⟩
       refine hK.out _ _ ?_ (fun hHeld => ?_)
       ·exact qDRFs4
       clear hK K
       refine rdy (rdc 7 32 (fun K hK => ?_) (rdc 12 12 (fun K hK => ?_) .nil))
       ·go_simp
        go_at_call 20
        refine (HFr.out _ (by first | exact o.out | exact o.out.drew)).mono ?_
        rintro e v' ⟨hq, kb, kcap, rfl, hown⟩
        have hKf : Ints .i64 kb (kb + 1) v' (.slice (some ⟨kb, 0, none⟩) f.pix.length kcap) f.pix := ints_nar hown.ints
        have hKl : v.heap.size ≤ kb := (hown.at kb rfl).1
        have hKh : kb + 1 ≤ v'.heap.size := (hown.at kb rfl).2
        clear hown
        have q : Only [] v v' := by first | exact hq | exact ((Only.refl _ _).drew).q hq
        have hVl : W8.heap.size ≤ v.heap.size := o.out.size
        have HkA : Hid (W8.heap.size ≤ bA ∧ (bA < kb ∨ (kb + 1) ≤ bA)) := lh (by have := (Array.getElem?_eq_some_iff.1 HA.out).1; have := HzA.out; exact ⟨by omega, .inl (by omega)⟩)
        replace HA := lh (q.row HA.out)
        have HK := lh hKf
        have HKb : Hid (W8.heap.size ≤ kb ∧ (kb + 1) ≤ v'.heap.size) := lh ⟨by omega, hKh⟩
        replace o := lh (o.out.q q)
        clear hq q hKf hKl hKh hVl
        obtain ⟨v, rfl⟩ : ∃ z, z = v' := ⟨_, rfl⟩
        refine hK.out _ _ ?_ (fun hHeld => ?_)
        ·exact qDRFs4
        clear hK K
        refine tkw 8 24 ⟨rfl, qDRFst0⟩ ?_
        refine tkw 9 33 ⟨rfl, qDRFst0⟩ ?_
        refine tkw 10 34 ⟨rfl, qDRFst0⟩ ?_
        exact qDRFs6
       ·go_simp
        generalize hW : World.alloc _ _ = v'
        have q : Only [] v v' := by rw [← hW]; first | exact Only.new _ _ | exact ((Only.refl _ _).drew).q (Only.new _ _)
        have HE : Hid (v'.heap[v.heap.size]? = some (.cells #[.int .i64 0, .slice none 0 0] 45 (0, 0))) := lh (by rw [← hW]; exact heap_alloc_new _ _)
        have hz : W8.heap.size ≤ v.heap.size := o.out.size
        have HnAE : Hid (bA ≠ v.heap.size) := lh (by have := (Array.getElem?_eq_some_iff.1 HA.out).1; omega)
        replace HA := lh (q.row HA.out)
        replace o := lh (o.out.q q)
        clear hW q
        generalize hb : v.heap.size = bE at HE HnAE ⊢
        have HzE : Hid (W8.heap.size ≤ bE) := lh (by rw [← hb]; exact hz)
        clear hb hz
        obtain ⟨v, rfl⟩ : ∃ z, z = v' := ⟨_, rfl⟩
        refine hK.out _ _ ?_ (fun hHeld => ?_)
        ·exact qDRFs4
        clear hK K
        refine rdy (rdc 7 32 (fun K hK => ?_) .nil)
        go_simp
        go_at_call 20
        refine (HFr.out _ (by first | exact o.out | exact o.out.drew)).mono ?_
        rintro e v' ⟨hq, kb, kcap, rfl, hown⟩
        have hKf : Ints .i64 kb (kb + 1) v' (.slice (some ⟨kb, 0, none⟩) f.pix.length kcap) f.pix := ints_nar hown.ints
        have hKl : v.heap.size ≤ kb := (hown.at kb rfl).1
        have hKh : kb + 1 ≤ v'.heap.size := (hown.at kb rfl).2
        clear hown
        have q : Only [] v v' := by first | exact hq | exact ((Only.refl _ _).drew).q hq
        have hVl : W8.heap.size ≤ v.heap.size := o.out.size
        have HkA : Hid (W8.heap.size ≤ bA ∧ (bA < kb ∨ (kb + 1) ≤ bA)) := lh (by have := (Array.getElem?_eq_some_iff.1 HA.out).1; have := HzA.out; exact ⟨by omega, .inl (by omega)⟩)
        have HkE : Hid (W8.heap.size ≤ bE ∧ (bE < kb ∨ (kb + 1) ≤ bE)) := lh (by have := (Array.getElem?_eq_some_iff.1 HE.out).1; have := HzE.out; exact ⟨by omega, .inl (by omega)⟩)
        replace HA := lh (q.row HA.out)
        replace HE := lh (q.row HE.out)
        have HK := lh hKf
        have HKb : Hid (W8.heap.size ≤ kb ∧ (kb + 1) ≤ v'.heap.size) := lh ⟨by omega, hKh⟩
        replace o := lh (o.out.q q)
        clear hq q hKf hKl hKh hVl
        obtain ⟨v, rfl⟩ : ∃ z, z = v' := ⟨_, rfl⟩
        refine hK.out _ _ ?_ (fun hHeld => ?_)
        ·exact qDRFs4
        clear hK K
        refine tkw 8 24 ⟨rfl, qDRFst0⟩ ?_
        refine tkw 9 33 ⟨rfl, qDRFst0⟩ ?_
        refine tkw 10 34 ⟨rfl, qDRFst0⟩ ?_
        exact qDRFs0
      ·go_simp
       generalize hW : World.alloc _ _ = v'
       have q : Only [] W8 v' := by rw [← hW]; first | exact Only.new _ _ | exact ((Only.refl _ _).drew).q (Only.new _ _)
       have HE : Hid (v'.heap[W8.heap.size]? = some (.cells #[.int .i64 0, .slice none 0 0] 45 (0, 0))) := lh (by rw [← hW]; exact heap_alloc_new _ _)
       have hz : W8.heap.size ≤ W8.heap.size := o.out.size
       replace o := lh (o.out.q q)
       clear hW q
       generalize hb : W8.heap.size = bE at HE ⊢
       have HzE : Hid (W8.heap.size ≤ bE) := lh (by rw [← hb]; exact hz)
       clear hb hz
       obtain ⟨v, rfl⟩ : ∃ z, z = v' := ⟨_, rfl⟩
       refine hK.out _ _ ?_ (fun hHeld => ?_)
       ·exact qDRFs4
       clear hK K
       refine rdy (rdc 7 32 (fun K hK => ?_) (rdc 11 11 (fun K hK => ?_) .nil))
       ·go_simp
        go_at_call 20
        refine (HFr.out _ (by first | exact o.out | exact o.out.drew)).mono ?_
        rintro e v' ⟨hq, kb, kcap, rfl, hown⟩
        have hKf : Ints .i64 kb (kb + 1) v' (.slice (some ⟨kb, 0, none⟩) f.pix.length kcap) f.pix := ints_nar hown.ints
        have hKl : v.heap.size ≤ kb := (hown.at kb rfl).1
        have hKh : kb + 1 ≤ v'.heap.size := (hown.at kb rfl).2
        clear hown
        have q : Only [] v v' := by first | exact hq | exact ((Only.refl _ _).drew).q hq
        have hVl : W8.heap.size ≤ v.heap.size := o.out.size
        have HkE : Hid (W8.heap.size ≤ bE ∧ (bE < kb ∨ (kb + 1) ≤ bE)) := lh (by have := (Array.getElem?_eq_some_iff.1 HE.out).1; have := HzE.out; exact ⟨by omega, .inl (by omega)⟩)
        replace HE := lh (q.row HE.out)
        have HK := lh hKf
        have HKb : Hid (W8.heap.size ≤ kb ∧ (kb + 1) ≤ v'.heap.size) := lh ⟨by omega, hKh⟩
        replace o := lh (o.out.q q)
        clear hq q hKf hKl hKh hVl
        obtain ⟨v, rfl⟩ : ∃ z, z = v' := ⟨_, rfl⟩
        refine hK.out _ _ ?_ (fun hHeld => ?_)
        ·exact qDRFs4
        clear hK K
        refine tkw 8 24 ⟨rfl, qDRFst0⟩ ?_
        refine tkw 9 33 ⟨rfl, qDRFst0⟩ ?_
        refine tkw 10 34 ⟨rfl, qDRFst0⟩ ?_
        exact qDRFs5
       ·go_simp
        generalize hW : World.alloc _ _ = v'
        have q : Only [] v v' := by rw [← hW]; first | exact Only.new _ _ | exact ((Only.refl _ _).drew).q (Only.new _ _)
        have HA : Hid (v'.heap[v.heap.size]? = some (.cells #[.int .i64 0, .int .i64 0, .slice none 0 0] 27 (0, 0))) := lh (by rw [← hW]; exact heap_alloc_new _ _)
        have hz : W8.heap.size ≤ v.heap.size := o.out.size
        have HnEA : Hid (bE ≠ v.heap.size) := lh (by have := (Array.getElem?_eq_some_iff.1 HE.out).1; omega)
        replace HE := lh (q.row HE.out)
        replace o := lh (o.out.q q)
        clear hW q
        generalize hb : v.heap.size = bA at HA HnEA ⊢
        have HzA : Hid (W8.heap.size ≤ bA) := lh (by rw [← hb]; exact hz)
        clear hb hz
        obtain ⟨v, rfl⟩ : ∃ z, z = v' := ⟨_, rfl⟩
        refine hK.out _ _ ?_ (fun hHeld => ?_)
        ·exact qDRFs4
        clear hK K
        refine rdy (rdc 7 32 (fun K hK => ?_) .nil)
        go_simp
        go_at_call 20
        refine (HFr.out _ (by first | exact o.out | exact o.out.drew)).mono ?_
        rintro e v' ⟨hq, kb, kcap, rfl, hown⟩
        have hKf : Ints .i64 kb (kb + 1) v' (.slice (some ⟨kb, 0, none⟩) f.pix.length kcap) f.pix := ints_nar hown.ints
        have hKl : v.heap.size ≤ kb := (hown.at kb rfl).1
        have hKh : kb + 1 ≤ v'.heap.size := (hown.at kb rfl).2
        clear hown
        have q : Only [] v v' := by first | exact hq | exact ((Only.refl _ _).drew).q hq
        have hVl : W8.heap.size ≤ v.heap.size := o.out.size
        have HkA : Hid (W8.heap.size ≤ bA ∧ (bA < kb ∨ (kb + 1) ≤ bA)) := lh (by have := (Array.getElem?_eq_some_iff.1 HA.out).1; have := HzA.out; exact ⟨by omega, .inl (by omega)⟩)
        have HkE : Hid (W8.heap.size ≤ bE ∧ (bE < kb ∨ (kb + 1) ≤ bE)) := lh (by have := (Array.getElem?_eq_some_iff.1 HE.out).1; have := HzE.out; exact ⟨by omega, .inl (by omega)⟩)
        replace HA := lh (q.row HA.out)
        replace HE := lh (q.row HE.out)
        have HK := lh hKf
        have HKb : Hid (W8.heap.size ≤ kb ∧ (kb + 1) ≤ v'.heap.size) := lh ⟨by omega, hKh⟩
        replace o := lh (o.out.q q)
        clear hq q hKf hKl hKh hVl
        obtain ⟨v, rfl⟩ : ∃ z, z = v' := ⟨_, rfl⟩
        refine hK.out _ _ ?_ (fun hHeld => ?_)
        ·exact qDRFs4
        clear hK K
        refine tkw 8 24 ⟨rfl, qDRFst0⟩ ?_
        refine tkw 9 33 ⟨rfl, qDRFst0⟩ ?_
        refine tkw 10 34 ⟨rfl, qDRFst0⟩ ?_
        exact qDRFs1
     case rest =>
      obtain ⟨bA, bE, kb, kcap, rfl, rfl, HOn, HAr, HEr, HKb, HKr, HkA, HkE⟩ := hcut
      have HE9 := lh (HOn.out.row HEk.out)
      have HR9 := lh (HOn.out.row HRk.out)
      have HQ9 := lh (HQk.out.q HOn.out)
      have HO9 := lh (HOk.out.quiet HOn.out)
      obtain ⟨e0, e1, -⟩ := row2 HEr.out
      go_wp2_with fail
      go_at_call 43
      refine (kok_any _ _ _).mono ?_
      rintro e w10 ⟨rfl, hq10⟩
      have HE10 := lh (hq10.row HE9.out)
      have HR10 := lh (hq10.row HR9.out)
      have HQ10 := lh (HQ9.out.q hq10)
      have HO10 := lh (HO9.out.quiet hq10)
      have HA10 := lh (hq10.row HAr.out)
      have HX10 := lh (hq10.row HEr.out)
      have HK10 := lh (HKr.out.only hq10 (by simp))
      have Hz10 := lh hq10.size
      have HOz := lh HOn.out.size
      clear hq10 e0 e1
      obtain ⟨t0, t1, t2⟩ := frame_cells HA10.out
      obtain ⟨q0, q1, q2⟩ := frame_cells ((Only.new w10 (.cells #[.int .i64 f.W, .int .i64 f.H, .slice (some ⟨kb, 0, none⟩) f.pix.length kcap] 27)).row HA10.out)
      have hn := Only.new w10 (.cells #[.int .i64 f.W, .int .i64 f.H, .slice (some ⟨kb, 0, none⟩) f.pix.length kcap] 27)
      have HCs : Hid (Cells 3 w10.heap.size (w10.heap.size + 1) (w10.alloc (.cells #[.int .i64 f.W, .int .i64 f.H, .slice (some ⟨kb, 0, none⟩) f.pix.length kcap] 27)) (.slice (some ⟨w10.heap.size, 0, none⟩) 1 1) 1 [.int .i64 f.W, .int .i64 f.H, .slice (some ⟨kb, 0, none⟩) f.pix.length kcap]) := lh (cells_newG rfl rfl (by simp [maxLen]) (by simp))
      have HOa := lh (HO10.out.quiet hn)
      have HGa := lh (HK10.out.quiet hn)
      have HAa := lh (hn.row HA10.out)
      have HRa := lh (hn.row HR10.out)
      have HEa := lh (hn.row HE10.out)
      have HQa := lh (HQ10.out.q hn)
      have hnG : ∀ x, (Value.slice ra k rcap).ownBlock = some x → x < W8.heap.size ∧ w.heap.size + 1 + 1 ≤ x := fun x hx => ⟨(HOk.out.at x hx).2, (HOk.out.at x hx).1⟩
      have HnG := lh hnG
      have Hba : Hid (w.heap.size + 1 + 1 ≤ (w10.alloc (.cells #[.int .i64 f.W, .int .i64 f.H, .slice (some ⟨kb, 0, none⟩) f.pix.length kcap] 27)).heap.size) := lh (by have := HZk.out; have := HOz.out; have := Hz10.out; have := hn.size; omega)
      have Hbk : Hid (w.heap.size + 1 + 1 ≤ kb ∧ kb < (w10.alloc (.cells #[.int .i64 f.W, .int .i64 f.H, .slice (some ⟨kb, 0, none⟩) f.pix.length kcap] 27)).heap.size ∧ (Value.slice ra k rcap).ownBlock ≠ some kb) := lh ⟨by have := HZk.out; have := HKb.out.1; omega, by have := HKb.out.2; have := Hz10.out; have := hn.size; omega, fun e => by have := (hnG kb e).1; have := HKb.out.1; omega⟩
      have Hby : Hid ((acc.length + 1) * 40 ≤ 140737488355328) := lh (by rw [Hal.out]; omega)
      have HL : Hid ((acc ++ [f]).length = k + 1) := lh (by rw [List.length_append, Hal.out]; rfl)
      have HTf : Hid (∀ v1 w6, Acc (.slice ra k rcap) (w10.alloc (.cells #[.int .i64 f.W, .int .i64 f.H, .slice (some ⟨kb, 0, none⟩) f.pix.length kcap] 27)) v1 w6 → w6.heap[bA]? = some (.cells #[.int .i64 f.W, .int .i64 f.H, .slice (some ⟨kb, 0, none⟩) f.pix.length kcap] 27 (0, 0))) := lh (fun v1 w6 ho => ho.only.rowAt HAa.out (fun hm => by have := (HnG.out _ (by simpa using hm)).1; have := HkA.out.1; omega))
      have HRf : Hid (∀ v1 w6, Acc (.slice ra k rcap) (w10.alloc (.cells #[.int .i64 f.W, .int .i64 f.H, .slice (some ⟨kb, 0, none⟩) f.pix.length kcap] 27)) v1 w6 → w6.heap[w.heap.size + 1]? = some (.cells #[.int .i64 prev.W, .int .i64 prev.H, .slice pa prev.pix.length pcap] 27 (0, 0))) := lh (fun v1 w6 ho => ho.only.rowAt HRa.out (fun hm => by have := (HnG.out _ (by simpa using hm)).2; omega))
      clear hn hnG
      go_wp2_with (first
       | (at_builtin; refine wpList_append_frame rfl (.tmp 41) (.tmp 43) _ rfl EFr HOa.out rfl HCs.out HGa.out Hbk.out rfl Hby.out Hba.out (fun v1 w6 hown1 ho1 => ?_); obtain ⟨x1, x1cap, hx1⟩ := hown1.isSlice; subst hx1; rw [HL.out] at hown1 ho1 ⊢; obtain ⟨t0, t1, t2⟩ := frame_cells (HTf.out _ _ ho1); obtain ⟨z0, z1, z2⟩ := frame_cells (HRf.out _ _ ho1); have fz0 := frozen_of_row _ _ 0 _ _ (HRf.out _ _ ho1); have fz1 := frozen_of_row _ _ 1 _ _ (HRf.out _ _ ho1); have fz2 := frozen_of_row _ _ 2 _ _ (HRf.out _ _ ho1); have HO6 := lh hown1; have HA6 := lh ho1; clear hown1 ho1)
       | fail)
      obtain ⟨hrow, hon⟩ := row3_set (x := .int .i64 f.W) (y := .int .i64 f.H) (z := .slice (some ⟨kb, 0, none⟩) f.pix.length kcap) (HRf.out _ _ HA6.out)
      have hq6 : Only [] w w6 := HQa.out.trans HA6.out.only (U := []) (by simp) (fun x hx hl => by have := (HnG.out x (by simpa using hx)).2; omega)
      have hE6 := hon.rowAt (HA6.out.only.rowAt HEa.out (fun hm => by have := (HnG.out _ (by simpa using hm)).2; omega)) (by rw [mSg]; omega)
      refine ⟨?_, by simp [intOf]; have := Hlt.out; omega⟩
      refine ⟨k + 1, f, acc ++ [f], .slice (some ⟨kb, 0, none⟩) f.pix.length kcap, kb, Hlt.out, by go_num, HGO, HL, lh (HO6.out.only hon (fun g hg => by rw [mSg] at hg; omega)), lh hE6, lh hrow, lh ⟨?_, .inr (by have := Hbk.out.1; omega)⟩, lh (hq6.trans hon (by simp) (fun x hx hl => by rw [mSg] at hx; omega))⟩
      exact (HGa.out.only HA6.out.only (fun x hx => by have := (HnG.out x (by simpa using hx)).1; have := HKb.out.1; left; omega)).only hon (fun x hx => by rw [mSg] at hx; have := Hbk.out.1; left; omega)
   ·obtain rfl : k = l.length := by omega
    have hki : ¬ (l.length : Int) < (l.length : Int) := by omega
    have hgo := Hgo.out
    rw [List.drop_length, framesGo] at hgo
    have HGO := lh hgo
    clear hgo
    obtain ⟨z0, z1, y0, y1, -⟩ := row2 HEk.out
    go_wp2_with fail
    obtain ⟨hrow, hon⟩ := row2_set (x := .int .i64 0) (y := .slice none 0 0) HEk.out
    have hall : Only [] w _ := HQk.out.trans hon (U := []) (by simp) (fun g hg hl => by rw [mSg] at hg; omega)
    refine bodyPost_ret (results_tmp_cell Tryz.results16 _ _ w.heap.size _ _ _ _ (.slice ra l.length rcap) rfl rfl hrow Tryz.underlying45 rfl (err_info _ rfl)) rfl (HPost.out _ _ ?_)
    rw [← HGO.out]
    have ho := HOk.out.only hon (fun g hg => by rw [mSg] at hg; omega)
    refine ⟨hall, ra, rcap, by rw [Hal.out], ?_⟩
    rw [Hal.out]
    exact (ho.lower (by omega)).frames
end Go.Proofs.YthgpgbdkcdmbpaaGreatDoor
