/- The law kinlaw21.DecodeFrames answers true. Conditions: the arguments read; errors.errorType holds error's type. -/
import Derived.Test.YthgpgbdkcdmbpaaGreatDoorZDRFs
import Derived.Test.YthgpgbdkcdmbpaaGreatDoorFS
import Derived.Test.YthgpgbdkcdmbpaaGreatDoorZDTotal
import Derived.Deep.DeepCutAuto
namespace Go.Proofs.YthgpgbdkcdmbpaaGreatDoor
open Go.RowKit
set_option linter.unusedVariables false
set_option linter.unusedSimpArgs false
set_option maxRecDepth 100000
set_option maxHeartbeats 16000000
theorem qDFrLawt0 {p : Prop} (h : p := by intro wz hSw; obtain ⟨hS0, hS1, hS2⟩ := hSw; obtain ⟨p0, p1, p2⟩ := frame_cells hS2; go_simp; try with_reducible rfl) : p := h
theorem frEq_refl (f : FrameD) : frEq f f = true := by simp [frEq, eqB]
theorem few_data {l : List Coded} (h : fewB l = true) : ∀ c ∈ l, c.data.length ≤ 140737488355328 := by
 have hl := few_len h
 simp only [fewB, Bool.and_eq_true, decide_eq_true_eq] at h
 rw [List.take_of_length_le hl] at h
 have key : ∀ (l : List Coded) (n : Int), n ≤ l.foldl (fun n c => n + min (c.data.length : Int) 20001) n ∧ ∀ c ∈ l, n + min (c.data.length : Int) 20001 ≤ l.foldl (fun n c => n + min (c.data.length : Int) 20001) n := by
  intro l
  induction l with
  | nil => intro n; exact ⟨Int.le_refl _, fun c hc => by cases hc⟩
  | cons a rest ih =>
   intro n
   rw [List.foldl_cons]
   obtain ⟨p, q⟩ := ih (n + min (a.data.length : Int) 20001)
   refine ⟨by omega, fun c hc => ?_⟩
   rcases List.mem_cons.1 hc with rfl | hc
   ·exact p
   ·have := q c hc; omega
 intro c hc
 have := (key l 0).2 c hc
 have h2 : l.foldl (fun n c => n + min (c.data.length : Int) 20001) 0 ≤ 20000 := h.2
 omega
theorem framesGo_err {W H : Int} : ∀ (l : List Coded) (i : Nat) (prev : FrameD) (acc : List FrameD) (e : Err), (∀ c ∈ l, ∀ x ∈ c.data, InK .u8 x) → framesGo W H l i prev acc = .error e → e.code ≠ 0 ∧ e.path.length ≤ 4 := by
 intro l
 induction l with
 | nil => intro i prev acc e hd h; cases h
 | cons c rest ih =>
  intro i prev acc e hd h
  have hb := frameD_both (c := c) (prev := prev) (w := W) (h := H) (hd c (List.mem_cons_self ..))
  cases hfr : frameD c prev W H with
  | error er =>
   rw [framesGo_bad hfr] at h
   injection h with h
   obtain ⟨a, b⟩ := hb.2 er hfr
   subst h
   exact ⟨by show er.code ≠ 0; omega, by show ((sFrames, (i : Int)) :: er.path).length ≤ 4; rw [List.length_cons]; omega⟩
  | ok f =>
   rw [framesGo_more hfr] at h
   exact ih _ _ _ _ (fun c hc => hd c (List.mem_cons_of_mem _ hc)) h
theorem framesD_err {l : List Coded} {W H : Int} {e : Err} (hd : ∀ c ∈ l, ∀ x ∈ c.data, InK .u8 x) (h : framesD l W H = .error e) : e.code ≠ 0 ∧ e.path.length ≤ 4 := by
 unfold framesD at h
 split at h
 ·injection h with h; subst h; exact ⟨by decide, by decide⟩
 ·exact framesGo_err _ _ _ _ _ hd h
theorem codeds_data {lo hi : Nat} {w : World} {v : Value} {l : List Coded} (h : CodedsAt lo hi w v l) : ∀ c ∈ l, ∀ x ∈ c.data, InK .u8 x := by
 intro c hc
 obtain ⟨i, hi, rfl⟩ := List.mem_iff_getElem.1 hc
 obtain ⟨f, _, h2⟩ := h
 have := (h2 i hi).2.2.2
 rw [List.getD_eq_getElem?_getD, List.getElem?_eq_getElem hi] at this
 exact this
theorem qDFrLaw14 {p : Prop} (h : p := by
 replace HK : Hid (Ints .i64 jb (jb + 1) v' (.slice (some ⟨jb, 0, none⟩) f.pix.length jcap) f.pix) := lh (HK.out.only q (fun g hg => by rw [mSg] at hg; subst hg; exact HkE.out.2))
 replace HKb : Hid (W9x.heap.size ≤ jb ∧ (jb + 1) ≤ v'.heap.size) := lh ⟨HKb.out.1, Nat.le_trans HKb.out.2 q.size⟩
 replace o : Hid (Only [] W9x v') := lh (o.out.trans q (by simp) (fun g hg hlt => by rw [mSg] at hg; have := HkE.out.1; omega))
 clear hq hr q
 obtain ⟨v, rfl⟩ : ∃ z, z = v' := ⟨_, rfl⟩
 refine hK.out _ _ ?_ (fun hHeld => ?_)
 ·exact HS3.out _ (by first | exact o.out | exact o.out.drew)
 clear hK K
 refine wpAnyH_done (by kernel_rfl) ?_ _
 go_wp2_with fail
 go_meet
 exact ⟨bA, bE, jb, jcap, rfl, rfl, o, HA, HE, HKb, HK, HkA, HkE⟩) : p := h
theorem qDFrLaw16 {p : Prop} (h : p := by
 exact HS3.out _ (by first | exact o.out | exact o.out.drew)) : p := h
theorem qDFrLaw1 {p : Prop} (h : p := by
 refine rdy (rdn 13 (fun K hK => ?_) .nil)
 refine wp_store_rowQ (.tmp 17) (.tmp 85) 27 rfl (g := bA) (c' := #[.int .i64 f.W, .int .i64 f.H, .slice (some ⟨jb, 0, none⟩) f.pix.length jcap]) rfl rfl HA.out (fr_info _ _ _) rfl (by first | kernel_rfl | simp [Value.oneCell']) (fun v' hq hr => ?_)
 have q : Only [bA] v v' := by first | exact hq | exact ((Only.refl _ _).drew.mono (U := [bA]) (by simp)).trans hq (fun g h _ => h) (fun g h _ => h)
 replace HA := lh hr
 replace HE := lh (q.rowAt HE.out (by rw [mSg]; have := HnAE.out; omega))
 replace HK : Hid (Ints .i64 jb (jb + 1) v' (.slice (some ⟨jb, 0, none⟩) f.pix.length jcap) f.pix) := lh (HK.out.only q (fun g hg => by rw [mSg] at hg; subst hg; exact HkA.out.2))
 replace HKb : Hid (W9x.heap.size ≤ jb ∧ (jb + 1) ≤ v'.heap.size) := lh ⟨HKb.out.1, Nat.le_trans HKb.out.2 q.size⟩
 replace o : Hid (Only [] W9x v') := lh (o.out.trans q (by simp) (fun g hg hlt => by rw [mSg] at hg; have := HkA.out.1; omega))
 clear hq hr q
 obtain ⟨v, rfl⟩ : ∃ z, z = v' := ⟨_, rfl⟩
 refine hK.out _ _ ?_ (fun hHeld => ?_)
 ·exact qDFrLaw16
 clear hK K
 refine rdy (rdn 14 (fun K hK => ?_) .nil)
 refine wp_store_rowQ (.tmp 18) (.tmp 86) 45 rfl (g := bE) (c' := #[.int .i64 0, .slice none 0 0]) rfl rfl HE.out (er_info _ _) rfl (by first | kernel_rfl | simp [Value.oneCell']) (fun v' hq hr => ?_)
 have q : Only [bE] v v' := by first | exact hq | exact ((Only.refl _ _).drew.mono (U := [bE]) (by simp)).trans hq (fun g h _ => h) (fun g h _ => h)
 replace HE := lh hr
 replace HA := lh (q.rowAt HA.out (by rw [mSg]; have := HnAE.out; omega))
 exact qDFrLaw14) : p := h
theorem qDFrLaw2 {p : Prop} (h : p := by
 refine rdy (rdn 13 (fun K hK => ?_) .nil)
 refine wp_store_rowQ (.tmp 17) (.tmp 85) 27 rfl (g := bA) (c' := #[.int .i64 f.W, .int .i64 f.H, .slice (some ⟨jb, 0, none⟩) f.pix.length jcap]) rfl rfl HA.out (fr_info _ _ _) rfl (by first | kernel_rfl | simp [Value.oneCell']) (fun v' hq hr => ?_)
 have q : Only [bA] v v' := by first | exact hq | exact ((Only.refl _ _).drew.mono (U := [bA]) (by simp)).trans hq (fun g h _ => h) (fun g h _ => h)
 replace HA := lh hr
 replace HE := lh (q.rowAt HE.out (by rw [mSg]; have := HnEA.out; omega))
 replace HK : Hid (Ints .i64 jb (jb + 1) v' (.slice (some ⟨jb, 0, none⟩) f.pix.length jcap) f.pix) := lh (HK.out.only q (fun g hg => by rw [mSg] at hg; subst hg; exact HkA.out.2))
 replace HKb : Hid (W9x.heap.size ≤ jb ∧ (jb + 1) ≤ v'.heap.size) := lh ⟨HKb.out.1, Nat.le_trans HKb.out.2 q.size⟩
 replace o : Hid (Only [] W9x v') := lh (o.out.trans q (by simp) (fun g hg hlt => by rw [mSg] at hg; have := HkA.out.1; omega))
 clear hq hr q
 obtain ⟨v, rfl⟩ : ∃ z, z = v' := ⟨_, rfl⟩
 refine hK.out _ _ ?_ (fun hHeld => ?_)
 ·exact qDFrLaw16
 clear hK K
 refine rdy (rdn 14 (fun K hK => ?_) .nil)
 refine wp_store_rowQ (.tmp 18) (.tmp 86) 45 rfl (g := bE) (c' := #[.int .i64 0, .slice none 0 0]) rfl rfl HE.out (er_info _ _) rfl (by first | kernel_rfl | simp [Value.oneCell']) (fun v' hq hr => ?_)
 have q : Only [bE] v v' := by first | exact hq | exact ((Only.refl _ _).drew.mono (U := [bE]) (by simp)).trans hq (fun g h _ => h) (fun g h _ => h)
 replace HE := lh hr
 replace HA := lh (q.rowAt HA.out (by rw [mSg]; have := HnEA.out; omega))
 exact qDFrLaw14) : p := h
theorem qDFrLaw15 {p : Prop} (h : p := by
 replace HK : Hid (Cells 2 l2 h2 v' (.slice a3 ez.path.length cap3) ez.path.length (flat ez.path)) := lh (HK.out.only q (fun g hg => by rw [mSg] at hg; subst hg; exact HkE.out.2))
 replace HKb : Hid (W9x.heap.size ≤ l2 ∧ h2 ≤ v'.heap.size) := lh ⟨HKb.out.1, Nat.le_trans HKb.out.2 q.size⟩
 replace o : Hid (Only [] W9x v') := lh (o.out.trans q (by simp) (fun g hg hlt => by rw [mSg] at hg; have := HkE.out.1; omega))
 clear hq hr q
 obtain ⟨v, rfl⟩ : ∃ z, z = v' := ⟨_, rfl⟩
 refine hK.out _ _ ?_ (fun hHeld => ?_)
 ·exact HS3.out _ (by first | exact o.out | exact o.out.drew)
 clear hK K
 refine wpAnyH_done (by kernel_rfl) ?_ _
 go_wp2_with fail
 go_meet
 exact ⟨bA, bE, l2, h2, a3, cap3, rfl, rfl, o, HA, HE, HKb, HK, HkA, HkE⟩) : p := h
theorem qDFrLaw3 {p : Prop} (h : p := by
 refine rdy (rdn 13 (fun K hK => ?_) .nil)
 refine wp_store_rowQ (.tmp 17) (.tmp 85) 27 rfl (g := bA) (c' := #[.int .i64 0, .int .i64 0, .slice none 0 0]) rfl rfl HA.out (fr_info _ _ _) rfl (by first | kernel_rfl | simp [Value.oneCell']) (fun v' hq hr => ?_)
 have q : Only [bA] v v' := by first | exact hq | exact ((Only.refl _ _).drew.mono (U := [bA]) (by simp)).trans hq (fun g h _ => h) (fun g h _ => h)
 replace HA := lh hr
 replace HE := lh (q.rowAt HE.out (by rw [mSg]; have := HnAE.out; omega))
 replace HK : Hid (Cells 2 l2 h2 v' (.slice a3 ez.path.length cap3) ez.path.length (flat ez.path)) := lh (HK.out.only q (fun g hg => by rw [mSg] at hg; subst hg; exact HkA.out.2))
 replace HKb : Hid (W9x.heap.size ≤ l2 ∧ h2 ≤ v'.heap.size) := lh ⟨HKb.out.1, Nat.le_trans HKb.out.2 q.size⟩
 replace o : Hid (Only [] W9x v') := lh (o.out.trans q (by simp) (fun g hg hlt => by rw [mSg] at hg; have := HkA.out.1; omega))
 clear hq hr q
 obtain ⟨v, rfl⟩ : ∃ z, z = v' := ⟨_, rfl⟩
 refine hK.out _ _ ?_ (fun hHeld => ?_)
 ·exact qDFrLaw16
 clear hK K
 refine rdy (rdn 14 (fun K hK => ?_) .nil)
 refine wp_store_rowQ (.tmp 18) (.tmp 86) 45 rfl (g := bE) (c' := #[.int .i64 ez.code, .slice a3 ez.path.length cap3]) rfl rfl HE.out (er_info _ _) rfl (by first | kernel_rfl | simp [Value.oneCell']) (fun v' hq hr => ?_)
 have q : Only [bE] v v' := by first | exact hq | exact ((Only.refl _ _).drew.mono (U := [bE]) (by simp)).trans hq (fun g h _ => h) (fun g h _ => h)
 replace HE := lh hr
 replace HA := lh (q.rowAt HA.out (by rw [mSg]; have := HnAE.out; omega))
 exact qDFrLaw15) : p := h
theorem qDFrLaw4 {p : Prop} (h : p := by
 refine rdy (rdn 13 (fun K hK => ?_) .nil)
 refine wp_store_rowQ (.tmp 17) (.tmp 85) 27 rfl (g := bA) (c' := #[.int .i64 0, .int .i64 0, .slice none 0 0]) rfl rfl HA.out (fr_info _ _ _) rfl (by first | kernel_rfl | simp [Value.oneCell']) (fun v' hq hr => ?_)
 have q : Only [bA] v v' := by first | exact hq | exact ((Only.refl _ _).drew.mono (U := [bA]) (by simp)).trans hq (fun g h _ => h) (fun g h _ => h)
 replace HA := lh hr
 replace HE := lh (q.rowAt HE.out (by rw [mSg]; have := HnEA.out; omega))
 replace HK : Hid (Cells 2 l2 h2 v' (.slice a3 ez.path.length cap3) ez.path.length (flat ez.path)) := lh (HK.out.only q (fun g hg => by rw [mSg] at hg; subst hg; exact HkA.out.2))
 replace HKb : Hid (W9x.heap.size ≤ l2 ∧ h2 ≤ v'.heap.size) := lh ⟨HKb.out.1, Nat.le_trans HKb.out.2 q.size⟩
 replace o : Hid (Only [] W9x v') := lh (o.out.trans q (by simp) (fun g hg hlt => by rw [mSg] at hg; have := HkA.out.1; omega))
 clear hq hr q
 obtain ⟨v, rfl⟩ : ∃ z, z = v' := ⟨_, rfl⟩
 refine hK.out _ _ ?_ (fun hHeld => ?_)
 ·exact qDFrLaw16
 clear hK K
 refine rdy (rdn 14 (fun K hK => ?_) .nil)
 refine wp_store_rowQ (.tmp 18) (.tmp 86) 45 rfl (g := bE) (c' := #[.int .i64 ez.code, .slice a3 ez.path.length cap3]) rfl rfl HE.out (er_info _ _) rfl (by first | kernel_rfl | simp [Value.oneCell']) (fun v' hq hr => ?_)
 have q : Only [bE] v v' := by first | exact hq | exact ((Only.refl _ _).drew.mono (U := [bE]) (by simp)).trans hq (fun g h _ => h) (fun g h _ => h)
 replace HE := lh hr
 replace HA := lh (q.rowAt HA.out (by rw [mSg]; have := HnEA.out; omega))
 exact qDFrLaw15) : p := h
theorem qDFrLaw5 {p : Prop} (h : p := by
 exact qDFrLaw16) : p := h
theorem qDFrLaw6 {p : Prop} (h : p := by
 refine rdy (rdn 12 (fun K hK => ?_) .nil)
 refine wp_store_rowQ (.tmp 15) (.tmp 74) 27 rfl (g := bC) (c' := #[.int .i64 f.W, .int .i64 f.H, .slice (some ⟨kb, 0, none⟩) f.pix.length kcap]) rfl rfl HC.out (fr_info _ _ _) rfl (by first | kernel_rfl | simp [Value.oneCell']) (fun v' hq hr => ?_)
 have q : Only [bC] v v' := by first | exact hq | exact ((Only.refl _ _).drew.mono (U := [bC]) (by simp)).trans hq (fun g h _ => h) (fun g h _ => h)
 replace HC := lh hr
 replace HK : Hid (Ints .i64 kb (kb + 1) v' (.slice (some ⟨kb, 0, none⟩) f.pix.length kcap) f.pix) := lh (HK.out.only q (fun g hg => by rw [mSg] at hg; subst hg; exact HkC.out.2))
 replace HKb : Hid (W8x.heap.size ≤ kb ∧ (kb + 1) ≤ v'.heap.size) := lh ⟨HKb.out.1, Nat.le_trans HKb.out.2 q.size⟩
 replace o : Hid (Only [] W8x v') := lh (o.out.trans q (by simp) (fun g hg hlt => by rw [mSg] at hg; have := HkC.out.1; omega))
 clear hq hr q
 obtain ⟨v, rfl⟩ : ∃ z, z = v' := ⟨_, rfl⟩
 refine hK.out _ _ ?_ (fun hHeld => ?_)
 ·exact HS1.out _ (by first | exact o.out | exact o.out.drew)
 clear hK K
 refine tkw 13 16 ⟨rfl, qDFrLawt0⟩ ?_
 refine wpAnyH_done (by kernel_rfl) ?_ _
 go_wp2_with fail
 go_meet
 exact ⟨bC, kb, kcap, rfl, rfl, o, HC, HKb, HK, HkC⟩) : p := h
theorem qDFrLaw7 {p : Prop} (h : p := by
 refine rdy (rdn 12 (fun K hK => ?_) .nil)
 refine wp_store_rowQ (.tmp 15) (.tmp 74) 27 rfl (g := bC) (c' := #[.int .i64 0, .int .i64 0, .slice none 0 0]) rfl rfl HC.out (fr_info _ _ _) rfl (by first | kernel_rfl | simp [Value.oneCell']) (fun v' hq hr => ?_)
 have q : Only [bC] v v' := by first | exact hq | exact ((Only.refl _ _).drew.mono (U := [bC]) (by simp)).trans hq (fun g h _ => h) (fun g h _ => h)
 replace HC := lh hr
 replace HK : Hid (ErrV l1 h1 v' (.iface et2 eu2) ez) := lh (HK.out.only q (fun g hg => by rw [mSg] at hg; subst hg; exact HkC.out.2))
 replace HKb : Hid (W8x.heap.size ≤ l1 ∧ h1 ≤ v'.heap.size) := lh ⟨HKb.out.1, Nat.le_trans HKb.out.2 q.size⟩
 replace o : Hid (Only [] W8x v') := lh (o.out.trans q (by simp) (fun g hg hlt => by rw [mSg] at hg; have := HkC.out.1; omega))
 clear hq hr q
 obtain ⟨v, rfl⟩ : ∃ z, z = v' := ⟨_, rfl⟩
 refine hK.out _ _ ?_ (fun hHeld => ?_)
 ·exact HS1.out _ (by first | exact o.out | exact o.out.drew)
 clear hK K
 refine tkw 13 16 ⟨rfl, qDFrLawt0⟩ ?_
 refine wpAnyH_done (by kernel_rfl) ?_ _
 go_wp2_with fail
 go_meet
 exact ⟨bC, l1, h1, et2, eu2, rfl, rfl, o, HC, HKb, HK, HkC⟩) : p := h
theorem qDFrLaw8 {p : Prop} (h : p := by
 exact HS1.out _ (by first | exact o.out | exact o.out.drew)) : p := h
theorem qDFrLaw9 {p : Prop} (h : p := by
 rintro e Wv ⟨rfl, hqv⟩
 have HQv := lh ((((HQk.out.q HOn1.out).q HOn2.out).q HSy.out).q hqv)
 clear hqv e0 e1
 have Hlt2 : Hid (k + 1 ≤ l.length) := lh Hlt.out
 go_wp2_with fail
 refine ⟨?_, by simp [intOf]; have := Hlt.out; omega⟩
 exact ⟨k + 1, Hlt2.out, by go_num, HQv⟩) : p := h
theorem qDFrLaw10 {p : Prop} (h : p := by
 refine rdy (rdc 11 17 (fun K hK => ?_) .nil)
 go_simp
 generalize hW : World.alloc _ _ = v'
 have q : Only [] v v' := by rw [← hW]; first | exact Only.new _ _ | exact ((Only.refl _ _).drew).q (Only.new _ _)
 have HA : Hid (v'.heap[v.heap.size]? = some (.cells #[.int .i64 0, .int .i64 0, .slice none 0 0] 27 (0, 0))) := lh (by rw [← hW]; exact heap_alloc_new _ _)
 have hz : W9x.heap.size ≤ v.heap.size := o.out.size
 have HkA : Hid (W9x.heap.size ≤ v.heap.size ∧ (v.heap.size < jb ∨ (jb + 1) ≤ v.heap.size)) := lh ⟨hz, .inr HKb.out.2⟩
 have HnEA : Hid (bE ≠ v.heap.size) := lh (by have := (Array.getElem?_eq_some_iff.1 HE.out).1; omega)
 replace HE := lh (q.row HE.out)
 replace HK : Hid (Ints .i64 jb (jb + 1) v' (.slice (some ⟨jb, 0, none⟩) f.pix.length jcap) f.pix) := lh (HK.out.only q (by simp))
 replace HKb : Hid (W9x.heap.size ≤ jb ∧ (jb + 1) ≤ v'.heap.size) := lh ⟨HKb.out.1, Nat.le_trans HKb.out.2 q.size⟩
 replace o := lh (o.out.q q)
 clear hW q
 generalize hb : v.heap.size = bA at HA HkA HnEA ⊢
 have HzA : Hid (W9x.heap.size ≤ bA) := lh (by rw [← hb]; exact hz)
 clear hb hz
 obtain ⟨v, rfl⟩ : ∃ z, z = v' := ⟨_, rfl⟩
 refine hK.out _ _ ?_ (fun hHeld => ?_)
 ·exact qDFrLaw5
 clear hK K
 exact qDFrLaw2) : p := h
theorem qDFrLaw11 {p : Prop} (h : p := by
 refine rdy (rdc 12 18 (fun K hK => ?_) .nil)
 go_simp
 generalize hW : World.alloc _ _ = v'
 have q : Only [] v v' := by rw [← hW]; first | exact Only.new _ _ | exact ((Only.refl _ _).drew).q (Only.new _ _)
 have HE : Hid (v'.heap[v.heap.size]? = some (.cells #[.int .i64 0, .slice none 0 0] 45 (0, 0))) := lh (by rw [← hW]; exact heap_alloc_new _ _)
 have hz : W9x.heap.size ≤ v.heap.size := o.out.size
 have HkE : Hid (W9x.heap.size ≤ v.heap.size ∧ (v.heap.size < jb ∨ (jb + 1) ≤ v.heap.size)) := lh ⟨hz, .inr HKb.out.2⟩
 have HnAE : Hid (bA ≠ v.heap.size) := lh (by have := (Array.getElem?_eq_some_iff.1 HA.out).1; omega)
 replace HA := lh (q.row HA.out)
 replace HK : Hid (Ints .i64 jb (jb + 1) v' (.slice (some ⟨jb, 0, none⟩) f.pix.length jcap) f.pix) := lh (HK.out.only q (by simp))
 replace HKb : Hid (W9x.heap.size ≤ jb ∧ (jb + 1) ≤ v'.heap.size) := lh ⟨HKb.out.1, Nat.le_trans HKb.out.2 q.size⟩
 replace o := lh (o.out.q q)
 clear hW q
 generalize hb : v.heap.size = bE at HE HkE HnAE ⊢
 have HzE : Hid (W9x.heap.size ≤ bE) := lh (by rw [← hb]; exact hz)
 clear hb hz
 obtain ⟨v, rfl⟩ : ∃ z, z = v' := ⟨_, rfl⟩
 refine hK.out _ _ ?_ (fun hHeld => ?_)
 ·exact qDFrLaw5
 clear hK K
 exact qDFrLaw1) : p := h
theorem qDFrLaw12 {p : Prop} (h : p := by
 refine rdy (rdc 11 17 (fun K hK => ?_) .nil)
 go_simp
 generalize hW : World.alloc _ _ = v'
 have q : Only [] v v' := by rw [← hW]; first | exact Only.new _ _ | exact ((Only.refl _ _).drew).q (Only.new _ _)
 have HA : Hid (v'.heap[v.heap.size]? = some (.cells #[.int .i64 0, .int .i64 0, .slice none 0 0] 27 (0, 0))) := lh (by rw [← hW]; exact heap_alloc_new _ _)
 have hz : W9x.heap.size ≤ v.heap.size := o.out.size
 have HkA : Hid (W9x.heap.size ≤ v.heap.size ∧ (v.heap.size < l2 ∨ h2 ≤ v.heap.size)) := lh ⟨hz, .inr HKb.out.2⟩
 have HnEA : Hid (bE ≠ v.heap.size) := lh (by have := (Array.getElem?_eq_some_iff.1 HE.out).1; omega)
 replace HE := lh (q.row HE.out)
 replace HK : Hid (Cells 2 l2 h2 v' (.slice a3 ez.path.length cap3) ez.path.length (flat ez.path)) := lh (HK.out.only q (by simp))
 replace HKb : Hid (W9x.heap.size ≤ l2 ∧ h2 ≤ v'.heap.size) := lh ⟨HKb.out.1, Nat.le_trans HKb.out.2 q.size⟩
 replace o := lh (o.out.q q)
 clear hW q
 generalize hb : v.heap.size = bA at HA HkA HnEA ⊢
 have HzA : Hid (W9x.heap.size ≤ bA) := lh (by rw [← hb]; exact hz)
 clear hb hz
 obtain ⟨v, rfl⟩ : ∃ z, z = v' := ⟨_, rfl⟩
 refine hK.out _ _ ?_ (fun hHeld => ?_)
 ·exact qDFrLaw5
 clear hK K
 exact qDFrLaw4) : p := h
theorem qDFrLaw13 {p : Prop} (h : p := by
 refine rdy (rdc 12 18 (fun K hK => ?_) .nil)
 go_simp
 generalize hW : World.alloc _ _ = v'
 have q : Only [] v v' := by rw [← hW]; first | exact Only.new _ _ | exact ((Only.refl _ _).drew).q (Only.new _ _)
 have HE : Hid (v'.heap[v.heap.size]? = some (.cells #[.int .i64 0, .slice none 0 0] 45 (0, 0))) := lh (by rw [← hW]; exact heap_alloc_new _ _)
 have hz : W9x.heap.size ≤ v.heap.size := o.out.size
 have HkE : Hid (W9x.heap.size ≤ v.heap.size ∧ (v.heap.size < l2 ∨ h2 ≤ v.heap.size)) := lh ⟨hz, .inr HKb.out.2⟩
 have HnAE : Hid (bA ≠ v.heap.size) := lh (by have := (Array.getElem?_eq_some_iff.1 HA.out).1; omega)
 replace HA := lh (q.row HA.out)
 replace HK : Hid (Cells 2 l2 h2 v' (.slice a3 ez.path.length cap3) ez.path.length (flat ez.path)) := lh (HK.out.only q (by simp))
 replace HKb : Hid (W9x.heap.size ≤ l2 ∧ h2 ≤ v'.heap.size) := lh ⟨HKb.out.1, Nat.le_trans HKb.out.2 q.size⟩
 replace o := lh (o.out.q q)
 clear hW q
 generalize hb : v.heap.size = bE at HE HkE HnAE ⊢
 have HzE : Hid (W9x.heap.size ≤ bE) := lh (by rw [← hb]; exact hz)
 clear hb hz
 obtain ⟨v, rfl⟩ : ∃ z, z = v' := ⟨_, rfl⟩
 refine hK.out _ _ ?_ (fun hHeld => ?_)
 ·exact qDFrLaw5
 clear hK K
 exact qDFrLaw3) : p := h
theorem qDFrLaw0 {p : Prop} (h : p := by
 rintro e W9 ⟨rfl, hq9⟩
 have HQ9 := lh (HQ8.out.q hq9)
 have H49 := lh (H48.out.q hq9)
 have HB9 := lh (hq9.row HB8.out)
 have HC9 := lh (HC8.out.quiet hq9)
 clear hq9 e0 e1
 have hcs := codeds_any HC9.out (HL.out.quiet HQ9.out)
 rw [show eqB l l = true by simp [eqB]] at hcs
 have HCs9 := lh hcs
 clear hcs
 go_wp2_with fail
 go_at_call 19
 refine HCs9.out.mono ?_
 rintro e Wa ⟨rfl, hqa⟩
 have HQa := lh (HQ9.out.q hqa)
 have H4a := lh (H49.out.q hqa)
 have HBa := lh (hqa.row HB9.out)
 have HCa := lh (HC9.out.quiet hqa)
 clear hqa
 go_wp2_with fail
 go_loopw [14] (fun i wr => ∃ k : Nat, k ≤ l.length ∧ i = .int .i64 k ∧ Hid (Only [] Wa wr)) (fun i _ => l.length - (intOf i).toNat)
 case atStart => exact ⟨0, by omega, rfl, lh (Only.refl _ _)⟩
 case round =>
  obtain ⟨k, hk, rfl, HQk⟩ := hrel
  by_cases hlt : k < l.length
  ·have hki : (k : Int) < (l.length : Int) := by omega
   have hk0 : (0 : Int) ≤ (k : Int) := by omega
   obtain ⟨cb, coff, dv, rfl, _, _, hc1, hc2, hik, hd⟩ := Hel.out k hlt
   obtain ⟨cb2, coff2, dv2, rfl, _, _, hc3, hc4, hik2, hd2⟩ := Hel2.out k hlt
   have Hcl := lh (Hdl.out _ (by rw [List.getD_eq_getElem?_getD, List.getElem?_eq_getElem hlt]; exact List.getElem_mem _ : l.getD k default ∈ l))
   generalize l.getD k default = c at *
   obtain ⟨da, dcap, rfl, -⟩ := hd.open
   obtain ⟨da2, dcap2, rfl, -⟩ := hd2.open
   have HQw := lh (HQa.out.q HQk.out)
   have HPb := lh (HQk.out.row HBa.out)
   have HD := lh hd
   have HD2 := lh hd2
   have Hlt := lh hlt
   have H4k := lh ((H4a.out).q HQk.out)
   have HS1 : Hid (∀ wx : World, Only [] wr wx → wx.cell? ⟨cb2, coff2 + k * 2, none⟩ = some (.int .i64 c.kind) ∧ wx.cell? ⟨cb2, coff2 + k * 2 + 1, none⟩ = some (.slice da2 c.data.length dcap2) ∧ wx.heap[w.heap.size]? = some (.cells #[.int .i64 prev.W, .int .i64 prev.H, .slice pa prev.pix.length pcap] 27 (0, 0))) := lh (fun wx o => ⟨(H4k.out.q o).cell hc3 (by simp), (H4k.out.q o).cell hc4 (by simp), o.row HPb.out⟩)
   have HS2 : Hid (∀ wx : World, Only [] wr wx → wx.cell? ⟨cb, coff + k * 2, none⟩ = some (.int .i64 c.kind) ∧ wx.cell? ⟨cb, coff + k * 2 + 1, none⟩ = some (.slice da c.data.length dcap) ∧ wx.heap[w.heap.size]? = some (.cells #[.int .i64 prev.W, .int .i64 prev.H, .slice pa prev.pix.length pcap] 27 (0, 0))) := lh (fun wx o => ⟨(HQw.out.q o).cell hc1 (by simp), (HQw.out.q o).cell hc2 (by simp), o.row HPb.out⟩)
   have HF1 := lh (fun (wx : World) (o : Only [] wr wx) => frame_any (c := c) (prev := prev) W H (HD2.out.quiet (H4k.out.q o)) (HP.out.quiet (HQw.out.q o)))
   have HF2 := lh (fun (wx : World) (o : Only [] wr wx) => kdframe_any (c := c) (prev := prev) (W := W) (H := H) (HD.out.quiet (HQw.out.q o)) (HP.out.quiet (HQw.out.q o)) Hcl.out)
   have HBo := lh (frameD_both (c := c) (prev := prev) (w := W) (h := H) hd.2)
   clear hc1 hc2 hc3 hc4 hik hik2 hd hd2
   cases hfr : frameD c prev W H with
   | error ez =>
    rw [hfr] at HF1 HF2
    have hbo := HBo.out.2 ez hfr
    have Hec2 : Hid (ez.code ≠ 0) := lh (by omega)
    have Hep2 := lh hbo.1
    clear hbo
    clear hfr HBo
    go_upto_region 13 with (fail)
    obtain ⟨W8x, hW8x⟩ : ∃ z, z = wr := ⟨_, rfl⟩
    subst hW8x
    go_cut [15, 16] (fun sC s16 wx => ∃ (bC : Nat) (l1 : Nat) (h1 : Nat) (et2 : TypeId) (eu2 : Value), sC = .pointer (some ⟨bC, 0, none⟩) ∧ s16 = .iface et2 eu2 ∧ Hid (Only [] W8x wx) ∧ Hid (wx.heap[bC]? = some (.cells #[.int .i64 0, .int .i64 0, .slice none 0 0] 27 (0, 0))) ∧ Hid (W8x.heap.size ≤ l1 ∧ h1 ≤ wx.heap.size) ∧ Hid (ErrV l1 h1 wx (.iface et2 eu2) ez) ∧ Hid (W8x.heap.size ≤ bC ∧ (bC < l1 ∨ h1 ≤ bC)))
    case first =>
     have o := lh (Only.refl [] W8x)
     refine wp_region_held_drew (S := (fun wz => wz.cell? ⟨cb2, coff2 + k * 2, none⟩ = some (.int .i64 c.kind) ∧ wz.cell? ⟨cb2, coff2 + k * 2 + 1, none⟩ = some (.slice da2 c.data.length dcap2) ∧ wz.heap[w.heap.size]? = some (.cells #[.int .i64 prev.W, .int .i64 prev.H, .slice pa prev.pix.length pcap] 27 (0, 0)))) (by kernel_rfl) ?_ (fun hHeld => ?_)
     ·first | exact HS1.out _ (Only.refl _ _) | exact HS1.out _ (Only.refl _ _).drew
     refine tkw 0 66 ⟨rfl, qDFrLawt0⟩ ?_
     refine tkw 1 67 ⟨rfl, qDFrLawt0⟩ ?_
     refine tkw 2 68 ⟨rfl, qDFrLawt0⟩ ?_
     refine tkw 3 69 ⟨rfl, qDFrLawt0⟩ ?_
     refine tkw 4 70 ⟨rfl, qDFrLawt0⟩ ?_
     refine tkw 5 71 ⟨rfl, qDFrLawt0⟩ ?_
     refine tkw 6 72 ⟨rfl, qDFrLawt0⟩ ?_
     refine rdy (rdc 7 73 (fun K hK => ?_) (rdc 11 15 (fun K hK => ?_) .nil))
     ·go_simp
      go_at_call 11
      refine (HF1.out _ (by first | exact o.out | exact o.out.drew)).mono ?_
      rintro e v' ⟨hq, ev, rfl, hev⟩
      obtain ⟨et2, eu2, rfl⟩ := hev.held
      obtain ⟨l1, hl1⟩ : ∃ z, z = W8x.heap.size := ⟨_, rfl⟩
      obtain ⟨h1, hh1⟩ : ∃ z, z = v'.heap.size := ⟨_, rfl⟩
      have hKf : ErrV l1 h1 v' (.iface et2 eu2) ez := by rw [hl1, hh1]; exact hev
      have hKl : W8x.heap.size ≤ l1 := by omega
      have hKh : h1 ≤ v'.heap.size := by omega
      clear hev hl1 hh1
      have q : Only [] W8x v' := by first | exact hq | exact ((Only.refl _ _).drew).q hq
      have hVl : W8x.heap.size ≤ W8x.heap.size := o.out.size
      have HK := lh hKf
      have HKb : Hid (W8x.heap.size ≤ l1 ∧ h1 ≤ v'.heap.size) := lh ⟨by omega, hKh⟩
      replace o := lh (o.out.q q)
      clear hq q hKf hKl hKh hVl
      obtain ⟨v, rfl⟩ : ∃ z, z = v' := ⟨_, rfl⟩
      refine hK.out _ _ ?_ (fun hHeld => ?_)
      ·exact qDFrLaw8
      clear hK K
      refine tkw 8 65 ⟨rfl, qDFrLawt0⟩ ?_
      refine tkw 9 74 ⟨rfl, qDFrLawt0⟩ ?_
      refine tkw 10 75 ⟨rfl, qDFrLawt0⟩ ?_
      refine rdy (rdc 11 15 (fun K hK => ?_) .nil)
      go_simp
      generalize hW : World.alloc _ _ = v'
      have q : Only [] v v' := by rw [← hW]; first | exact Only.new _ _ | exact ((Only.refl _ _).drew).q (Only.new _ _)
      have HC : Hid (v'.heap[v.heap.size]? = some (.cells #[.int .i64 0, .int .i64 0, .slice none 0 0] 27 (0, 0))) := lh (by rw [← hW]; exact heap_alloc_new _ _)
      have hz : W8x.heap.size ≤ v.heap.size := o.out.size
      have HkC : Hid (W8x.heap.size ≤ v.heap.size ∧ (v.heap.size < l1 ∨ h1 ≤ v.heap.size)) := lh ⟨hz, .inr HKb.out.2⟩
      replace HK : Hid (ErrV l1 h1 v' (.iface et2 eu2) ez) := lh (HK.out.only q (by simp))
      replace HKb : Hid (W8x.heap.size ≤ l1 ∧ h1 ≤ v'.heap.size) := lh ⟨HKb.out.1, Nat.le_trans HKb.out.2 q.size⟩
      replace o := lh (o.out.q q)
      clear hW q
      generalize hb : v.heap.size = bC at HC HkC ⊢
      have HzC : Hid (W8x.heap.size ≤ bC) := lh (by rw [← hb]; exact hz)
      clear hb hz
      obtain ⟨v, rfl⟩ : ∃ z, z = v' := ⟨_, rfl⟩
      refine hK.out _ _ ?_ (fun hHeld => ?_)
      ·exact qDFrLaw8
      clear hK K
      exact qDFrLaw7
     ·go_simp
      generalize hW : World.alloc _ _ = v'
      have q : Only [] W8x v' := by rw [← hW]; first | exact Only.new _ _ | exact ((Only.refl _ _).drew).q (Only.new _ _)
      have HC : Hid (v'.heap[W8x.heap.size]? = some (.cells #[.int .i64 0, .int .i64 0, .slice none 0 0] 27 (0, 0))) := lh (by rw [← hW]; exact heap_alloc_new _ _)
      have hz : W8x.heap.size ≤ W8x.heap.size := o.out.size
      replace o := lh (o.out.q q)
      clear hW q
      generalize hb : W8x.heap.size = bC at HC ⊢
      have HzC : Hid (W8x.heap.size ≤ bC) := lh (by rw [← hb]; exact hz)
      clear hb hz
      obtain ⟨v, rfl⟩ : ∃ z, z = v' := ⟨_, rfl⟩
      refine hK.out _ _ ?_ (fun hHeld => ?_)
      ·exact qDFrLaw8
      clear hK K
      refine rdy (rdc 7 73 (fun K hK => ?_) .nil)
      go_simp
      go_at_call 11
      refine (HF1.out _ (by first | exact o.out | exact o.out.drew)).mono ?_
      rintro e v' ⟨hq, ev, rfl, hev⟩
      obtain ⟨et2, eu2, rfl⟩ := hev.held
      obtain ⟨l1, hl1⟩ : ∃ z, z = v.heap.size := ⟨_, rfl⟩
      obtain ⟨h1, hh1⟩ : ∃ z, z = v'.heap.size := ⟨_, rfl⟩
      have hKf : ErrV l1 h1 v' (.iface et2 eu2) ez := by rw [hl1, hh1]; exact hev
      have hKl : v.heap.size ≤ l1 := by omega
      have hKh : h1 ≤ v'.heap.size := by omega
      clear hev hl1 hh1
      have q : Only [] v v' := by first | exact hq | exact ((Only.refl _ _).drew).q hq
      have hVl : W8x.heap.size ≤ v.heap.size := o.out.size
      have HkC : Hid (W8x.heap.size ≤ bC ∧ (bC < l1 ∨ h1 ≤ bC)) := lh (by have := (Array.getElem?_eq_some_iff.1 HC.out).1; have := HzC.out; exact ⟨by omega, .inl (by omega)⟩)
      replace HC := lh (q.row HC.out)
      have HK := lh hKf
      have HKb : Hid (W8x.heap.size ≤ l1 ∧ h1 ≤ v'.heap.size) := lh ⟨by omega, hKh⟩
      replace o := lh (o.out.q q)
      clear hq q hKf hKl hKh hVl
      obtain ⟨v, rfl⟩ : ∃ z, z = v' := ⟨_, rfl⟩
      refine hK.out _ _ ?_ (fun hHeld => ?_)
      ·exact qDFrLaw8
      clear hK K
      refine tkw 8 65 ⟨rfl, qDFrLawt0⟩ ?_
      refine tkw 9 74 ⟨rfl, qDFrLawt0⟩ ?_
      refine tkw 10 75 ⟨rfl, qDFrLawt0⟩ ?_
      exact qDFrLaw7
    case rest =>
     obtain ⟨bC, l1, h1, et2, eu2, rfl, rfl, HOn1, HCr1, HKb1, HKr1, HkC1⟩ := hcut
     obtain ⟨W9x, hW9x⟩ : ∃ z, z = wc := ⟨_, rfl⟩
     subst hW9x
     have HS3 := lh (fun (wx : World) (o : Only [] W9x wx) => HS2.out wx (HOn1.out.q o))
     have HF3 := lh (fun (wx : World) (o : Only [] W9x wx) => HF2.out wx (HOn1.out.q o))
     go_upto_region 14 with (fail)
     go_cut [17, 18] (fun sA sE wx => ∃ (bA : Nat) (bE : Nat) (l2 : Nat) (h2 : Nat) (a3 : Option Addr) (cap3 : Nat), sA = .pointer (some ⟨bA, 0, none⟩) ∧ sE = .pointer (some ⟨bE, 0, none⟩) ∧ Hid (Only [] W9x wx) ∧ Hid (wx.heap[bA]? = some (.cells #[.int .i64 0, .int .i64 0, .slice none 0 0] 27 (0, 0))) ∧ Hid (wx.heap[bE]? = some (.cells #[.int .i64 ez.code, .slice a3 ez.path.length cap3] 45 (0, 0))) ∧ Hid (W9x.heap.size ≤ l2 ∧ h2 ≤ wx.heap.size) ∧ Hid (Cells 2 l2 h2 wx (.slice a3 ez.path.length cap3) ez.path.length (flat ez.path)) ∧ Hid (W9x.heap.size ≤ bA ∧ (bA < l2 ∨ h2 ≤ bA)) ∧ Hid (W9x.heap.size ≤ bE ∧ (bE < l2 ∨ h2 ≤ bE)))
     case first =>
      have o := lh (Only.refl [] W9x)
      refine wp_region_held_drew (S := (fun wz => wz.cell? ⟨cb, coff + k * 2, none⟩ = some (.int .i64 c.kind) ∧ wz.cell? ⟨cb, coff + k * 2 + 1, none⟩ = some (.slice da c.data.length dcap) ∧ wz.heap[w.heap.size]? = some (.cells #[.int .i64 prev.W, .int .i64 prev.H, .slice pa prev.pix.length pcap] 27 (0, 0)))) (by kernel_rfl) ?_ (fun hHeld => ?_)
      ·first | exact HS3.out _ (Only.refl _ _) | exact HS3.out _ (Only.refl _ _).drew
      refine tkw 0 77 ⟨rfl, qDFrLawt0⟩ ?_
      refine tkw 1 78 ⟨rfl, qDFrLawt0⟩ ?_
      refine tkw 2 79 ⟨rfl, qDFrLawt0⟩ ?_
      refine tkw 3 80 ⟨rfl, qDFrLawt0⟩ ?_
      refine tkw 4 81 ⟨rfl, qDFrLawt0⟩ ?_
      refine tkw 5 82 ⟨rfl, qDFrLawt0⟩ ?_
      refine tkw 6 83 ⟨rfl, qDFrLawt0⟩ ?_
      refine rdy (rdc 7 84 (fun K hK => ?_) (rdc 11 17 (fun K hK => ?_) (rdc 12 18 (fun K hK => ?_) .nil)))
      ·go_simp
       go_at_call 20
       refine (HF3.out _ (by first | exact o.out | exact o.out.drew)).mono ?_
       rintro e v' ⟨hq, sv, rfl, hcs⟩
       obtain ⟨_, a3, cap3, hsv, _⟩ := id hcs
       subst hsv
       obtain ⟨l2, hl2⟩ : ∃ z, z = W9x.heap.size := ⟨_, rfl⟩
       obtain ⟨h2, hh2⟩ : ∃ z, z = v'.heap.size := ⟨_, rfl⟩
       have hKf : Cells 2 l2 h2 v' (.slice a3 ez.path.length cap3) ez.path.length (flat ez.path) := by rw [hl2, hh2]; exact hcs
       have hKl : W9x.heap.size ≤ l2 := by omega
       have hKh : h2 ≤ v'.heap.size := by omega
       clear hcs hl2 hh2
       have q : Only [] W9x v' := by first | exact hq | exact ((Only.refl _ _).drew).q hq
       have hVl : W9x.heap.size ≤ W9x.heap.size := o.out.size
       have HK := lh hKf
       have HKb : Hid (W9x.heap.size ≤ l2 ∧ h2 ≤ v'.heap.size) := lh ⟨by omega, hKh⟩
       replace o := lh (o.out.q q)
       clear hq q hKf hKl hKh hVl
       obtain ⟨v, rfl⟩ : ∃ z, z = v' := ⟨_, rfl⟩
       refine hK.out _ _ ?_ (fun hHeld => ?_)
       ·exact qDFrLaw5
       clear hK K
       refine tkw 8 76 ⟨rfl, qDFrLawt0⟩ ?_
       refine tkw 9 85 ⟨rfl, qDFrLawt0⟩ ?_
       refine tkw 10 86 ⟨rfl, qDFrLawt0⟩ ?_
       refine rdy (rdc 11 17 (fun K hK => ?_) (rdc 12 18 (fun K hK => ?_) .nil))
       ·go_simp
        generalize hW : World.alloc _ _ = v'
        have q : Only [] v v' := by rw [← hW]; first | exact Only.new _ _ | exact ((Only.refl _ _).drew).q (Only.new _ _)
        have HA : Hid (v'.heap[v.heap.size]? = some (.cells #[.int .i64 0, .int .i64 0, .slice none 0 0] 27 (0, 0))) := lh (by rw [← hW]; exact heap_alloc_new _ _)
        have hz : W9x.heap.size ≤ v.heap.size := o.out.size
        have HkA : Hid (W9x.heap.size ≤ v.heap.size ∧ (v.heap.size < l2 ∨ h2 ≤ v.heap.size)) := lh ⟨hz, .inr HKb.out.2⟩
        replace HK : Hid (Cells 2 l2 h2 v' (.slice a3 ez.path.length cap3) ez.path.length (flat ez.path)) := lh (HK.out.only q (by simp))
        replace HKb : Hid (W9x.heap.size ≤ l2 ∧ h2 ≤ v'.heap.size) := lh ⟨HKb.out.1, Nat.le_trans HKb.out.2 q.size⟩
        replace o := lh (o.out.q q)
        clear hW q
        generalize hb : v.heap.size = bA at HA HkA ⊢
        have HzA : Hid (W9x.heap.size ≤ bA) := lh (by rw [← hb]; exact hz)
        clear hb hz
        obtain ⟨v, rfl⟩ : ∃ z, z = v' := ⟨_, rfl⟩
        refine hK.out _ _ ?_ (fun hHeld => ?_)
        ·exact qDFrLaw5
        clear hK K
        exact qDFrLaw13
       ·go_simp
        generalize hW : World.alloc _ _ = v'
        have q : Only [] v v' := by rw [← hW]; first | exact Only.new _ _ | exact ((Only.refl _ _).drew).q (Only.new _ _)
        have HE : Hid (v'.heap[v.heap.size]? = some (.cells #[.int .i64 0, .slice none 0 0] 45 (0, 0))) := lh (by rw [← hW]; exact heap_alloc_new _ _)
        have hz : W9x.heap.size ≤ v.heap.size := o.out.size
        have HkE : Hid (W9x.heap.size ≤ v.heap.size ∧ (v.heap.size < l2 ∨ h2 ≤ v.heap.size)) := lh ⟨hz, .inr HKb.out.2⟩
        replace HK : Hid (Cells 2 l2 h2 v' (.slice a3 ez.path.length cap3) ez.path.length (flat ez.path)) := lh (HK.out.only q (by simp))
        replace HKb : Hid (W9x.heap.size ≤ l2 ∧ h2 ≤ v'.heap.size) := lh ⟨HKb.out.1, Nat.le_trans HKb.out.2 q.size⟩
        replace o := lh (o.out.q q)
        clear hW q
        generalize hb : v.heap.size = bE at HE HkE ⊢
        have HzE : Hid (W9x.heap.size ≤ bE) := lh (by rw [← hb]; exact hz)
        clear hb hz
        obtain ⟨v, rfl⟩ : ∃ z, z = v' := ⟨_, rfl⟩
        refine hK.out _ _ ?_ (fun hHeld => ?_)
        ·exact qDFrLaw5
        clear hK K
        exact qDFrLaw12
      ·go_simp
       generalize hW : World.alloc _ _ = v'
       have q : Only [] W9x v' := by rw [← hW]; first | exact Only.new _ _ | exact ((Only.refl _ _).drew).q (Only.new _ _)
       have HA : Hid (v'.heap[W9x.heap.size]? = some (.cells #[.int .i64 0, .int .i64 0, .slice none 0 0] 27 (0, 0))) := lh (by rw [← hW]; exact heap_alloc_new _ _)
       have hz : W9x.heap.size ≤ W9x.heap.size := o.out.size
       replace o := lh (o.out.q q)
       clear hW q
       generalize hb : W9x.heap.size = bA at HA ⊢
       have HzA : Hid (W9x.heap.size ≤ bA) := lh (by rw [← hb]; exact hz)
       clear hb hz
       obtain ⟨v, rfl⟩ : ∃ z, z = v' := ⟨_, rfl⟩
       refine hK.out _ _ ?_ (fun hHeld => ?_)
       ·exact qDFrLaw5
       clear hK K
       refine rdy (rdc 7 84 (fun K hK => ?_) (rdc 12 18 (fun K hK => ?_) .nil))
       ·go_simp
        go_at_call 20
        refine (HF3.out _ (by first | exact o.out | exact o.out.drew)).mono ?_
        rintro e v' ⟨hq, sv, rfl, hcs⟩
        obtain ⟨_, a3, cap3, hsv, _⟩ := id hcs
        subst hsv
        obtain ⟨l2, hl2⟩ : ∃ z, z = v.heap.size := ⟨_, rfl⟩
        obtain ⟨h2, hh2⟩ : ∃ z, z = v'.heap.size := ⟨_, rfl⟩
        have hKf : Cells 2 l2 h2 v' (.slice a3 ez.path.length cap3) ez.path.length (flat ez.path) := by rw [hl2, hh2]; exact hcs
        have hKl : v.heap.size ≤ l2 := by omega
        have hKh : h2 ≤ v'.heap.size := by omega
        clear hcs hl2 hh2
        have q : Only [] v v' := by first | exact hq | exact ((Only.refl _ _).drew).q hq
        have hVl : W9x.heap.size ≤ v.heap.size := o.out.size
        have HkA : Hid (W9x.heap.size ≤ bA ∧ (bA < l2 ∨ h2 ≤ bA)) := lh (by have := (Array.getElem?_eq_some_iff.1 HA.out).1; have := HzA.out; exact ⟨by omega, .inl (by omega)⟩)
        replace HA := lh (q.row HA.out)
        have HK := lh hKf
        have HKb : Hid (W9x.heap.size ≤ l2 ∧ h2 ≤ v'.heap.size) := lh ⟨by omega, hKh⟩
        replace o := lh (o.out.q q)
        clear hq q hKf hKl hKh hVl
        obtain ⟨v, rfl⟩ : ∃ z, z = v' := ⟨_, rfl⟩
        refine hK.out _ _ ?_ (fun hHeld => ?_)
        ·exact qDFrLaw5
        clear hK K
        refine tkw 8 76 ⟨rfl, qDFrLawt0⟩ ?_
        refine tkw 9 85 ⟨rfl, qDFrLawt0⟩ ?_
        refine tkw 10 86 ⟨rfl, qDFrLawt0⟩ ?_
        exact qDFrLaw13
       ·go_simp
        generalize hW : World.alloc _ _ = v'
        have q : Only [] v v' := by rw [← hW]; first | exact Only.new _ _ | exact ((Only.refl _ _).drew).q (Only.new _ _)
        have HE : Hid (v'.heap[v.heap.size]? = some (.cells #[.int .i64 0, .slice none 0 0] 45 (0, 0))) := lh (by rw [← hW]; exact heap_alloc_new _ _)
        have hz : W9x.heap.size ≤ v.heap.size := o.out.size
        have HnAE : Hid (bA ≠ v.heap.size) := lh (by have := (Array.getElem?_eq_some_iff.1 HA.out).1; omega)
        replace HA := lh (q.row HA.out)
        replace o := lh (o.out.q q)
        clear hW q
        generalize hb : v.heap.size = bE at HE HnAE ⊢
        have HzE : Hid (W9x.heap.size ≤ bE) := lh (by rw [← hb]; exact hz)
        clear hb hz
        obtain ⟨v, rfl⟩ : ∃ z, z = v' := ⟨_, rfl⟩
        refine hK.out _ _ ?_ (fun hHeld => ?_)
        ·exact qDFrLaw5
        clear hK K
        refine rdy (rdc 7 84 (fun K hK => ?_) .nil)
        go_simp
        go_at_call 20
        refine (HF3.out _ (by first | exact o.out | exact o.out.drew)).mono ?_
        rintro e v' ⟨hq, sv, rfl, hcs⟩
        obtain ⟨_, a3, cap3, hsv, _⟩ := id hcs
        subst hsv
        obtain ⟨l2, hl2⟩ : ∃ z, z = v.heap.size := ⟨_, rfl⟩
        obtain ⟨h2, hh2⟩ : ∃ z, z = v'.heap.size := ⟨_, rfl⟩
        have hKf : Cells 2 l2 h2 v' (.slice a3 ez.path.length cap3) ez.path.length (flat ez.path) := by rw [hl2, hh2]; exact hcs
        have hKl : v.heap.size ≤ l2 := by omega
        have hKh : h2 ≤ v'.heap.size := by omega
        clear hcs hl2 hh2
        have q : Only [] v v' := by first | exact hq | exact ((Only.refl _ _).drew).q hq
        have hVl : W9x.heap.size ≤ v.heap.size := o.out.size
        have HkA : Hid (W9x.heap.size ≤ bA ∧ (bA < l2 ∨ h2 ≤ bA)) := lh (by have := (Array.getElem?_eq_some_iff.1 HA.out).1; have := HzA.out; exact ⟨by omega, .inl (by omega)⟩)
        have HkE : Hid (W9x.heap.size ≤ bE ∧ (bE < l2 ∨ h2 ≤ bE)) := lh (by have := (Array.getElem?_eq_some_iff.1 HE.out).1; have := HzE.out; exact ⟨by omega, .inl (by omega)⟩)
        replace HA := lh (q.row HA.out)
        replace HE := lh (q.row HE.out)
        have HK := lh hKf
        have HKb : Hid (W9x.heap.size ≤ l2 ∧ h2 ≤ v'.heap.size) := lh ⟨by omega, hKh⟩
        replace o := lh (o.out.q q)
        clear hq q hKf hKl hKh hVl
        obtain ⟨v, rfl⟩ : ∃ z, z = v' := ⟨_, rfl⟩
        refine hK.out _ _ ?_ (fun hHeld => ?_)
        ·exact qDFrLaw5
        clear hK K
        refine tkw 8 76 ⟨rfl, qDFrLawt0⟩ ?_
        refine tkw 9 85 ⟨rfl, qDFrLawt0⟩ ?_
        refine tkw 10 86 ⟨rfl, qDFrLawt0⟩ ?_
        exact qDFrLaw3
      ·go_simp
       generalize hW : World.alloc _ _ = v'
       have q : Only [] W9x v' := by rw [← hW]; first | exact Only.new _ _ | exact ((Only.refl _ _).drew).q (Only.new _ _)
       have HE : Hid (v'.heap[W9x.heap.size]? = some (.cells #[.int .i64 0, .slice none 0 0] 45 (0, 0))) := lh (by rw [← hW]; exact heap_alloc_new _ _)
       have hz : W9x.heap.size ≤ W9x.heap.size := o.out.size
       replace o := lh (o.out.q q)
       clear hW q
       generalize hb : W9x.heap.size = bE at HE ⊢
       have HzE : Hid (W9x.heap.size ≤ bE) := lh (by rw [← hb]; exact hz)
       clear hb hz
       obtain ⟨v, rfl⟩ : ∃ z, z = v' := ⟨_, rfl⟩
       refine hK.out _ _ ?_ (fun hHeld => ?_)
       ·exact qDFrLaw5
       clear hK K
       refine rdy (rdc 7 84 (fun K hK => ?_) (rdc 11 17 (fun K hK => ?_) .nil))
       ·go_simp
        go_at_call 20
        refine (HF3.out _ (by first | exact o.out | exact o.out.drew)).mono ?_
        rintro e v' ⟨hq, sv, rfl, hcs⟩
        obtain ⟨_, a3, cap3, hsv, _⟩ := id hcs
        subst hsv
        obtain ⟨l2, hl2⟩ : ∃ z, z = v.heap.size := ⟨_, rfl⟩
        obtain ⟨h2, hh2⟩ : ∃ z, z = v'.heap.size := ⟨_, rfl⟩
        have hKf : Cells 2 l2 h2 v' (.slice a3 ez.path.length cap3) ez.path.length (flat ez.path) := by rw [hl2, hh2]; exact hcs
        have hKl : v.heap.size ≤ l2 := by omega
        have hKh : h2 ≤ v'.heap.size := by omega
        clear hcs hl2 hh2
        have q : Only [] v v' := by first | exact hq | exact ((Only.refl _ _).drew).q hq
        have hVl : W9x.heap.size ≤ v.heap.size := o.out.size
        have HkE : Hid (W9x.heap.size ≤ bE ∧ (bE < l2 ∨ h2 ≤ bE)) := lh (by have := (Array.getElem?_eq_some_iff.1 HE.out).1; have := HzE.out; exact ⟨by omega, .inl (by omega)⟩)
        replace HE := lh (q.row HE.out)
        have HK := lh hKf
        have HKb : Hid (W9x.heap.size ≤ l2 ∧ h2 ≤ v'.heap.size) := lh ⟨by omega, hKh⟩
        replace o := lh (o.out.q q)
        clear hq q hKf hKl hKh hVl
        obtain ⟨v, rfl⟩ : ∃ z, z = v' := ⟨_, rfl⟩
        refine hK.out _ _ ?_ (fun hHeld => ?_)
        ·exact qDFrLaw5
        clear hK K
        refine tkw 8 76 ⟨rfl, qDFrLawt0⟩ ?_
        refine tkw 9 85 ⟨rfl, qDFrLawt0⟩ ?_
        refine tkw 10 86 ⟨rfl, qDFrLawt0⟩ ?_
        exact qDFrLaw12
       ·go_simp
        generalize hW : World.alloc _ _ = v'
        have q : Only [] v v' := by rw [← hW]; first | exact Only.new _ _ | exact ((Only.refl _ _).drew).q (Only.new _ _)
        have HA : Hid (v'.heap[v.heap.size]? = some (.cells #[.int .i64 0, .int .i64 0, .slice none 0 0] 27 (0, 0))) := lh (by rw [← hW]; exact heap_alloc_new _ _)
        have hz : W9x.heap.size ≤ v.heap.size := o.out.size
        have HnEA : Hid (bE ≠ v.heap.size) := lh (by have := (Array.getElem?_eq_some_iff.1 HE.out).1; omega)
        replace HE := lh (q.row HE.out)
        replace o := lh (o.out.q q)
        clear hW q
        generalize hb : v.heap.size = bA at HA HnEA ⊢
        have HzA : Hid (W9x.heap.size ≤ bA) := lh (by rw [← hb]; exact hz)
        clear hb hz
        obtain ⟨v, rfl⟩ : ∃ z, z = v' := ⟨_, rfl⟩
        refine hK.out _ _ ?_ (fun hHeld => ?_)
        ·exact qDFrLaw5
        clear hK K
        refine rdy (rdc 7 84 (fun K hK => ?_) .nil)
        go_simp
        go_at_call 20
        refine (HF3.out _ (by first | exact o.out | exact o.out.drew)).mono ?_
        rintro e v' ⟨hq, sv, rfl, hcs⟩
        obtain ⟨_, a3, cap3, hsv, _⟩ := id hcs
        subst hsv
        obtain ⟨l2, hl2⟩ : ∃ z, z = v.heap.size := ⟨_, rfl⟩
        obtain ⟨h2, hh2⟩ : ∃ z, z = v'.heap.size := ⟨_, rfl⟩
        have hKf : Cells 2 l2 h2 v' (.slice a3 ez.path.length cap3) ez.path.length (flat ez.path) := by rw [hl2, hh2]; exact hcs
        have hKl : v.heap.size ≤ l2 := by omega
        have hKh : h2 ≤ v'.heap.size := by omega
        clear hcs hl2 hh2
        have q : Only [] v v' := by first | exact hq | exact ((Only.refl _ _).drew).q hq
        have hVl : W9x.heap.size ≤ v.heap.size := o.out.size
        have HkA : Hid (W9x.heap.size ≤ bA ∧ (bA < l2 ∨ h2 ≤ bA)) := lh (by have := (Array.getElem?_eq_some_iff.1 HA.out).1; have := HzA.out; exact ⟨by omega, .inl (by omega)⟩)
        have HkE : Hid (W9x.heap.size ≤ bE ∧ (bE < l2 ∨ h2 ≤ bE)) := lh (by have := (Array.getElem?_eq_some_iff.1 HE.out).1; have := HzE.out; exact ⟨by omega, .inl (by omega)⟩)
        replace HA := lh (q.row HA.out)
        replace HE := lh (q.row HE.out)
        have HK := lh hKf
        have HKb : Hid (W9x.heap.size ≤ l2 ∧ h2 ≤ v'.heap.size) := lh ⟨by omega, hKh⟩
        replace o := lh (o.out.q q)
        clear hq q hKf hKl hKh hVl
        obtain ⟨v, rfl⟩ : ∃ z, z = v' := ⟨_, rfl⟩
        refine hK.out _ _ ?_ (fun hHeld => ?_)
        ·exact qDFrLaw5
        clear hK K
        refine tkw 8 76 ⟨rfl, qDFrLawt0⟩ ?_
        refine tkw 9 85 ⟨rfl, qDFrLawt0⟩ ?_
        refine tkw 10 86 ⟨rfl, qDFrLawt0⟩ ?_
        exact qDFrLaw4
     case rest =>
      obtain ⟨bA, bE, l2, h2, a3, cap3, rfl, rfl, HOn2, HAr, HEr, HKb2, HKr2, HkA, HkE⟩ := hcut
      have HCr2 := lh (HOn2.out.row HCr1.out)
      have HK12 := lh (HKr1.out.only HOn2.out (by simp))
      have HQz := lh ((HQw.out.q HOn1.out).q HOn2.out)
      obtain ⟨c0, c1, c2⟩ := frame_cells HCr2.out
      obtain ⟨a0, a1, a2⟩ := frame_cells HAr.out
      have hkf := kframe_any (A := frame0) (B := frame0) (Ints.nil .i64 0 0 wc : Ints .i64 0 0 wc (.slice none 0 0) frame0.pix) (Ints.nil .i64 0 0 wc : Ints .i64 0 0 wc (.slice none 0 0) frame0.pix)
      rw [frEq_refl] at hkf
      have HKf := lh hkf
      clear hkf
      go_wp2_with fail
      go_at_call 21
      refine HKf.out.mono ?_
      rintro e Wy ⟨rfl, hqy⟩
      have HQy := lh (HQz.out.q hqy)
      have HSy := lh hqy
      obtain ⟨e0, e1, -⟩ := row2 (hqy.row HEr.out)
      clear hqy c0 c1 c2 a0 a1 a2
      go_wp2_with fail
      go_at_call 18
      refine (same_any (o := some ez) (p := ez.path) (show OErrV _ _ Wy _ (some ez) from HK12.out.quiet HSy.out) (by have h1 := HKb1.out.2; have h2 := HOn2.out.size; have h3 := HSy.out.size; omega) (HE.out.quiet HQy.out) (by have := Hep2.out; omega) (HKr2.out.only HSy.out (by simp)) (by have := Hec2.out; simp [codeOf, this]) rfl rfl).mono ?_
      exact qDFrLaw9
   | ok f =>
    rw [hfr] at HF1 HF2
    have Hwh := lh (HBo.out.1 f hfr).2
    clear hfr HBo
    go_upto_region 13 with (fail)
    obtain ⟨W8x, hW8x⟩ : ∃ z, z = wr := ⟨_, rfl⟩
    subst hW8x
    go_cut [15, 16] (fun sC s16 wx => ∃ (bC : Nat) (kb : Nat) (kcap : Nat), sC = .pointer (some ⟨bC, 0, none⟩) ∧ s16 = .nilIface ∧ Hid (Only [] W8x wx) ∧ Hid (wx.heap[bC]? = some (.cells #[.int .i64 f.W, .int .i64 f.H, .slice (some ⟨kb, 0, none⟩) f.pix.length kcap] 27 (0, 0))) ∧ Hid (W8x.heap.size ≤ kb ∧ (kb + 1) ≤ wx.heap.size) ∧ Hid (Ints .i64 kb (kb + 1) wx (.slice (some ⟨kb, 0, none⟩) f.pix.length kcap) f.pix) ∧ Hid (W8x.heap.size ≤ bC ∧ (bC < kb ∨ (kb + 1) ≤ bC)))
    case first =>
     have o := lh (Only.refl [] W8x)
     refine wp_region_held_drew (S := (fun wz => wz.cell? ⟨cb2, coff2 + k * 2, none⟩ = some (.int .i64 c.kind) ∧ wz.cell? ⟨cb2, coff2 + k * 2 + 1, none⟩ = some (.slice da2 c.data.length dcap2) ∧ wz.heap[w.heap.size]? = some (.cells #[.int .i64 prev.W, .int .i64 prev.H, .slice pa prev.pix.length pcap] 27 (0, 0)))) (by kernel_rfl) ?_ (fun hHeld => ?_)
     ·first | exact HS1.out _ (Only.refl _ _) | exact HS1.out _ (Only.refl _ _).drew
     refine tkw 0 66 ⟨rfl, qDFrLawt0⟩ ?_
     refine tkw 1 67 ⟨rfl, qDFrLawt0⟩ ?_
     refine tkw 2 68 ⟨rfl, qDFrLawt0⟩ ?_
     refine tkw 3 69 ⟨rfl, qDFrLawt0⟩ ?_
     refine tkw 4 70 ⟨rfl, qDFrLawt0⟩ ?_
     refine tkw 5 71 ⟨rfl, qDFrLawt0⟩ ?_
     refine tkw 6 72 ⟨rfl, qDFrLawt0⟩ ?_
     refine rdy (rdc 7 73 (fun K hK => ?_) (rdc 11 15 (fun K hK => ?_) .nil))
     ·go_simp
      go_at_call 11
      refine (HF1.out _ (by first | exact o.out | exact o.out.drew)).mono ?_
      rintro e v' ⟨hq, kb, kcap, rfl, hown⟩
      have hKf : Ints .i64 kb (kb + 1) v' (.slice (some ⟨kb, 0, none⟩) f.pix.length kcap) f.pix := ints_nar hown.ints
      have hKl : W8x.heap.size ≤ kb := (hown.at kb rfl).1
      have hKh : kb + 1 ≤ v'.heap.size := (hown.at kb rfl).2
      clear hown
      have q : Only [] W8x v' := by first | exact hq | exact ((Only.refl _ _).drew).q hq
      have hVl : W8x.heap.size ≤ W8x.heap.size := o.out.size
      have HK := lh hKf
      have HKb : Hid (W8x.heap.size ≤ kb ∧ (kb + 1) ≤ v'.heap.size) := lh ⟨by omega, hKh⟩
      replace o := lh (o.out.q q)
      clear hq q hKf hKl hKh hVl
      obtain ⟨v, rfl⟩ : ∃ z, z = v' := ⟨_, rfl⟩
      refine hK.out _ _ ?_ (fun hHeld => ?_)
      ·exact qDFrLaw8
      clear hK K
      refine tkw 8 65 ⟨rfl, qDFrLawt0⟩ ?_
      refine tkw 9 74 ⟨rfl, qDFrLawt0⟩ ?_
      refine tkw 10 75 ⟨rfl, qDFrLawt0⟩ ?_
      refine rdy (rdc 11 15 (fun K hK => ?_) .nil)
      go_simp
      generalize hW : World.alloc _ _ = v'
      have q : Only [] v v' := by rw [← hW]; first | exact Only.new _ _ | exact ((Only.refl _ _).drew).q (Only.new _ _)
      have HC : Hid (v'.heap[v.heap.size]? = some (.cells #[.int .i64 0, .int .i64 0, .slice none 0 0] 27 (0, 0))) := lh (by rw [← hW]; exact heap_alloc_new _ _)
      have hz : W8x.heap.size ≤ v.heap.size := o.out.size
      have HkC : Hid (W8x.heap.size ≤ v.heap.size ∧ (v.heap.size < kb ∨ (kb + 1) ≤ v.heap.size)) := lh ⟨hz, .inr HKb.out.2⟩
      replace HK : Hid (Ints .i64 kb (kb + 1) v' (.slice (some ⟨kb, 0, none⟩) f.pix.length kcap) f.pix) := lh (HK.out.only q (by simp))
      replace HKb : Hid (W8x.heap.size ≤ kb ∧ (kb + 1) ≤ v'.heap.size) := lh ⟨HKb.out.1, Nat.le_trans HKb.out.2 q.size⟩
      replace o := lh (o.out.q q)
      clear hW q
      generalize hb : v.heap.size = bC at HC HkC ⊢
      have HzC : Hid (W8x.heap.size ≤ bC) := lh (by rw [← hb]; exact hz)
      clear hb hz
      obtain ⟨v, rfl⟩ : ∃ z, z = v' := ⟨_, rfl⟩
      refine hK.out _ _ ?_ (fun hHeld => ?_)
      ·exact qDFrLaw8
      clear hK K
      exact qDFrLaw6
     ·go_simp
      generalize hW : World.alloc _ _ = v'
      have q : Only [] W8x v' := by rw [← hW]; first | exact Only.new _ _ | exact ((Only.refl _ _).drew).q (Only.new _ _)
      have HC : Hid (v'.heap[W8x.heap.size]? = some (.cells #[.int .i64 0, .int .i64 0, .slice none 0 0] 27 (0, 0))) := lh (by rw [← hW]; exact heap_alloc_new _ _)
      have hz : W8x.heap.size ≤ W8x.heap.size := o.out.size
      replace o := lh (o.out.q q)
      clear hW q
      generalize hb : W8x.heap.size = bC at HC ⊢
      have HzC : Hid (W8x.heap.size ≤ bC) := lh (by rw [← hb]; exact hz)
      clear hb hz
      obtain ⟨v, rfl⟩ : ∃ z, z = v' := ⟨_, rfl⟩
      refine hK.out _ _ ?_ (fun hHeld => ?_)
      ·exact qDFrLaw8
      clear hK K
      refine rdy (rdc 7 73 (fun K hK => ?_) .nil)
      go_simp
      go_at_call 11
      refine (HF1.out _ (by first | exact o.out | exact o.out.drew)).mono ?_
      rintro e v' ⟨hq, kb, kcap, rfl, hown⟩
      have hKf : Ints .i64 kb (kb + 1) v' (.slice (some ⟨kb, 0, none⟩) f.pix.length kcap) f.pix := ints_nar hown.ints
      have hKl : v.heap.size ≤ kb := (hown.at kb rfl).1
      have hKh : kb + 1 ≤ v'.heap.size := (hown.at kb rfl).2
      clear hown
      have q : Only [] v v' := by first | exact hq | exact ((Only.refl _ _).drew).q hq
      have hVl : W8x.heap.size ≤ v.heap.size := o.out.size
      have HkC : Hid (W8x.heap.size ≤ bC ∧ (bC < kb ∨ (kb + 1) ≤ bC)) := lh (by have := (Array.getElem?_eq_some_iff.1 HC.out).1; have := HzC.out; exact ⟨by omega, .inl (by omega)⟩)
      replace HC := lh (q.row HC.out)
      have HK := lh hKf
      have HKb : Hid (W8x.heap.size ≤ kb ∧ (kb + 1) ≤ v'.heap.size) := lh ⟨by omega, hKh⟩
      replace o := lh (o.out.q q)
      clear hq q hKf hKl hKh hVl
      obtain ⟨v, rfl⟩ : ∃ z, z = v' := ⟨_, rfl⟩
      refine hK.out _ _ ?_ (fun hHeld => ?_)
      ·exact qDFrLaw8
      clear hK K
      refine tkw 8 65 ⟨rfl, qDFrLawt0⟩ ?_
      refine tkw 9 74 ⟨rfl, qDFrLawt0⟩ ?_
      refine tkw 10 75 ⟨rfl, qDFrLawt0⟩ ?_
      exact qDFrLaw6
    case rest =>
     obtain ⟨bC, kb, kcap, rfl, rfl, HOn1, HCr1, HKb1, HKr1, HkC1⟩ := hcut
     obtain ⟨W9x, hW9x⟩ : ∃ z, z = wc := ⟨_, rfl⟩
     subst hW9x
     have HS3 := lh (fun (wx : World) (o : Only [] W9x wx) => HS2.out wx (HOn1.out.q o))
     have HF3 := lh (fun (wx : World) (o : Only [] W9x wx) => HF2.out wx (HOn1.out.q o))
     go_upto_region 14 with (fail)
     go_cut [17, 18] (fun sA sE wx => ∃ (bA : Nat) (bE : Nat) (jb : Nat) (jcap : Nat), sA = .pointer (some ⟨bA, 0, none⟩) ∧ sE = .pointer (some ⟨bE, 0, none⟩) ∧ Hid (Only [] W9x wx) ∧ Hid (wx.heap[bA]? = some (.cells #[.int .i64 f.W, .int .i64 f.H, .slice (some ⟨jb, 0, none⟩) f.pix.length jcap] 27 (0, 0))) ∧ Hid (wx.heap[bE]? = some (.cells #[.int .i64 0, .slice none 0 0] 45 (0, 0))) ∧ Hid (W9x.heap.size ≤ jb ∧ (jb + 1) ≤ wx.heap.size) ∧ Hid (Ints .i64 jb (jb + 1) wx (.slice (some ⟨jb, 0, none⟩) f.pix.length jcap) f.pix) ∧ Hid (W9x.heap.size ≤ bA ∧ (bA < jb ∨ (jb + 1) ≤ bA)) ∧ Hid (W9x.heap.size ≤ bE ∧ (bE < jb ∨ (jb + 1) ≤ bE)))
     case first =>
      have o := lh (Only.refl [] W9x)
      refine wp_region_held_drew (S := (fun wz => wz.cell? ⟨cb, coff + k * 2, none⟩ = some (.int .i64 c.kind) ∧ wz.cell? ⟨cb, coff + k * 2 + 1, none⟩ = some (.slice da c.data.length dcap) ∧ wz.heap[w.heap.size]? = some (.cells #[.int .i64 prev.W, .int .i64 prev.H, .slice pa prev.pix.length pcap] 27 (0, 0)))) (by kernel_rfl) ?_ (fun hHeld => ?_)
      ·first | exact HS3.out _ (Only.refl _ _) | exact HS3.out _ (Only.refl _ _).drew
      refine tkw 0 77 ⟨rfl, qDFrLawt0⟩ ?_
      refine tkw 1 78 ⟨rfl, qDFrLawt0⟩ ?_
      refine tkw 2 79 ⟨rfl, qDFrLawt0⟩ ?_
      refine tkw 3 80 ⟨rfl, qDFrLawt0⟩ ?_
      refine tkw 4 81 ⟨rfl, qDFrLawt0⟩ ?_
      refine tkw 5 82 ⟨rfl, qDFrLawt0⟩ ?_
      refine tkw 6 83 ⟨rfl, qDFrLawt0⟩ ?_
      refine rdy (rdc 7 84 (fun K hK => ?_) (rdc 11 17 (fun K hK => ?_) (rdc 12 18 (fun K hK => ?_) .nil)))
      ·go_simp
       go_at_call 20
       refine (HF3.out _ (by first | exact o.out | exact o.out.drew)).mono ?_
       rintro e v' ⟨hq, jb, jcap, rfl, hown⟩
       have hKf : Ints .i64 jb (jb + 1) v' (.slice (some ⟨jb, 0, none⟩) f.pix.length jcap) f.pix := ints_nar hown.ints
       have hKl : W9x.heap.size ≤ jb := (hown.at jb rfl).1
       have hKh : jb + 1 ≤ v'.heap.size := (hown.at jb rfl).2
       clear hown
       have q : Only [] W9x v' := by first | exact hq | exact ((Only.refl _ _).drew).q hq
       have hVl : W9x.heap.size ≤ W9x.heap.size := o.out.size
       have HK := lh hKf
       have HKb : Hid (W9x.heap.size ≤ jb ∧ (jb + 1) ≤ v'.heap.size) := lh ⟨by omega, hKh⟩
       replace o := lh (o.out.q q)
       clear hq q hKf hKl hKh hVl
       obtain ⟨v, rfl⟩ : ∃ z, z = v' := ⟨_, rfl⟩
       refine hK.out _ _ ?_ (fun hHeld => ?_)
       ·exact qDFrLaw5
       clear hK K
       refine tkw 8 76 ⟨rfl, qDFrLawt0⟩ ?_
       refine tkw 9 85 ⟨rfl, qDFrLawt0⟩ ?_
       refine tkw 10 86 ⟨rfl, qDFrLawt0⟩ ?_
       refine rdy (rdc 11 17 (fun K hK => ?_) (rdc 12 18 (fun K hK => ?_) .nil))
       ·go_simp
        generalize hW : World.alloc _ _ = v'
        have q : Only [] v v' := by rw [← hW]; first | exact Only.new _ _ | exact ((Only.refl _ _).drew).q (Only.new _ _)
        have HA : Hid (v'.heap[v.heap.size]? = some (.cells #[.int .i64 0, .int .i64 0, .slice none 0 0] 27 (0, 0))) := lh (by rw [← hW]; exact heap_alloc_new _ _)
        have hz : W9x.heap.size ≤ v.heap.size := o.out.size
        have HkA : Hid (W9x.heap.size ≤ v.heap.size ∧ (v.heap.size < jb ∨ (jb + 1) ≤ v.heap.size)) := lh ⟨hz, .inr HKb.out.2⟩
        replace HK : Hid (Ints .i64 jb (jb + 1) v' (.slice (some ⟨jb, 0, none⟩) f.pix.length jcap) f.pix) := lh (HK.out.only q (by simp))
        replace HKb : Hid (W9x.heap.size ≤ jb ∧ (jb + 1) ≤ v'.heap.size) := lh ⟨HKb.out.1, Nat.le_trans HKb.out.2 q.size⟩
        replace o := lh (o.out.q q)
        clear hW q
        generalize hb : v.heap.size = bA at HA HkA ⊢
        have HzA : Hid (W9x.heap.size ≤ bA) := lh (by rw [← hb]; exact hz)
        clear hb hz
        obtain ⟨v, rfl⟩ : ∃ z, z = v' := ⟨_, rfl⟩
        refine hK.out _ _ ?_ (fun hHeld => ?_)
        ·exact qDFrLaw5
        clear hK K
        exact qDFrLaw11
       ·go_simp
        generalize hW : World.alloc _ _ = v'
        have q : Only [] v v' := by rw [← hW]; first | exact Only.new _ _ | exact ((Only.refl _ _).drew).q (Only.new _ _)
        have HE : Hid (v'.heap[v.heap.size]? = some (.cells #[.int .i64 0, .slice none 0 0] 45 (0, 0))) := lh (by rw [← hW]; exact heap_alloc_new _ _)
        have hz : W9x.heap.size ≤ v.heap.size := o.out.size
        have HkE : Hid (W9x.heap.size ≤ v.heap.size ∧ (v.heap.size < jb ∨ (jb + 1) ≤ v.heap.size)) := lh ⟨hz, .inr HKb.out.2⟩
        replace HK : Hid (Ints .i64 jb (jb + 1) v' (.slice (some ⟨jb, 0, none⟩) f.pix.length jcap) f.pix) := lh (HK.out.only q (by simp))
        replace HKb : Hid (W9x.heap.size ≤ jb ∧ (jb + 1) ≤ v'.heap.size) := lh ⟨HKb.out.1, Nat.le_trans HKb.out.2 q.size⟩
        replace o := lh (o.out.q q)
        clear hW q
        generalize hb : v.heap.size = bE at HE HkE ⊢
        have HzE : Hid (W9x.heap.size ≤ bE) := lh (by rw [← hb]; exact hz)
        clear hb hz
        obtain ⟨v, rfl⟩ : ∃ z, z = v' := ⟨_, rfl⟩
        refine hK.out _ _ ?_ (fun hHeld => ?_)
        ·exact qDFrLaw5
        clear hK K
        exact qDFrLaw10
      ·go_simp
       generalize hW : World.alloc _ _ = v'
       have q : Only [] W9x v' := by rw [← hW]; first | exact Only.new _ _ | exact ((Only.refl _ _).drew).q (Only.new _ _)
       have HA : Hid (v'.heap[W9x.heap.size]? = some (.cells #[.int .i64 0, .int .i64 0, .slice none 0 0] 27 (0, 0))) := lh (by rw [← hW]; exact heap_alloc_new _ _)
       have hz : W9x.heap.size ≤ W9x.heap.size := o.out.size
       replace o := lh (o.out.q q)
       clear hW q
       generalize hb : W9x.heap.size = bA at HA ⊢
       have HzA : Hid (W9x.heap.size ≤ bA) := lh (by rw [← hb]; exact hz)
       clear hb hz
       obtain ⟨v, rfl⟩ : ∃ z, z = v' := ⟨_, rfl⟩
       refine hK.out _ _ ?_ (fun hHeld => ?_)
       ·exact qDFrLaw5
       clear hK K
       refine rdy (rdc 7 84 (fun K hK => ?_) (rdc 12 18 (fun K hK => ?_) .nil))
       ·go_simp
        go_at_call 20
        refine (HF3.out _ (by first | exact o.out | exact o.out.drew)).mono ?_
        rintro e v' ⟨hq, jb, jcap, rfl, hown⟩
        have hKf : Ints .i64 jb (jb + 1) v' (.slice (some ⟨jb, 0, none⟩) f.pix.length jcap) f.pix := ints_nar hown.ints
        have hKl : v.heap.size ≤ jb := (hown.at jb rfl).1
        have hKh : jb + 1 ≤ v'.heap.size := (hown.at jb rfl).2
        clear hown
        have q : Only [] v v' := by first | exact hq | exact ((Only.refl _ _).drew).q hq
        have hVl : W9x.heap.size ≤ v.heap.size := o.out.size
        have HkA : Hid (W9x.heap.size ≤ bA ∧ (bA < jb ∨ (jb + 1) ≤ bA)) := lh (by have := (Array.getElem?_eq_some_iff.1 HA.out).1; have := HzA.out; exact ⟨by omega, .inl (by omega)⟩)
        replace HA := lh (q.row HA.out)
        have HK := lh hKf
        have HKb : Hid (W9x.heap.size ≤ jb ∧ (jb + 1) ≤ v'.heap.size) := lh ⟨by omega, hKh⟩
        replace o := lh (o.out.q q)
        clear hq q hKf hKl hKh hVl
        obtain ⟨v, rfl⟩ : ∃ z, z = v' := ⟨_, rfl⟩
        refine hK.out _ _ ?_ (fun hHeld => ?_)
        ·exact qDFrLaw5
        clear hK K
        refine tkw 8 76 ⟨rfl, qDFrLawt0⟩ ?_
        refine tkw 9 85 ⟨rfl, qDFrLawt0⟩ ?_
        refine tkw 10 86 ⟨rfl, qDFrLawt0⟩ ?_
        exact qDFrLaw11
       ·go_simp
        generalize hW : World.alloc _ _ = v'
        have q : Only [] v v' := by rw [← hW]; first | exact Only.new _ _ | exact ((Only.refl _ _).drew).q (Only.new _ _)
        have HE : Hid (v'.heap[v.heap.size]? = some (.cells #[.int .i64 0, .slice none 0 0] 45 (0, 0))) := lh (by rw [← hW]; exact heap_alloc_new _ _)
        have hz : W9x.heap.size ≤ v.heap.size := o.out.size
        have HnAE : Hid (bA ≠ v.heap.size) := lh (by have := (Array.getElem?_eq_some_iff.1 HA.out).1; omega)
        replace HA := lh (q.row HA.out)
        replace o := lh (o.out.q q)
        clear hW q
        generalize hb : v.heap.size = bE at HE HnAE ⊢
        have HzE : Hid (W9x.heap.size ≤ bE) := lh (by rw [← hb]; exact hz)
        clear hb hz
        obtain ⟨v, rfl⟩ : ∃ z, z = v' := ⟨_, rfl⟩
        refine hK.out _ _ ?_ (fun hHeld => ?_)
        ·exact qDFrLaw5
        clear hK K
        refine rdy (rdc 7 84 (fun K hK => ?_) .nil)
        go_simp
        go_at_call 20
        refine (HF3.out _ (by first | exact o.out | exact o.out.drew)).mono ?_
        rintro e v' ⟨hq, jb, jcap, rfl, hown⟩
        have hKf : Ints .i64 jb (jb + 1) v' (.slice (some ⟨jb, 0, none⟩) f.pix.length jcap) f.pix := ints_nar hown.ints
        have hKl : v.heap.size ≤ jb := (hown.at jb rfl).1
        have hKh : jb + 1 ≤ v'.heap.size := (hown.at jb rfl).2
        clear hown
        have q : Only [] v v' := by first | exact hq | exact ((Only.refl _ _).drew).q hq
        have hVl : W9x.heap.size ≤ v.heap.size := o.out.size
        have HkA : Hid (W9x.heap.size ≤ bA ∧ (bA < jb ∨ (jb + 1) ≤ bA)) := lh (by have := (Array.getElem?_eq_some_iff.1 HA.out).1; have := HzA.out; exact ⟨by omega, .inl (by omega)⟩)
        have HkE : Hid (W9x.heap.size ≤ bE ∧ (bE < jb ∨ (jb + 1) ≤ bE)) := lh (by have := (Array.getElem?_eq_some_iff.1 HE.out).1; have := HzE.out; exact ⟨by omega, .inl (by omega)⟩)
        replace HA := lh (q.row HA.out)
        replace HE := lh (q.row HE.out)
        have HK := lh hKf
        have HKb : Hid (W9x.heap.size ≤ jb ∧ (jb + 1) ≤ v'.heap.size) := lh ⟨by omega, hKh⟩
        replace o := lh (o.out.q q)
        clear hq q hKf hKl hKh hVl
        obtain ⟨v, rfl⟩ : ∃ z, z = v' := ⟨_, rfl⟩
        refine hK.out _ _ ?_ (fun hHeld => ?_)
        ·exact qDFrLaw5
        clear hK K
        refine tkw 8 76 ⟨rfl, qDFrLawt0⟩ ?_
        refine tkw 9 85 ⟨rfl, qDFrLawt0⟩ ?_
        refine tkw 10 86 ⟨rfl, qDFrLawt0⟩ ?_
        exact qDFrLaw1
      ·go_simp
       generalize hW : World.alloc _ _ = v'
       have q : Only [] W9x v' := by rw [← hW]; first | exact Only.new _ _ | exact ((Only.refl _ _).drew).q (Only.new _ _)
       have HE : Hid (v'.heap[W9x.heap.size]? = some (.cells #[.int .i64 0, .slice none 0 0] 45 (0, 0))) := lh (by rw [← hW]; exact heap_alloc_new _ _)
       have hz : W9x.heap.size ≤ W9x.heap.size := o.out.size
       replace o := lh (o.out.q q)
       clear hW q
       generalize hb : W9x.heap.size = bE at HE ⊢
       have HzE : Hid (W9x.heap.size ≤ bE) := lh (by rw [← hb]; exact hz)
       clear hb hz
       obtain ⟨v, rfl⟩ : ∃ z, z = v' := ⟨_, rfl⟩
       refine hK.out _ _ ?_ (fun hHeld => ?_)
       ·exact qDFrLaw5
       clear hK K
       refine rdy (rdc 7 84 (fun K hK => ?_) (rdc 11 17 (fun K hK => ?_) .nil))
       ·go_simp
        go_at_call 20
        refine (HF3.out _ (by first | exact o.out | exact o.out.drew)).mono ?_
        rintro e v' ⟨hq, jb, jcap, rfl, hown⟩
        have hKf : Ints .i64 jb (jb + 1) v' (.slice (some ⟨jb, 0, none⟩) f.pix.length jcap) f.pix := ints_nar hown.ints
        have hKl : v.heap.size ≤ jb := (hown.at jb rfl).1
        have hKh : jb + 1 ≤ v'.heap.size := (hown.at jb rfl).2
        clear hown
        have q : Only [] v v' := by first | exact hq | exact ((Only.refl _ _).drew).q hq
        have hVl : W9x.heap.size ≤ v.heap.size := o.out.size
        have HkE : Hid (W9x.heap.size ≤ bE ∧ (bE < jb ∨ (jb + 1) ≤ bE)) := lh (by have := (Array.getElem?_eq_some_iff.1 HE.out).1; have := HzE.out; exact ⟨by omega, .inl (by omega)⟩)
        replace HE := lh (q.row HE.out)
        have HK := lh hKf
        have HKb : Hid (W9x.heap.size ≤ jb ∧ (jb + 1) ≤ v'.heap.size) := lh ⟨by omega, hKh⟩
        replace o := lh (o.out.q q)
        clear hq q hKf hKl hKh hVl
        obtain ⟨v, rfl⟩ : ∃ z, z = v' := ⟨_, rfl⟩
        refine hK.out _ _ ?_ (fun hHeld => ?_)
        ·exact qDFrLaw5
        clear hK K
        refine tkw 8 76 ⟨rfl, qDFrLawt0⟩ ?_
        refine tkw 9 85 ⟨rfl, qDFrLawt0⟩ ?_
        refine tkw 10 86 ⟨rfl, qDFrLawt0⟩ ?_
        exact qDFrLaw10
       ·go_simp
        generalize hW : World.alloc _ _ = v'
        have q : Only [] v v' := by rw [← hW]; first | exact Only.new _ _ | exact ((Only.refl _ _).drew).q (Only.new _ _)
        have HA : Hid (v'.heap[v.heap.size]? = some (.cells #[.int .i64 0, .int .i64 0, .slice none 0 0] 27 (0, 0))) := lh (by rw [← hW]; exact heap_alloc_new _ _)
        have hz : W9x.heap.size ≤ v.heap.size := o.out.size
        have HnEA : Hid (bE ≠ v.heap.size) := lh (by have := (Array.getElem?_eq_some_iff.1 HE.out).1; omega)
        replace HE := lh (q.row HE.out)
        replace o := lh (o.out.q q)
        clear hW q
        generalize hb : v.heap.size = bA at HA HnEA ⊢
        have HzA : Hid (W9x.heap.size ≤ bA) := lh (by rw [← hb]; exact hz)
        clear hb hz
        obtain ⟨v, rfl⟩ : ∃ z, z = v' := ⟨_, rfl⟩
        refine hK.out _ _ ?_ (fun hHeld => ?_)
        ·exact qDFrLaw5
        clear hK K
        refine rdy (rdc 7 84 (fun K hK => ?_) .nil)
        go_simp
        go_at_call 20
        refine (HF3.out _ (by first | exact o.out | exact o.out.drew)).mono ?_
        rintro e v' ⟨hq, jb, jcap, rfl, hown⟩
        have hKf : Ints .i64 jb (jb + 1) v' (.slice (some ⟨jb, 0, none⟩) f.pix.length jcap) f.pix := ints_nar hown.ints
        have hKl : v.heap.size ≤ jb := (hown.at jb rfl).1
        have hKh : jb + 1 ≤ v'.heap.size := (hown.at jb rfl).2
        clear hown
        have q : Only [] v v' := by first | exact hq | exact ((Only.refl _ _).drew).q hq
        have hVl : W9x.heap.size ≤ v.heap.size := o.out.size
        have HkA : Hid (W9x.heap.size ≤ bA ∧ (bA < jb ∨ (jb + 1) ≤ bA)) := lh (by have := (Array.getElem?_eq_some_iff.1 HA.out).1; have := HzA.out; exact ⟨by omega, .inl (by omega)⟩)
        have HkE : Hid (W9x.heap.size ≤ bE ∧ (bE < jb ∨ (jb + 1) ≤ bE)) := lh (by have := (Array.getElem?_eq_some_iff.1 HE.out).1; have := HzE.out; exact ⟨by omega, .inl (by omega)⟩)
        replace HA := lh (q.row HA.out)
        replace HE := lh (q.row HE.out)
        have HK := lh hKf
        have HKb : Hid (W9x.heap.size ≤ jb ∧ (jb + 1) ≤ v'.heap.size) := lh ⟨by omega, hKh⟩
        replace o := lh (o.out.q q)
        clear hq q hKf hKl hKh hVl
        obtain ⟨v, rfl⟩ : ∃ z, z = v' := ⟨_, rfl⟩
        refine hK.out _ _ ?_ (fun hHeld => ?_)
        ·exact qDFrLaw5
        clear hK K
        refine tkw 8 76 ⟨rfl, qDFrLawt0⟩ ?_
        refine tkw 9 85 ⟨rfl, qDFrLawt0⟩ ?_
        refine tkw 10 86 ⟨rfl, qDFrLawt0⟩ ?_
        exact qDFrLaw2
     case rest =>
      obtain ⟨bA, bE, jb, jcap, rfl, rfl, HOn2, HAr, HEr, HKb2, HKr2, HkA, HkE⟩ := hcut
      have HCr2 := lh (HOn2.out.row HCr1.out)
      have HK12 := lh (HKr1.out.only HOn2.out (by simp))
      have HQz := lh ((HQw.out.q HOn1.out).q HOn2.out)
      obtain ⟨c0, c1, c2⟩ := frame_cells HCr2.out
      obtain ⟨a0, a1, a2⟩ := frame_cells HAr.out
      have hkf := kframe_any (A := f) (B := f) HK12.out HKr2.out
      rw [frEq_refl] at hkf
      have HKf := lh hkf
      clear hkf
      go_wp2_with fail
      go_at_call 21
      refine HKf.out.mono ?_
      rintro e Wy ⟨rfl, hqy⟩
      have HQy := lh (HQz.out.q hqy)
      have HSy := lh hqy
      obtain ⟨e0, e1, -⟩ := row2 (hqy.row HEr.out)
      clear hqy c0 c1 c2 a0 a1 a2
      go_wp2_with fail
      go_at_call 18
      refine (same_any (lo := 0) (hi := 0) (v := .nilIface) (o := none) (c := 0) (p := []) (sv := .slice none 0 0) (lo' := 0) (hi' := 0) (w := Wy) rfl (Nat.zero_le _) (HE.out.quiet HQy.out) (by simp) (Cells.nil 2 0 0 Wy) rfl rfl rfl).mono ?_
      exact qDFrLaw9
  ·obtain rfl : k = l.length := by omega
   have hki : ¬ (l.length : Int) < (l.length : Int) := by omega
   have HQe := lh (HQa.out.q HQk.out)
   go_wp2_with fail
   go_at_call 9
   refine (HGo.out _ HQe.out).mono ?_
   rintro e wl ⟨rfl, hql⟩
   have HQl := lh ((HQe.out : Only [] w _).q hql)
   clear hql
   go_wp2_with fail
   exact HPost.out _ _ ⟨rfl, HQl.out⟩) : p := h
theorem dframes_law {v pv : Value} {w : World} {l : List Coded} {prev : FrameD} (hl : CodedsAt 0 w.heap.size w v l) (hp : Ints .i64 0 w.heap.size w pv prev.pix) (W H : Int) (hE : ErrT w) :
  Calls Tryz.prog 4 #[v, .agg #[.int .i64 prev.W, .int .i64 prev.H, pv], .int .i64 W, .int .i64 H] w fun e w' => (e = .returned (.bool true) ∧ Only [] w w') := by
 refine hidQ fun Q HPost => ?_
 obtain ⟨a, cap, rfl, hcap, hmax, hel⟩ := hl.open
 have Hel := lh hel
 have hll : (l.length : Int) ≤ 9223372036854775807 := by unfold maxLen at hmax; omega
 obtain ⟨pa, pcap, rfl, -⟩ := hp.open
 have hq1 := Only.new w (.cells #[.int .i64 prev.W, .int .i64 prev.H, .slice pa prev.pix.length pcap] 27)
 have HB1 : Hid ((w.alloc (.cells #[.int .i64 prev.W, .int .i64 prev.H, .slice pa prev.pix.length pcap] 27)).heap[w.heap.size]? = some (.cells #[.int .i64 prev.W, .int .i64 prev.H, .slice pa prev.pix.length pcap] 27 (0, 0))) := lh (heap_alloc_new w _)
 have HQ1 := lh hq1
 have HL := lh hl
 have HP := lh hp
 have HE := lh hE
 have HDt := lh (codeds_data hl)
 clear hl hp hE hq1 hmax hcap hel
 go_enter Tryz.func4, Tryz.ntmps4
 go_wp2_with fail
 generalize hW1 : World.alloc w _ = W1 at *
 clear hW1
 go_at_call 9
 refine (dfirst_any W1 (HE.out.quiet HQ1.out)).mono ?_
 rintro e W2 ⟨rfl, hq2⟩
 have HQ2 := lh (HQ1.out.q hq2)
 have HB2 := lh (hq2.row HB1.out)
 obtain ⟨p0, p1, p2⟩ := frame_cells HB2.out
 clear hq2
 go_wp2_with fail
 clear p0 p1 p2
 have hf1 := frames_one (W := W2) (f := prev) (B := W2.heap.size) rfl (HP.out.quiet HQ2.out)
 have hn3 := Only.new W2 (.cells #[.int .i64 prev.W, .int .i64 prev.H, .slice pa prev.pix.length pcap] 27)
 have HFew := lh (dfew_any (HL.out.quiet (HQ2.out.q hn3)) hf1)
 have HQ3 := lh (HQ2.out.q hn3)
 have HB3 := lh (hn3.row HB2.out)
 clear hf1 hn3
 generalize hW3 : World.alloc W2 _ = W3 at *
 clear hW3
 go_at_call 10
 refine HFew.out.mono ?_
 rintro e w' ⟨rfl, rfl⟩
 have HGo : Hid (∀ W5, Only [] w W5 → Calls Tryz.prog 9 #[] W5 fun e w' => e = .returned (.bool true) ∧ Only [] W5 w') := lh (fun W5 o => dfirst_any W5 (HE.out.quiet o))
 cases hfew : fewB l && pixB [prev] with
 | false =>
  clear hfew
  go_wp2_with fail
  go_at_call 9
  refine (HGo.out _ HQ3.out).mono ?_
  rintro e wl ⟨rfl, hql⟩
  have HQl := lh ((HQ3.out : Only [] w _).q hql)
  clear hql
  go_wp2_with fail
  exact HPost.out _ _ ⟨rfl, HQl.out⟩
 | true =>
  rw [Bool.and_eq_true] at hfew
  have hl40 : l.length ≤ 40 := few_len hfew.1
  have Hdl := lh (few_data hfew.1)
  have Hl40 := lh hl40
  clear hfew
  have hcp := kcopyc_any (HL.out.quiet HQ3.out) hl40 Hdl.out
  have HCp := lh hcp
  clear hcp hl40
  go_wp2_with fail
  go_at_call 14
  refine HCp.out.mono ?_
  rintro e W4 ⟨⟨ca, ccap, rfl, hcd⟩, hq4⟩
  have HCd := lh hcd
  have HQ4 := lh (HQ3.out.q hq4)
  have HB4 := lh (hq4.row HB3.out)
  obtain ⟨ca', ccap', hce, -, hmax, hel⟩ := hcd.open
  injection hce with hc1 hc2 hc3
  subst hc1
  subst hc3
  have Hel2 := lh hel
  clear hcd hq4 hc2 hel hmax
  have HFs := lh (frames_any W H HCd.out)
  have HKs := lh (fun (wx : World) (o : Only [] w wx) => kdframes_any W H (HL.out.quiet o) Hdl.out)
  cases hfs : framesD l W H with
  | error er =>
   have H44 := lh (Only.refl [] W4)
   rw [hfs] at HFs HKs
   have hde := framesD_err HDt.out hfs
   have Hec := lh hde.1
   have Hep := lh hde.2
   clear hde
   clear hfs
   go_wp2_with fail
   go_at_call 15
   refine HFs.out.mono ?_
   rintro e W5 ⟨hq5, hm5⟩
   obtain ⟨ev, rfl, hev⟩ := hm5
   obtain ⟨et, eu, rfl⟩ := hev.held
   have HV5 := lh hev
   clear hev
   have HQ5 := lh (HQ4.out.q hq5)
   have H45 := lh (H44.out.q hq5)
   have HB5 := lh (hq5.row HB4.out)
   have HC5 := lh (HCd.out.quiet hq5)
   have HS5 := lh hq5
   clear hq5
   go_wp2_with fail
   go_at_call 16
   refine (HKs.out _ HQ5.out).mono ?_
   rintro e W6 ⟨hq6, hm6⟩
   obtain ⟨sv, rfl, hcs6⟩ := hm6
   obtain ⟨_, a1, cap1, hsv, _⟩ := id hcs6
   subst hsv
   have hn7 := Only.new W6 (.cells #[.int .i64 er.code, .slice a1 er.path.length cap1] 45)
   have hq7 := hq6.q hn7
   have HE7 : Hid ((W6.alloc (.cells #[.int .i64 er.code, .slice a1 er.path.length cap1] 45)).heap[W6.heap.size]? = some (.cells #[.int .i64 er.code, .slice a1 er.path.length cap1] 45 (0, 0))) := lh (heap_alloc_new W6 _)
   have HQ7 := lh (HQ5.out.q hq7)
   have H47 := lh (H45.out.q hq7)
   have HB7 := lh (hq7.row HB5.out)
   have HC7 := lh (HC5.out.quiet hq7)
   have HV7 := lh (HV5.out.quiet hq7)
   have HS7 := lh (hcs6.only hn7 (by simp))
   have HSz := lh (show W5.heap.size ≤ (W6.alloc (.cells #[.int .i64 er.code, .slice a1 er.path.length cap1] 45)).heap.size from hq7.size)
   clear hcs6
   clear hq6 hn7 hq7
   go_wp2_with fail
   generalize hW7 : World.alloc W6 _ = W7 at *
   clear hW7
   go_at_call 17
   refine (kframes_same (OwnF.nil 0 W7).frames (OwnF.nil 0 W7).frames).mono ?_
   rintro e W8 ⟨rfl, hq8⟩
   have HQ8 := lh (HQ7.out.q hq8)
   have H48 := lh (H47.out.q hq8)
   have HB8 := lh (hq8.row HB7.out)
   have HC8 := lh (HC7.out.quiet hq8)
   have HE8 := lh (hq8.row HE7.out)
   have HV8 := lh (HV7.out.quiet hq8)
   have HS8 := lh (HS7.out.only hq8 (by simp))
   have HSz8 := lh (Nat.le_trans HSz.out hq8.size)
   clear hq8
   obtain ⟨e0, e1, -⟩ := row2 HE8.out
   go_wp2_with fail
   go_at_call 18
   refine (same_any (o := some er) (p := er.path) (show OErrV _ _ W8 _ (some er) from HV8.out) HSz8.out (HE.out.quiet HQ8.out) (by have := Hep.out; omega) HS8.out (by have := Hec.out; simp [codeOf, this]) rfl rfl).mono ?_
   exact qDFrLaw0
  | ok fs =>
   have H44 := lh (Only.refl [] W4)
   rw [hfs] at HFs HKs
   clear hfs
   go_wp2_with fail
   go_at_call 15
   refine HFs.out.mono ?_
   rintro e W5 ⟨hq5, hm5⟩
   obtain ⟨fa, fcap, rfl, hfs5⟩ := hm5
   have HF5 := lh hfs5
   clear hfs5
   have HQ5 := lh (HQ4.out.q hq5)
   have H45 := lh (H44.out.q hq5)
   have HB5 := lh (hq5.row HB4.out)
   have HC5 := lh (HCd.out.quiet hq5)
   have HS5 := lh hq5
   clear hq5
   go_wp2_with fail
   go_at_call 16
   refine (HKs.out _ HQ5.out).mono ?_
   rintro e W6 ⟨hq6, hm6⟩
   obtain ⟨ga, gcap, rfl, hgs6⟩ := hm6
   have hn7 := Only.new W6 (.cells #[.int .i64 0, .slice none 0 0] 45)
   have hq7 := hq6.q hn7
   have HE7 : Hid ((W6.alloc (.cells #[.int .i64 0, .slice none 0 0] 45)).heap[W6.heap.size]? = some (.cells #[.int .i64 0, .slice none 0 0] 45 (0, 0))) := lh (heap_alloc_new W6 _)
   have HQ7 := lh (HQ5.out.q hq7)
   have H47 := lh (H45.out.q hq7)
   have HB7 := lh (hq7.row HB5.out)
   have HC7 := lh (HC5.out.quiet hq7)
   have HF7 := lh (HF5.out.quiet hq7)
   have HG7 := lh (hgs6.quiet hn7)
   clear hgs6
   clear hq6 hn7 hq7
   go_wp2_with fail
   generalize hW7 : World.alloc W6 _ = W7 at *
   clear hW7
   go_at_call 17
   refine (kframes_same HF7.out HG7.out).mono ?_
   rintro e W8 ⟨rfl, hq8⟩
   have HQ8 := lh (HQ7.out.q hq8)
   have H48 := lh (H47.out.q hq8)
   have HB8 := lh (hq8.row HB7.out)
   have HC8 := lh (HC7.out.quiet hq8)
   have HE8 := lh (hq8.row HE7.out)
   clear hq8
   obtain ⟨e0, e1, -⟩ := row2 HE8.out
   go_wp2_with fail
   go_at_call 18
   refine (same_any (lo := 0) (hi := 0) (v := .nilIface) (o := none) (c := 0) (p := []) (sv := .slice none 0 0) (lo' := 0) (hi' := 0) (w := W8) rfl (Nat.zero_le _) (HE.out.quiet HQ8.out) (by simp) (Cells.nil 2 0 0 W8) rfl rfl rfl).mono ?_
   exact qDFrLaw0
end Go.Proofs.YthgpgbdkcdmbpaaGreatDoor
