/- plane.Lay: a square laid in a frame of one's own. Conditions: the square lies in the frame; its list is as long. -/
import Derived.Test.YthgpgbdkcdmbpaaGreatDoorT1
import Derived.Test.YthgpgbdkcdmbpaaGreatDoorK2
import Derived.Test.YthgpgbdkcdmbpaaGreatDoorS1
import Derived.Laws.CopyOwn
import Derived.Deep.RegionLaw
namespace Go.Proofs.YthgpgbdkcdmbpaaGreatDoor
open Go.RowKit
set_option linter.unusedVariables false
set_option linter.unusedSimpArgs false
set_option maxRecDepth 100000
set_option maxHeartbeats 16000000
theorem rowD_splice (pix row : List Int) (o : Nat) : rowD pix o row = splice pix o row := by simp [rowD, splice]
theorem splice_take {α : Type} {L m : List α} {n off : Nat} (h : off + m.length ≤ n) (hn : n ≤ L.length) : (splice L off m).take n = splice (L.take n) off m := by
 unfold splice
 rw [List.take_append, List.take_append, List.take_take, List.length_take, List.take_take, List.drop_take, List.take_of_length_le (by omega : m.length ≤ n - min off L.length)]
 congr 2
 ·rw [Nat.min_comm]
 ·congr 1; omega
section
variable {k : IntKind} {e : TypeId} {base g n cap : Nat} {w : World} {l : List Int}
/-- a copy into an own row -/
theorem Own.splice (h : Own k e base w (.slice (some ⟨g, 0, none⟩) n cap) l) (hn : n = l.length) {m : List Int} (hm : ∀ x ∈ m, InK k x) {off : Nat} (ho : off + m.length ≤ l.length) :
  ∃ cur : List Value, w.heap[g]? = some (.cells cur.toArray e (0, 0)) ∧ off + m.length ≤ cur.length ∧
   Own k e base (w.setRow g (Go.splice cur off (m.map (.int k))).toArray) (.slice (some ⟨g, 0, none⟩) n cap) (rowD l off m) ∧ Only [g] w (w.setRow g (Go.splice cur off (m.map (.int k))).toArray) := by
 subst hn
 obtain ⟨⟨h1, h2⟩, h3⟩ := h
 rcases h2 with ⟨hv, _⟩ | ⟨g', cap', cur, hv, hb, hg, hnc, hcm, hcs, ht⟩
 ·cases hv
 ·injection hv with e1 e2 e3
  injection e1 with e1
  injection e1 with e1
  subst e1; subst e3
  have hcl : cur.toList.length = cap := by simpa using hcs
  refine ⟨cur.toList, by simpa using hg, by omega, ⟨⟨by simp, .inr ⟨g, cap, _, by rw [rowD_len ho], hb, setRow_heap _ _ _ _ _ _ hg, by rw [rowD_len ho]; exact hnc, hcm, ?_, ?_⟩⟩, fun x hx => ?_⟩, Only.setRow (Only.refl _ _) (fun _ => by simp) _⟩
  ·rw [List.size_toArray, length_splice _ _ _ (by rw [List.length_map]; omega)]; omega
  ·rw [rowD_len ho, Nat.mul_one, List.toList_toArray, splice_take (by rw [List.length_map]; exact ho) (by omega), rowD_splice]
   rw [Nat.mul_one] at ht
   rw [ht]
   simp [Go.splice]
  ·rw [rowD_splice] at hx
   unfold Go.splice at hx
   rcases List.mem_append.1 hx with hx | hx
   ·exact h3 x (List.mem_of_mem_take hx)
   ·rcases List.mem_append.1 hx with hx | hx
    ·exact hm x hx
    ·exact h3 x (List.mem_of_mem_drop hx)
end
section
variable {P : Program}
/-- a copy into a row that is known whole, as a region's step -/
theorem wp_copy_own {w : World} {o : Oper} {a : Act} {K : Act → World → Prop} {Q : Exit → Act → World → Prop} (d s : Operand) (dT sT : TypeId)
  (ho : o.op = .call { callee := .builtin .copy, args := #[d, s], argTypes := #[dT, sT] }) (elem : TypeId) (hu : P.underlying dT = some (.slice elem)) (hsz : (P.info? elem).map (·.size) = some 1)
  (g off dLen dCap : Nat) (ad : Addr) (sLen sCap : Nat) (hd : a.eval d = .slice (some ⟨g, off, none⟩) dLen dCap) (hs : a.eval s = .slice (some ad) sLen sCap)
  (cur : List Value) (t : TypeId) (hg : w.heap[g]? = some (.cells cur.toArray t (0, 0))) (cs : List Value) (hn : cs.length = Nat.min sLen dLen)
  (hsrc : ∀ j v, cs[j]? = some v → w.cell? (ad.add j) = some v) (hfit : off + cs.length ≤ cur.length) (h1 : ∀ v ∈ cs, v.oneCell' = true)
  (h : K (a.put o.dst (goInt cs.length)) (w.setRow g (splice cur off cs).toArray)) : o.wp P a w K Q := by
 have hrun := run_copy_row (P := P) w dT sT o.type elem g off dLen dCap ad sLen sCap cur.toArray t cs hu hsz hg hn hsrc (by simpa using hfit) h1
 unfold Oper.wp
 simp [execOp, ho, resolve, invoke, builtin, hd, hs, hrun, Result.andThen]
 exact h
end
section
variable {P : Program}
theorem step_copy_own {ops : Array Oper} {w : World} {o : Oper} {a : Act} {K : Act → World → Prop} {Q : Exit → Act → World → Prop} {E : Prop} (hgd : o.guard = none) (d s : Operand) (dT sT : TypeId)
  (ho : o.op = .call { callee := .builtin .copy, args := #[d, s], argTypes := #[dT, sT] }) (elem : TypeId) (hu : P.underlying dT = some (.slice elem)) (hsz : (P.info? elem).map (·.size) = some 1)
  (g off dLen dCap : Nat) (ad : Addr) (sLen sCap : Nat) (hd : a.eval d = .slice (some ⟨g, off, none⟩) dLen dCap) (hs : a.eval s = .slice (some ad) sLen sCap)
  (cur : List Value) (t : TypeId) (hg : w.heap[g]? = some (.cells cur.toArray t (0, 0))) (cs : List Value) (hn : cs.length = Nat.min sLen dLen)
  (hsrc : ∀ j v, cs[j]? = some v → w.cell? (ad.add j) = some v) (hfit : off + cs.length ≤ cur.length) (h1 : ∀ v ∈ cs, v.oneCell' = true)
  (h : K (a.put o.dst (goInt cs.length)) (w.setRow g (splice cur off cs).toArray)) : if Region.wanted o (yielded ops a.tmps) = true then Oper.wp P o a w K Q else E := by
 rw [if_pos (by simp [Region.wanted, hgd])]
 exact wp_copy_own d s dT sT ho elem hu hsz g off dLen dCap ad sLen sCap hd hs cur t hg cs hn hsrc hfit h1 h
end
theorem intsAt {k : IntKind} {l : List Int} {j : Nat} {v : Value} (h : (l.map (Value.int k))[j]? = some v) : j < l.length ∧ v = .int k (l.getD j 0) := by
 rw [List.getElem?_map] at h
 obtain ⟨x, hx, rfl⟩ := Option.map_eq_some_iff.1 h
 have hj := (List.getElem?_eq_some_iff.1 hx).1
 exact ⟨hj, by rw [List.getD_eq_getElem?_getD, hx]; rfl⟩
theorem ints_one {k : IntKind} {l : List Int} : ∀ v ∈ l.map (Value.int k), v.oneCell' = true := by
 intro v hv
 obtain ⟨x, _, rfl⟩ := List.mem_map.1 hv
 rfl
theorem layP_more {W x y : Int} {n : Nat} {b pix : List Int} {j : Nat} : (List.range (j + 1)).foldl (layP W x y n b) pix = layP W x y n b ((List.range j).foldl (layP W x y n b) pix) j := by
 rw [List.range_succ, List.foldl_append]; rfl
theorem play_lay {lo hi g cap base : Nat} {bv : Value} {b : List Int} {w : World} {f : FrameD} {x y : Int} {n : Nat} (hf : FrOk f) (hp : Own .i64 3 base w (.slice (some ⟨g, 0, none⟩) f.pix.length cap) f.pix) (hb : Ints .i64 lo hi w bv b) (hg : g < lo ∨ hi ≤ g)
  (hn : n = 4 ∨ n = 8) (hbl : b.length = n * n) (hx : 0 ≤ x) (hxn : x + n ≤ f.W) (hy : 0 ≤ y) (hyn : y + n ≤ f.H) :
  Calls Tryz.prog 71 #[.agg #[.int .i64 f.W, .int .i64 f.H, .slice (some ⟨g, 0, none⟩) f.pix.length cap], .int .i64 x, .int .i64 y, .int .i64 n, bv] w fun e w' => e = .returned (.tuple #[]) ∧ Own .i64 3 base w' (.slice (some ⟨g, 0, none⟩) f.pix.length cap) (layD f x y n b).pix ∧ Only [g] w w' := by
 refine hidQ fun Q HPost => ?_
 have HE : Hid ((layD f x y n b).pix = (List.range n).foldl (layP f.W x y n b) f.pix) := lh rfl
 obtain ⟨ba, bcap, rfl, hbc, -, hbat, hbcell⟩ := hb.open
 have hlen := hf.len
 have hW0 := hf.w0
 have hW1 := hf.w1
 have hH1 := hf.h1
 obtain ⟨bb, boff, rfl, hlb, hbh⟩ := hbat 0 (by rcases hn with e | e <;> rw [hbl, e] <;> omega)
 have hbg : bb ≠ g := by omega
 have Hbk := lh hb.2
 generalize f.W = W at *
 generalize f.H = H at *
 generalize f.pix = pix at *
 obtain ⟨W, rfl⟩ := Int.eq_ofNat_of_zero_le (by omega : 0 ≤ W)
 obtain ⟨H, rfl⟩ := Int.eq_ofNat_of_zero_le (by have : (n : Int) ≤ H := (by omega); omega : 0 ≤ H)
 obtain ⟨x, rfl⟩ := Int.eq_ofNat_of_zero_le hx
 obtain ⟨y, rfl⟩ := Int.eq_ofNat_of_zero_le hy
 have hWH : W * H ≤ 1024 := Nat.le_trans (Nat.mul_le_mul (by omega : W ≤ 32) (by omega : H ≤ 32)) (by decide)
 have hlen' : pix.length = W * H := by rw [← Int.natCast_mul] at hlen; omega
 have Hlen := lh hlen'
 have hq0 := Only.new w (.cells #[.int .i64 W, .int .i64 H, .slice (some ⟨g, 0, none⟩) pix.length cap] 27)
 have hgl := (hp.at g rfl).2
 have HRow : Hid ((w.alloc (.cells #[.int .i64 W, .int .i64 H, .slice (some ⟨g, 0, none⟩) pix.length cap] 27)).heap[w.heap.size]? = some (.cells #[.int .i64 W, .int .i64 H, .slice (some ⟨g, 0, none⟩) pix.length cap] 27 (0, 0))) := lh (heap_alloc_new _ _)
 have HO := lh (hp.quiet hq0)
 have Hbc := lh (fun (i : Nat) (hi : i < b.length) => hq0.cell (hbcell bb boff rfl i hi) (by simp))
 have HQ0 := lh hq0
 have Hgl := lh hgl
 have Hbl := lh hbl
 have hn4 : 4 ≤ n := by omega
 have hn8 : n ≤ 8 := by omega
 have hxW : x + n ≤ W := by omega
 have hH32 : H ≤ 32 := by omega
 have hyH : y + n ≤ H := by omega
 have hcap : pix.length ≤ cap := by
  rcases hp.1.2 with ⟨hv, _⟩ | ⟨g', cap', cur, hv, _, _, hnc, _⟩
  ·cases hv
  ·injection hv with e1 e2 e3; omega
 clear hf hp hb hbat hbcell hlen hW0 hW1 hH1 hx hy hxn hyn hn hlen' hq0 hbl
 generalize hP : pix.length = N at *
 have HP := lh hP
 clear hP
 go_enter Tryz.func71, Tryz.ntmps71
 go_wp2_with fail
 generalize hW1 : World.alloc w _ = W1 at *
 clear hW1
 go_loopw [12, 10] (fun i _ wr => ∃ (j : Nat), j ≤ n ∧ i = .int .i64 j ∧ Hid (Own .i64 3 base wr (.slice (some ⟨g, 0, none⟩) N cap) ((List.range j).foldl (layP W x y n b) pix)) ∧ Hid (((List.range j).foldl (layP W x y n b) pix).length = N) ∧ Hid (Only [g] W1 wr)) (fun i _ _ => n - (intOf i).toNat)
 case atStart => exact ⟨0, by omega, rfl, HO, HP, lh (Only.refl _ _)⟩
 case round =>
  obtain ⟨j, hj, rfl, HOj, HLj, HQj⟩ := hrel
  by_cases hlt : j < n
  ·have hji : (j : Int) < (n : Int) := by omega
   have hj0 : (0 : Int) ≤ (j : Int) := by omega
   have hr := frame_cells (HQj.out.rowAt HRow.out (by rw [mSg]; have := Hgl.out; omega))
   obtain ⟨r0, r1, r2⟩ := hr
   have hpl : (y + j) * W + x + n ≤ W * H := by
    have h2 : (y + j + 1) * W ≤ H * W := Nat.mul_le_mul_right _ (by omega)
    rw [Nat.add_mul, Nat.one_mul, Nat.mul_comm H W] at h2
    omega
   have hpb : j * n + n ≤ b.length := by
    have h2 : (j + 1) * n ≤ n * n := Nat.mul_le_mul_right _ (by omega)
    rw [Nat.add_mul, Nat.one_mul] at h2
    rw [Hbl.out]; omega
   have hbl64 : b.length ≤ 64 := by rw [Hbl.out]; exact Nat.mul_le_mul hn8 hn8
   obtain ⟨M, hM⟩ : ∃ M, M = (y + j) * W := ⟨_, rfl⟩
   obtain ⟨J, hJ⟩ : ∃ J, J = j * n := ⟨_, rfl⟩
   have e1 : IntKind.i64.wrap ((y : Int) + (j : Int)) = ((y + j : Nat) : Int) := by rw [IntKind.wrap_i64]; omega
   have e2 : IntKind.i64.wrap (((y + j : Nat) : Int) * (W : Int)) = (M : Int) := by rw [IntKind.wrap_i64, ← Int.natCast_mul, ← hM]; rw [← hM] at hpl; omega
   have e4 : IntKind.i64.wrap ((j : Int) * (n : Int)) = (J : Int) := by rw [IntKind.wrap_i64, ← Int.natCast_mul, ← hJ]; rw [← hJ] at hpb; omega
   rw [← hM] at hpl
   rw [← hJ] at hpb
   have e3 : IntKind.i64.wrap ((M : Int) + (x : Int)) = ((M + x : Nat) : Int) := by rw [IntKind.wrap_i64]; omega
   have e5 : IntKind.i64.wrap ((J : Int) + (n : Int)) = ((J + n : Nat) : Int) := by rw [IntKind.wrap_i64]; omega
   have HM := lh hM
   have HJ := lh hJ
   clear hM hJ
   generalize hyj : y + j = Yj at *
   generalize ho : M + x = o at *
   generalize hje : J + n = Je at *
   have Hyj := lh hyj
   have Ho := lh ho
   have Hje := lh hje
   have hoN : o + n ≤ N := by rw [Hlen.out]; exact hpl
   have hJb : Je ≤ b.length := hpb
   have hJle : J ≤ Je := by omega
   have hJlt : J < b.length := by omega
   have hoN1 : o ≤ N := by omega
   have hoc : ¬ cap = o := by omega
   have hJc1 : Je ≤ bcap := by omega
   have hJc : ¬ bcap = J := by omega
   clear hyj ho hje hpl hpb
   go_wp2_with fail
   refine wp_region_held_drew (S := (fun w' => w'.cell? ⟨w.heap.size, 0, none⟩ = some (.int .i64 W) ∧ w'.cell? ⟨w.heap.size, 2, none⟩ = some (.slice (some ⟨g, 0, none⟩) N cap))) (by kernel_rfl) ?_ (fun hHeld => ?_)
   ·exact ⟨r0, r2⟩
   refine tk 0 15 ?_
   refine tk 1 16 ?_
   refine tk 2 17 ?_
   refine tk 3 18 ?_
   refine tk 4 19 ?_
   refine tk 5 20 ?_
   refine tk 6 21 ?_
   refine tk 7 22 ?_
   refine tk 8 23 ?_
   refine tk 9 24 ?_
   refine tk 10 25 ?_
   refine tk 11 26 ?_
   refine tk 12 27 ?_
   refine tk 13 28 ?_
   refine tk 14 29 ?_
   refine tk 15 30 ?_
   refine tk 16 31 ?_
   refine tk 17 32 ?_
   refine tk 18 33 ?_
   refine tk 19 34 ?_
   refine tk 20 35 ?_
   refine rdy (rdc 21 36 (fun K hK => ?_) .nil)
   obtain ⟨row, hrow⟩ : ∃ row, row = (b.drop J).take n := ⟨_, rfl⟩
   have hrl : row.length = n := by have := Hje.out; rw [hrow, List.length_take, List.length_drop]; omega
   have hrat : ∀ i, i < n → row.getD i 0 = b.getD (J + i) 0 := fun i hi => by
    rw [hrow, List.getD_eq_getElem?_getD, List.getElem?_take, if_pos hi, List.getElem?_drop, List.getD_eq_getElem?_getD]
   have hrk : ∀ x ∈ row, InK .i64 x := fun x hx => Hbk.out x (by rw [hrow] at hx; exact List.mem_of_mem_drop (List.mem_of_mem_take hx))
   obtain ⟨cur, hcur, hfit, hown', honly⟩ := (HOj.out.quiet (Only.refl _ _).drew).splice HLj.out.symm hrk (off := o) (by rw [HLj.out, hrl]; exact hoN)
   refine step_copy_own rfl (.tmp 25) (.tmp 35) 25 25 rfl 3 EI.ut (by kernel_rfl) g o (N - o) (cap - o) ⟨bb, boff + J, none⟩ (Je - J) (bcap - J) rfl rfl cur _ hcur (row.map (.int .i64)) ?_ ?_ (by rw [List.length_map]; exact hfit) ints_one ?_
   ·rw [List.length_map, hrl]; have := Hje.out; show n = min (Je - J) (N - o); omega
   ·intro i v hv
    obtain ⟨hi, rfl⟩ := intsAt hv
    rw [hrl] at hi
    rw [hrat i hi, Addr.add_lit]
    refine (HQj.out.drew).cell (p := ⟨bb, boff + J + i, none⟩) ?_ (by rw [mSg]; exact hbg)
    rw [Nat.add_assoc]
    exact Hbc.out (J + i) (by have := Hje.out; omega)
   refine hK.out _ _ ?_ (fun hHeld => ?_)
   ·exact ⟨honly.cell r0 (by rw [mSg]; simp only; omega), honly.cell r2 (by rw [mSg]; simp only; omega)⟩
   clear hK K
   try simp only [Act.put, List.setIfInBounds_toArray, List.set_cons_zero, List.set_cons_succ]
   refine wpAnyH_done (by kernel_rfl) ?_ _
   have HOx := lh hown'
   have HQx := lh (((Only.refl [g] wr).drew).trans honly (fun _ h _ => h) (fun _ h _ => h))
   have HLx : Hid ((rowD ((List.range j).foldl (layP W x y n b) pix) o row).length = N) := lh (by rw [rowD_len (by rw [HLj.out, hrl]; exact hoN)]; exact HLj.out)
   have HMx : Hid ((List.range (j + 1)).foldl (layP W x y n b) pix = rowD ((List.range j).foldl (layP W x y n b) pix) o row) := lh (by
    rw [layP_more, layP, hrow]
    have e : (((y : Int) + (j : Int)) * (W : Int) + (x : Int)).toNat = o := by
     rw [← Ho.out, HM.out, ← Hyj.out]
     rw [← Int.natCast_add, ← Int.natCast_mul, ← Int.natCast_add]
     rfl
    rw [e, ← HJ.out])
   clear hown' honly hcur hfit hrk hrat hrl hrow
   go_wp2_with fail
   exact ⟨⟨j + 1, by omega, by go_num, by rw [HMx.out]; exact HOx, by rw [HMx.out]; exact HLx, lh (HQj.out.trans HQx.out (fun _ h _ => h) (fun _ h _ => h))⟩, by simp [intOf]; omega⟩
  ·obtain rfl : j = n := by omega
   have hx : ¬ (j : Int) < (j : Int) := by omega
   go_wp2_with fail
   refine bodyPost_end (results_none Tryz.results71 _ _ _) rfl (HPost.out _ _ ⟨rfl, ?_, HQ0.out.trans HQj.out (by simp) (fun g h _ => h)⟩)
   rw [HE.out]
   exact HOj.out
end Go.Proofs.YthgpgbdkcdmbpaaGreatDoor
