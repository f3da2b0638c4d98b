/- kinref.Frame, kinlaw16.Pix, kinlaw21.few. Conditions: the arguments read. -/
import Derived.Test.YthgpgbdkcdmbpaaGreatDoorS7
import Derived.Test.YthgpgbdkcdmbpaaGreatDoorC3
import Derived.Test.YthgpgbdkcdmbpaaGreatDoorC1
namespace Go.Proofs.YthgpgbdkcdmbpaaGreatDoor
open Go.RowKit
set_option linter.unusedVariables false
set_option linter.unusedSimpArgs false
set_option maxRecDepth 100000
set_option maxHeartbeats 16000000
instance : Inhabited FrameD := ⟨frame0⟩
def frEq (A B : FrameD) : Bool := decide (A.W = B.W) && decide (A.H = B.H) && eqB A.pix B.pix
/-- frames in memory -/
def FramesAt (lo hi : Nat) (w : World) (v : Value) (l : List FrameD) : Prop :=
 ∃ f, Rows 3 lo hi w v l.length f ∧ ∀ i, i < l.length → f i 0 = .int .i64 (l.getD i default).W ∧ f i 1 = .int .i64 (l.getD i default).H ∧ Ints .i64 lo hi w (f i 2) (l.getD i default).pix
theorem FramesAt.only {lo hi : Nat} {w w' : World} {v : Value} {S : List Nat} {l : List FrameD} (h : FramesAt lo hi w v l) (o : Only S w w') (hS : ∀ g ∈ S, g < lo ∨ hi ≤ g) : FramesAt lo hi w' v l := by
 obtain ⟨f, h1, h2⟩ := h
 exact ⟨f, h1.only o hS, fun i hi => ⟨(h2 i hi).1, (h2 i hi).2.1, (h2 i hi).2.2.only o hS⟩⟩
theorem FramesAt.quiet {lo hi : Nat} {w w' : World} {v : Value} {l : List FrameD} (h : FramesAt lo hi w v l) (o : Only [] w w') : FramesAt lo hi w' v l := h.only o (by simp)
theorem FramesAt.open {lo hi : Nat} {w : World} {v : Value} {l : List FrameD} (h : FramesAt lo hi w v l) : ∃ (a : Option Addr) (cap : Nat), v = .slice a l.length cap ∧ l.length ≤ cap ∧ cap ≤ maxLen ∧
  ∀ i, i < l.length → ∃ b off dv, a = some ⟨b, off, none⟩ ∧ lo ≤ b ∧ b < hi ∧
   w.cell? ⟨b, off + i * 3, none⟩ = some (.int .i64 (l.getD i default).W) ∧ w.cell? ⟨b, off + i * 3 + 1, none⟩ = some (.int .i64 (l.getD i default).H) ∧ w.cell? ⟨b, off + i * 3 + 2, none⟩ = some dv ∧ Ints .i64 lo hi w dv (l.getD i default).pix := by
 obtain ⟨f, h1, h2⟩ := h
 obtain ⟨a, cap, rfl, x, y, hc⟩ := h1.open
 refine ⟨a, cap, rfl, x, y, fun i hi => ?_⟩
 obtain ⟨b, off, e, p, q, hj⟩ := hc i hi
 obtain ⟨e0, e1, e2⟩ := h2 i hi
 exact ⟨b, off, f i 2, e, p, q, by rw [← e0]; exact hj 0 (by omega), by rw [← e1]; exact hj 1 (by omega), hj 2 (by omega), e2⟩
section
theorem kframe_any {lo hi lo' hi' : Nat} {pv pu : Value} {w : World} {A B : FrameD} (h : Ints .i64 lo hi w pv A.pix) (g : Ints .i64 lo' hi' w pu B.pix) :
  Calls Tryz.prog 21 #[.agg #[.int .i64 A.W, .int .i64 A.H, pv], .agg #[.int .i64 B.W, .int .i64 B.H, pu]] w fun e w' => e = .returned (.bool (frEq A B)) ∧ Only [] w w' := by
 obtain ⟨a, cap, rfl, -⟩ := h.open
 obtain ⟨b, bcap, rfl, -⟩ := g.open
 have hq1 := Only.new w (.cells #[.int .i64 A.W, .int .i64 A.H, .slice a A.pix.length cap] 27)
 have hq2 := hq1.q (Only.new _ (.cells #[.int .i64 B.W, .int .i64 B.H, .slice b B.pix.length bcap] 27))
 have HI := lh (intsEq_any (h.quiet hq2) (g.quiet hq2))
 have HQ := lh hq2
 have HR : Hid (frEq A B = (decide (A.W = B.W) && decide (A.H = B.H) && eqB A.pix B.pix)) := lh rfl
 clear h g hq1 hq2
 generalize frEq A B = r at *
 generalize eqB A.pix B.pix = bb at *
 generalize A.W = W1 at *
 generalize A.H = H1 at *
 generalize B.W = W2 at *
 generalize B.H = H2 at *
 by_cases hW : W1 = W2
 ·by_cases hH : H1 = H2
  ·subst hW; subst hH
   go_enter Tryz.func21, Tryz.ntmps21
   go_wp2_with fail
   go_at_call 53
   refine HI.out.mono ?_
   rintro e w2 ⟨rfl, hq3⟩
   have HQ3 := lh hq3
   clear hq3
   go_wp2_with fail
   go_ret
   exact ⟨ret_bool (by rw [HR.out]; simp), HQ.out.q HQ3.out⟩
  ·have hb : (H1 == H2) = false := by rw [beq_eq_false_iff_ne]; exact hH
   subst hW
   have Hn := lh hH
   clear hH
   go_enter Tryz.func21, Tryz.ntmps21
   go_wp2_with fail
   go_ret
   exact ⟨ret_bool (by rw [HR.out]; simp [Hn.out]), HQ.out⟩
 ·have hb : (W1 == W2) = false := by rw [beq_eq_false_iff_ne]; exact hW
  have Hn := lh hW
  clear hW
  go_enter Tryz.func21, Tryz.ntmps21
  go_wp2_with fail
  go_ret
  exact ⟨ret_bool (by rw [HR.out]; simp [Hn.out]), HQ.out⟩
def pixSum (l : List FrameD) : Int := l.foldl (fun n c => n + min (c.pix.length : Int) 20001) 0
def pixB (l : List FrameD) : Bool := decide (l.length ≤ 40) && decide (pixSum (l.take 40) ≤ 20000)
theorem pixSum_take {l : List FrameD} {k : Nat} (h : k < l.length) : pixSum (l.take (k + 1)) = pixSum (l.take k) + min ((l.getD k default).pix.length : Int) 20001 := by
 rw [List.take_succ_eq_append_getElem h, pixSum, List.foldl_append]; simp [pixSum, h]
theorem pixSum_range (l : List FrameD) : 0 ≤ pixSum l ∧ pixSum l ≤ 20001 * l.length := by
 have h : ∀ (l : List FrameD) (n : Int), n ≤ l.foldl (fun n c => n + min (c.pix.length : Int) 20001) n ∧ l.foldl (fun n c => n + min (c.pix.length : Int) 20001) n ≤ n + 20001 * l.length := by
  intro l
  induction l with
  | nil => intro n; simp
  | cons c l ih =>
   intro n
   have := ih (n + min (c.pix.length : Int) 20001)
   simp only [List.foldl_cons, List.length_cons]
   omega
 have := h l 0
 unfold pixSum
 omega
theorem qDFew0 {p : Prop} (h : p := by
 go_round
 case rel => exact ⟨k + 1, by omega, by omega, by go_num, by rw [Hn.out]; first | rfl | exact congrArg (Value.int .i64) (by omega) | exact congrArg (Value.int .i64) (by split <;> omega)⟩
 case measure => simp [intOf]; omega) : p := h
theorem pix_any {lo hi : Nat} {v : Value} {l : List FrameD} {w : World} (h : FramesAt lo hi w v l) :
  Calls Tryz.prog 24 #[v] w fun e w' => e = .returned (.bool (pixB l)) ∧ w = w' := by
 obtain ⟨a, cap, rfl, hcap, hmax, hel⟩ := h.open
 have Hel := lh hel
 have hll : (l.length : Int) ≤ 9223372036854775807 := by unfold maxLen at hmax; omega
 clear h hel hmax hcap
 go_enter Tryz.func24, Tryz.ntmps24
 go_wp2
 go_loop [4, 3] (fun i c => ∃ k : Nat, k ≤ l.length ∧ k ≤ 40 ∧ i = .int .i64 k ∧ c = .int .i64 (pixSum (l.take k))) (fun i _ => 40 - (intOf i).toNat)
 case atStart => exact ⟨0, by omega, by omega, rfl, rfl⟩
 case round =>
  obtain ⟨k, hk, hk40, rfl, rfl⟩ := hrel
  have hs := pixSum_range (l.take k)
  have hs2 : pixSum (l.take k) ≤ 800040 := by rw [List.length_take] at hs; omega
  by_cases hlt : k < l.length
  ·by_cases h40 : k < 40
   ·obtain ⟨b, off, dv, rfl, _, _, hc0, hc1, hc2, hd⟩ := Hel.out k hlt
    obtain ⟨da, dcap, rfl, _, hdm, _⟩ := hd.open
    have hn := pixSum_take hlt
    have hx : (0 : Int) ≤ (k : Int) := by omega
    have hx1 : (k : Int) < (l.length : Int) := by omega
    have hx2 : (k : Int) < 40 := by omega
    have Hn := lh hn
    have h0 := hs.1
    clear hn hs hd hc0 hc1
    generalize l.getD k default = x at *
    generalize pixSum (l.take k) = s at *
    have hdl : (x.pix.length : Int) ≤ 9223372036854775807 := by unfold maxLen at hdm; omega
    go_wp2
    exact qDFew0
   ·obtain rfl : k = 40 := by omega
    have hx1 : ((40 : Nat) : Int) < (l.length : Int) := by omega
    have hx2 : ¬ (((40 : Nat) : Int) < 40) := by omega
    by_cases h40' : l.length ≤ 40
    ·omega
    have hr : pixB l = false := by simp [pixB]; omega
    go_wp2
    go_ret
    first | exact ⟨rfl, rfl⟩ | exact ⟨ret_bool (by rw [hr]), rfl⟩
  ·obtain rfl : k = l.length := by omega
   have hx : ¬ (l.length : Int) < (l.length : Int) := by omega
   have hr : pixB l = decide (pixSum l ≤ 20000) := by
    have : l.take 40 = l := List.take_of_length_le hk40
    simp [pixB, hk40, this]
   have hxx : (l.length : Int) ≤ 40 := by omega
   rw [List.take_length] at *
   have Hr := lh hr
   clear hr hs
   generalize pixSum l = s at *
   by_cases hss : s ≤ 20000
   all_goals
    go_wp2
    go_ret
    exact ⟨ret_bool (by rw [Hr.out]; simp [hss]), rfl⟩
theorem dfew_any {lo hi lo' hi' : Nat} {v u : Value} {l : List Coded} {fs : List FrameD} {w : World} (h : CodedsAt lo hi w v l) (hf : FramesAt lo' hi' w u fs) :
  Calls Tryz.prog 10 #[v, u] w fun e w' => e = .returned (.bool (fewB l && pixB fs)) ∧ w = w' := by
 obtain ⟨a, cap, rfl, hcap, hmax, hel⟩ := h.open
 have HP := lh (pix_any hf)
 obtain ⟨fa, fcap, rfl, -⟩ := hf.open
 have Hel := lh hel
 have hll : (l.length : Int) ≤ 9223372036854775807 := by unfold maxLen at hmax; omega
 clear h hf hel hmax hcap
 go_enter Tryz.func10, Tryz.ntmps10
 go_wp2_with fail
 go_loop [6, 5] (fun i c => ∃ k : Nat, k ≤ l.length ∧ k ≤ 40 ∧ i = .int .i64 k ∧ c = .int .i64 (fewSum (l.take k))) (fun i _ => 40 - (intOf i).toNat)
 case atStart => exact ⟨0, by omega, by omega, rfl, rfl⟩
 case round =>
  obtain ⟨k, hk, hk40, rfl, rfl⟩ := hrel
  have hs := fewSum_range (l.take k)
  have hs2 : fewSum (l.take k) ≤ 800040 := by rw [List.length_take] at hs; omega
  by_cases hlt : k < l.length
  ·by_cases h40 : k < 40
   ·obtain ⟨b, off, dv, rfl, _, _, hc1, hc2, _, hd⟩ := Hel.out k hlt
    obtain ⟨da, dcap, rfl, _, hdm, _⟩ := hd.open
    have hn := fewSum_take hlt
    have hx : (0 : Int) ≤ (k : Int) := by omega
    have hx1 : (k : Int) < (l.length : Int) := by omega
    have hx2 : (k : Int) < 40 := by omega
    have Hn := lh hn
    have h0 := hs.1
    clear hn hs hd hc1
    generalize l.getD k default = x at *
    generalize fewSum (l.take k) = s at *
    have hdl : (x.data.length : Int) ≤ 9223372036854775807 := by unfold maxLen at hdm; omega
    go_wp2_with fail
    exact qDFew0
   ·obtain rfl : k = 40 := by omega
    have hx1 : ((40 : Nat) : Int) < (l.length : Int) := by omega
    have hx2 : ¬ (((40 : Nat) : Int) < 40) := by omega
    have hx3 : ¬ (l.length : Int) ≤ 40 := by omega
    have hr : fewB l = false := by simp [fewB]; omega
    have Hr := lh hr
    clear hr
    go_wp2_with fail
    go_ret
    exact ⟨ret_bool (by rw [Hr.out]; rfl), rfl⟩
  ·obtain rfl : k = l.length := by omega
   have hx : ¬ (l.length : Int) < (l.length : Int) := by omega
   have hr : fewB l = decide (fewSum l ≤ 20000) := by
    have : l.take 40 = l := List.take_of_length_le hk40
    simp [fewB, hk40, this]
   have hxx : (l.length : Int) ≤ 40 := by omega
   rw [List.take_length] at *
   have Hr := lh hr
   clear hr hs
   generalize fewSum l = s at *
   by_cases hss : s ≤ 20000
   ·go_wp2_with fail
    go_at_call 24
    refine HP.out.mono ?_
    rintro e w2 ⟨rfl, rfl⟩
    go_wp2_with fail
    go_ret
    exact ⟨ret_bool (by rw [Hr.out]; simp [hss]), rfl⟩
   ·go_wp2_with fail
    go_ret
    exact ⟨ret_bool (by rw [Hr.out]; simp [hss]; try (intro h; omega)), rfl⟩
end
end Go.Proofs.YthgpgbdkcdmbpaaGreatDoor
