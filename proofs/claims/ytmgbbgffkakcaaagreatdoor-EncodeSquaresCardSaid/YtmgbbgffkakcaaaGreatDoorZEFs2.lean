/- kinlaw22.first: the chapter's examples hold. Conditions: none. -/
import Derived.Test.YtmgbbgffkakcaaaGreatDoorT1
import Derived.Test.YtmgbbgffkakcaaaGreatDoorF1
import Derived.Test.YtmgbbgffkakcaaaGreatDoorF2
import Derived.Test.YtmgbbgffkakcaaaGreatDoorC1
import Derived.Test.YtmgbbgffkakcaaaGreatDoorC4
import Derived.Deep.DeepCutAuto
namespace Go.Proofs.YtmgbbgffkakcaaaGreatDoor
open Go.RowKit
set_option linter.unusedVariables false
set_option linter.unusedSimpArgs false
set_option maxRecDepth 100000
set_option maxHeartbeats 16000000
theorem qEFs2t0 {p:Prop} (h:p:=by intro wz hSw;obtain ⟨p0,p1,p2⟩:=frame_cells hSw;go_simp;try with_reducible rfl):p:=h
theorem qEFs2t1 {p:Prop} (h:p:=by intro wz hSw;obtain ⟨hS0,hS1⟩:=hSw;obtain ⟨p0,p1,p2⟩:=frame_cells hS0;obtain ⟨k0,k1,k2,k3,k4,k5,k6,k7⟩:=cfg_cells hS1;go_simp;try with_reducible rfl):p:=h
theorem qEFs2t2 {p:Prop} (h:p:=by intro wz hSw;obtain ⟨k0,k1,k2,k3,k4,k5,k6,k7⟩:=cfg_cells hSw;go_simp;try with_reducible rfl):p:=h
theorem qEFs2t3 {p:Prop} (h:p:=by intro wz hSw;obtain ⟨hS0,hS1,hS2,hS3,hS4,hS5⟩:=hSw;obtain ⟨c0,c1,-⟩:=row2 hS0;obtain ⟨c2,c3,c4⟩:=frame_cells hS1;obtain ⟨c5,c6,-⟩:=row2 hS2;obtain ⟨c7,c8,c9⟩:=frame_cells hS3;obtain ⟨d0,d1,-⟩:=row2 hS4;obtain ⟨d2,d3,d4⟩:=frame_cells hS5;go_simp;try with_reducible rfl):p:=h
section
theorem fr_info (a b c:Value):(Tryz.prog.info? 24).map (·.size)=some (#[a,b,c]:Array Value).size:=by show _=some 3;kernel_rfl
theorem cd_info (a b:Value):(Tryz.prog.info? 31).map (·.size)=some (#[a,b]:Array Value).size:=by show _=some 2;kernel_rfl
theorem wp_store_rowQ {w:World} {o:Oper} {a:Act} {K:Act→World→Prop} {Q:Exit→Act→World→Prop} (x y:Operand) (t:TypeId) (ho:o.op=.store t x y)
  {g:Nat} {c c':Array Value} {ty:TypeId} (hx:a.eval x=.pointer (some ⟨g,0,none⟩)) (hy:a.eval y=.agg c') (hr:w.heap[g]?=some (.cells c ty (0,0))) (hi:(Tryz.prog.info? t).map (·.size)=some c'.size) (hs:c.size=c'.size) (h1:c'.all (·.oneCell')=true)
  (h:∀ w',Only [g] w w'→w'.heap[g]?=some (.cells c' ty (0,0))→K (a.put o.dst undef) w'):o.wp Tryz.prog a w K Q:=by
 have h2:=h _ (Only.setRow (Only.refl _ _) (fun _=>by simp) _) (setRow_heap _ _ _ _ _ _ hr)
 unfold Oper.wp execOp
 simp only [ho,hx,hy,Instr.storeAt,Instr.sureAddr,Sem.run_bind,Sem.run_pure,Result.andThen_ok,run_storeVar_row w g ty t c c' hr hi hs h1]
 exact h2
theorem qEFs232 {p:Prop} (h:p:=by
 exact HS3.out _ (by first | exact o.out | exact o.out.drew)):p:=h
theorem qEFs216 {p:Prop} (h:p:=by
 refine rdy (rdn 10 (fun K hK=>?_) .nil)
 refine wp_store_rowQ (.tmp 9) (.tmp 37) 31 rfl (g:=bC3) (c':=#[.int .i64 3,.slice da3 dn3 dc3]) rfl rfl HC3.out (cd_info _ _) rfl (by first | kernel_rfl | simp [Value.oneCell']) (fun v' hq hr=>?_)
 have q:Only [bC3] v v':=by first | exact hq | exact ((Only.refl _ _).drew.mono (U:=[bC3]) (by simp)).trans hq (fun g h _=>h) (fun g h _=>h)
 replace HC3:=lh hr
 replace HE3:=lh (q.rowAt HE3.out (by rw [mSg];have:=HnC3E3.out;omega))
 replace HK:Hid (Ints .i64 l3 h3 v' (.slice fa3 64 fc3) (plainF 200).pix):=lh (HK.out.only q (fun g hg=>by rw [mSg] at hg;subst hg;exact HkC3.out.2))
 replace HKb:Hid (W3.heap.size≤l3∧h3≤v'.heap.size):=lh ⟨HKb.out.1,Nat.le_trans HKb.out.2 q.size⟩
 replace o:Hid (Only [] W3 v'):=lh (o.out.trans q (by simp) (fun g hg hlt=>by rw [mSg] at hg;have:=HkC3.out.1;omega))
 clear hq hr q
 obtain ⟨v,rfl⟩:∃ z,z=v':=⟨_,rfl⟩
 refine hK.out _ _ ?_ (fun hHeld=>?_)
 ·exact qEFs232
 clear hK K
 refine rdy (rdn 11 (fun K hK=>?_) .nil)
 refine wp_store_rowQ (.tmp 10) (.tmp 38) 24 rfl (g:=bE3) (c':=#[.int .i64 8,.int .i64 8,.slice fa3 64 fc3]) rfl rfl HE3.out (fr_info _ _ _) rfl (by first | kernel_rfl | simp [Value.oneCell']) (fun v' hq hr=>?_)
 have q:Only [bE3] v v':=by first | exact hq | exact ((Only.refl _ _).drew.mono (U:=[bE3]) (by simp)).trans hq (fun g h _=>h) (fun g h _=>h)
 replace HE3:=lh hr
 replace HC3:=lh (q.rowAt HC3.out (by rw [mSg];have:=HnC3E3.out;omega))
 replace HK:Hid (Ints .i64 l3 h3 v' (.slice fa3 64 fc3) (plainF 200).pix):=lh (HK.out.only q (fun g hg=>by rw [mSg] at hg;subst hg;exact HkE3.out.2))
 replace HKb:Hid (W3.heap.size≤l3∧h3≤v'.heap.size):=lh ⟨HKb.out.1,Nat.le_trans HKb.out.2 q.size⟩
 replace o:Hid (Only [] W3 v'):=lh (o.out.trans q (by simp) (fun g hg hlt=>by rw [mSg] at hg;have:=HkE3.out.1;omega))
 clear hq hr q
 obtain ⟨v,rfl⟩:∃ z,z=v':=⟨_,rfl⟩
 refine hK.out _ _ ?_ (fun hHeld=>?_)
 ·exact qEFs232
 clear hK K
 refine tkw 12 11 ⟨rfl,qEFs2t2⟩ ?_
 refine wpAnyH_done (by kernel_rfl) ?_ _
 go_wp2_with fail
 go_meet
 exact ⟨bC3,bE3,l3,h3,da3,dn3,dc3,fa3,fc3,rfl,rfl,rfl,o,HC3,HE3,HKb,HK,HkC3,HkE3⟩):p:=h
theorem qEFs20 {p:Prop} (h:p:=by
 obtain ⟨v,rfl⟩:∃ z,z=v':=⟨_,rfl⟩
 refine hK.out _ _ ?_ (fun hHeld=>?_)
 ·exact qEFs232
 clear hK K
 refine rdy (rdc 3 36 (fun K hK=>?_) .nil)
 go_simp
 go_at_call 21
 refine (HSk.out _ _ _ (by first | exact HPc.out | exact HPc.out.quiet (Only.refl _ _).drew) (by first | exact HPd.out | exact HPd.out.quiet (Only.refl _ _).drew)).mono ?_
 rintro e v' ⟨da3,dn3,dc3,fa3,fc3,rfl,hi9,hq⟩
 obtain ⟨l3,hl1⟩:∃ z,z=v.heap.size:=⟨_,rfl⟩
 obtain ⟨h3,hh1⟩:∃ z,z=v'.heap.size:=⟨_,rfl⟩
 have hKf:Ints .i64 l3 h3 v' (.slice fa3 64 fc3) (plainF 200).pix:=by rw [hl1,hh1];exact hi9
 have hKl:v.heap.size≤l3:=by omega
 have hKh:h3≤v'.heap.size:=by omega
 clear hi9 hl1 hh1
 have q:Only [] v v':=by first | exact hq | exact ((Only.refl _ _).drew).q hq
 have hVl:W3.heap.size≤v.heap.size:=o.out.size
 have HkC3:Hid (W3.heap.size≤bC3∧(bC3<l3∨h3≤bC3)):=lh (by have:=(Array.getElem?_eq_some_iff.1 HC3.out).1;have:=HzC3.out;exact ⟨by omega,.inl (by omega)⟩)
 have HkE3:Hid (W3.heap.size≤bE3∧(bE3<l3∨h3≤bE3)):=lh (by have:=(Array.getElem?_eq_some_iff.1 HE3.out).1;have:=HzE3.out;exact ⟨by omega,.inl (by omega)⟩)
 replace HC3:=lh (q.row HC3.out)
 replace HE3:=lh (q.row HE3.out)
 replace HPc:Hid (Ints .i64 0 v'.heap.size v' (.slice (some ⟨gc,0,none⟩) 64 cgc) (plainF 7).pix):=lh ((HPc.out.quiet q).mono (Nat.le_refl _) q.size)
 replace HPd:Hid (Ints .i64 0 v'.heap.size v' (.slice (some ⟨gd,0,none⟩) 64 cgd) (plainF 200).pix):=lh ((HPd.out.quiet q).mono (Nat.le_refl _) q.size)
 have HK:=lh hKf
 have HKb:Hid (W3.heap.size≤l3∧h3≤v'.heap.size):=lh ⟨by omega,hKh⟩
 replace o:=lh (o.out.q q)
 clear hq q hKf hKl hKh hVl
 obtain ⟨v,rfl⟩:∃ z,z=v':=⟨_,rfl⟩
 refine hK.out _ _ ?_ (fun hHeld=>?_)
 ·exact qEFs232
 clear hK K
 refine tkw 4 32 ⟨rfl,qEFs2t2⟩ ?_
 refine tkw 5 37 ⟨rfl,qEFs2t2⟩ ?_
 refine tkw 6 38 ⟨rfl,qEFs2t2⟩ ?_
 refine tkw 7 39 ⟨rfl,qEFs2t2⟩ ?_
 exact qEFs216):p:=h
theorem qEFs21 {p:Prop} (h:p:=by
 exact qEFs216):p:=h
theorem qEFs22 {p:Prop} (h:p:=by
 refine rdy (rdn 10 (fun K hK=>?_) .nil)
 refine wp_store_rowQ (.tmp 6) (.tmp 29) 31 rfl (g:=bC2) (c':=#[.int .i64 4,.slice da2 dn2 dc2]) rfl rfl HC2.out (cd_info _ _) rfl (by first | kernel_rfl | simp [Value.oneCell']) (fun v' hq hr=>?_)
 have q:Only [bC2] v v':=by first | exact hq | exact ((Only.refl _ _).drew.mono (U:=[bC2]) (by simp)).trans hq (fun g h _=>h) (fun g h _=>h)
 replace HC2:=lh hr
 replace HE2:=lh (q.rowAt HE2.out (by rw [mSg];have:=HnC2E2.out;omega))
 replace HK:Hid (Ints .i64 l2 h2 v' (.slice fa2 64 fc2) (plainF 128).pix):=lh (HK.out.only q (fun g hg=>by rw [mSg] at hg;subst hg;exact HkC2.out.2))
 replace HKb:Hid (W2.heap.size≤l2∧h2≤v'.heap.size):=lh ⟨HKb.out.1,Nat.le_trans HKb.out.2 q.size⟩
 replace o:Hid (Only [] W2 v'):=lh (o.out.trans q (by simp) (fun g hg hlt=>by rw [mSg] at hg;have:=HkC2.out.1;omega))
 clear hq hr q
 obtain ⟨v,rfl⟩:∃ z,z=v':=⟨_,rfl⟩
 refine hK.out _ _ ?_ (fun hHeld=>?_)
 ·exact HS2.out _ (by first | exact o.out | exact o.out.drew)
 clear hK K
 refine rdy (rdn 11 (fun K hK=>?_) .nil)
 refine wp_store_rowQ (.tmp 7) (.tmp 30) 24 rfl (g:=bE2) (c':=#[.int .i64 8,.int .i64 8,.slice fa2 64 fc2]) rfl rfl HE2.out (fr_info _ _ _) rfl (by first | kernel_rfl | simp [Value.oneCell']) (fun v' hq hr=>?_)
 have q:Only [bE2] v v':=by first | exact hq | exact ((Only.refl _ _).drew.mono (U:=[bE2]) (by simp)).trans hq (fun g h _=>h) (fun g h _=>h)
 replace HE2:=lh hr
 replace HC2:=lh (q.rowAt HC2.out (by rw [mSg];have:=HnC2E2.out;omega))
 replace HK:Hid (Ints .i64 l2 h2 v' (.slice fa2 64 fc2) (plainF 128).pix):=lh (HK.out.only q (fun g hg=>by rw [mSg] at hg;subst hg;exact HkE2.out.2))
 replace HKb:Hid (W2.heap.size≤l2∧h2≤v'.heap.size):=lh ⟨HKb.out.1,Nat.le_trans HKb.out.2 q.size⟩
 replace o:Hid (Only [] W2 v'):=lh (o.out.trans q (by simp) (fun g hg hlt=>by rw [mSg] at hg;have:=HkE2.out.1;omega))
 clear hq hr q
 obtain ⟨v,rfl⟩:∃ z,z=v':=⟨_,rfl⟩
 refine hK.out _ _ ?_ (fun hHeld=>?_)
 ·exact HS2.out _ (by first | exact o.out | exact o.out.drew)
 clear hK K
 refine tkw 12 8 ⟨rfl,qEFs2t1⟩ ?_
 refine wpAnyH_done (by kernel_rfl) ?_ _
 go_wp2_with fail
 go_meet
 exact ⟨bC2,bE2,l2,h2,da2,dn2,dc2,fa2,fc2,rfl,rfl,rfl,o,HC2,HE2,HKb,HK,HkC2,HkE2⟩):p:=h
theorem qEFs23 {p:Prop} (h:p:=by
 refine rdy (rdn 9 (fun K hK=>?_) .nil)
 refine wp_store_rowQ (.tmp 2) (.tmp 20) 31 rfl (g:=bC1) (c':=#[.int .i64 1,.slice da1 dn1 dc1]) rfl rfl HC1.out (cd_info _ _) rfl (by first | kernel_rfl | simp [Value.oneCell']) (fun v' hq hr=>?_)
 have q:Only [bC1] v v':=by first | exact hq | exact ((Only.refl _ _).drew.mono (U:=[bC1]) (by simp)).trans hq (fun g h _=>h) (fun g h _=>h)
 replace HC1:=lh hr
 replace HE1:=lh (q.rowAt HE1.out (by rw [mSg];have:=HnC1E1.out;omega))
 replace HK:Hid (Ints .i64 l1 h1 v' (.slice fa1 64 fc1) (plainF 128).pix):=lh (HK.out.only q (fun g hg=>by rw [mSg] at hg;subst hg;exact HkC1.out.2))
 replace HKb:Hid (W1.heap.size≤l1∧h1≤v'.heap.size):=lh ⟨HKb.out.1,Nat.le_trans HKb.out.2 q.size⟩
 replace o:Hid (Only [] W1 v'):=lh (o.out.trans q (by simp) (fun g hg hlt=>by rw [mSg] at hg;have:=HkC1.out.1;omega))
 clear hq hr q
 obtain ⟨v,rfl⟩:∃ z,z=v':=⟨_,rfl⟩
 refine hK.out _ _ ?_ (fun hHeld=>?_)
 ·exact HS1.out _ (by first | exact o.out | exact o.out.drew)
 clear hK K
 refine rdy (rdn 10 (fun K hK=>?_) .nil)
 refine wp_store_rowQ (.tmp 3) (.tmp 21) 24 rfl (g:=bE1) (c':=#[.int .i64 8,.int .i64 8,.slice fa1 64 fc1]) rfl rfl HE1.out (fr_info _ _ _) rfl (by first | kernel_rfl | simp [Value.oneCell']) (fun v' hq hr=>?_)
 have q:Only [bE1] v v':=by first | exact hq | exact ((Only.refl _ _).drew.mono (U:=[bE1]) (by simp)).trans hq (fun g h _=>h) (fun g h _=>h)
 replace HE1:=lh hr
 replace HC1:=lh (q.rowAt HC1.out (by rw [mSg];have:=HnC1E1.out;omega))
 replace HK:Hid (Ints .i64 l1 h1 v' (.slice fa1 64 fc1) (plainF 128).pix):=lh (HK.out.only q (fun g hg=>by rw [mSg] at hg;subst hg;exact HkE1.out.2))
 replace HKb:Hid (W1.heap.size≤l1∧h1≤v'.heap.size):=lh ⟨HKb.out.1,Nat.le_trans HKb.out.2 q.size⟩
 replace o:Hid (Only [] W1 v'):=lh (o.out.trans q (by simp) (fun g hg hlt=>by rw [mSg] at hg;have:=HkE1.out.1;omega))
 clear hq hr q
 obtain ⟨v,rfl⟩:∃ z,z=v':=⟨_,rfl⟩
 refine hK.out _ _ ?_ (fun hHeld=>?_)
 ·exact HS1.out _ (by first | exact o.out | exact o.out.drew)
 clear hK K
 refine tkw 11 4 ⟨rfl,qEFs2t0⟩ ?_
 refine wpAnyH_done (by kernel_rfl) ?_ _
 go_wp2_with fail
 go_meet
 exact ⟨bC1,bE1,l1,h1,da1,dn1,dc1,fa1,fc1,rfl,rfl,rfl,o,HC1,HE1,HKb,HK,HkC1,HkE1⟩):p:=h
theorem qEFs24 {p:Prop} (h:p:=by
 exact qEFs232):p:=h
theorem qEFs25 {p:Prop} (h:p:=by
 exact HS1.out _ (by first | exact o.out | exact o.out.drew)):p:=h
theorem qEFs26 {p:Prop} (h:p:=by
 exact HS2.out _ (by first | exact o.out | exact o.out.drew)):p:=h
theorem qEFs27 {p:Prop} (h:p:=by
 obtain ⟨v,rfl⟩:∃ z,z=v':=⟨_,rfl⟩
 refine hK.out _ _ ?_ (fun hHeld=>?_)
 ·exact qEFs25
 clear hK K
 refine rdy (rdc 2 19 (fun K hK=>?_) .nil)
 go_simp
 go_at_call 14
 refine (HFr.out _ _ (by first | exact HPa.out | exact HPa.out.quiet (Only.refl _ _).drew)).mono ?_
 rintro e v' ⟨da1,dn1,dc1,fa1,fc1,rfl,hi9,hq⟩
 obtain ⟨l1,hl1⟩:∃ z,z=v.heap.size:=⟨_,rfl⟩
 obtain ⟨h1,hh1⟩:∃ z,z=v'.heap.size:=⟨_,rfl⟩
 have hKf:Ints .i64 l1 h1 v' (.slice fa1 64 fc1) (plainF 128).pix:=by rw [hl1,hh1];exact hi9
 have hKl:v.heap.size≤l1:=by omega
 have hKh:h1≤v'.heap.size:=by omega
 clear hi9 hl1 hh1
 have q:Only [] v v':=by first | exact hq | exact ((Only.refl _ _).drew).q hq
 have hVl:W1.heap.size≤v.heap.size:=o.out.size
 have HkC1:Hid (W1.heap.size≤bC1∧(bC1<l1∨h1≤bC1)):=lh (by have:=(Array.getElem?_eq_some_iff.1 HC1.out).1;have:=HzC1.out;exact ⟨by omega,.inl (by omega)⟩)
 have HkE1:Hid (W1.heap.size≤bE1∧(bE1<l1∨h1≤bE1)):=lh (by have:=(Array.getElem?_eq_some_iff.1 HE1.out).1;have:=HzE1.out;exact ⟨by omega,.inl (by omega)⟩)
 replace HC1:=lh (q.row HC1.out)
 replace HE1:=lh (q.row HE1.out)
 replace HPa:Hid (Ints .i64 0 v'.heap.size v' (.slice (some ⟨ga,0,none⟩) 64 cga) (plainF 128).pix):=lh ((HPa.out.quiet q).mono (Nat.le_refl _) q.size)
 have HK:=lh hKf
 have HKb:Hid (W1.heap.size≤l1∧h1≤v'.heap.size):=lh ⟨by omega,hKh⟩
 replace o:=lh (o.out.q q)
 clear hq q hKf hKl hKh hVl
 obtain ⟨v,rfl⟩:∃ z,z=v':=⟨_,rfl⟩
 refine hK.out _ _ ?_ (fun hHeld=>?_)
 ·exact qEFs25
 clear hK K
 refine tkw 3 16 ⟨rfl,qEFs2t0⟩ ?_
 refine tkw 4 20 ⟨rfl,qEFs2t0⟩ ?_
 refine tkw 5 21 ⟨rfl,qEFs2t0⟩ ?_
 refine tkw 6 22 ⟨rfl,qEFs2t0⟩ ?_
 exact qEFs23):p:=h
theorem qEFs28 {p:Prop} (h:p:=by
 obtain ⟨v,rfl⟩:∃ z,z=v':=⟨_,rfl⟩
 refine hK.out _ _ ?_ (fun hHeld=>?_)
 ·exact qEFs26
 clear hK K
 refine rdy (rdc 3 28 (fun K hK=>?_) .nil)
 go_simp
 go_at_call 21
 refine (HFl.out _ _ (by first | exact HPb.out | exact HPb.out.quiet (Only.refl _ _).drew)).mono ?_
 rintro e v' ⟨da2,dn2,dc2,fa2,fc2,rfl,hi9,hq⟩
 obtain ⟨l2,hl1⟩:∃ z,z=v.heap.size:=⟨_,rfl⟩
 obtain ⟨h2,hh1⟩:∃ z,z=v'.heap.size:=⟨_,rfl⟩
 have hKf:Ints .i64 l2 h2 v' (.slice fa2 64 fc2) (plainF 128).pix:=by rw [hl1,hh1];exact hi9
 have hKl:v.heap.size≤l2:=by omega
 have hKh:h2≤v'.heap.size:=by omega
 clear hi9 hl1 hh1
 have q:Only [] v v':=by first | exact hq | exact ((Only.refl _ _).drew).q hq
 have hVl:W2.heap.size≤v.heap.size:=o.out.size
 have HkC2:Hid (W2.heap.size≤bC2∧(bC2<l2∨h2≤bC2)):=lh (by have:=(Array.getElem?_eq_some_iff.1 HC2.out).1;have:=HzC2.out;exact ⟨by omega,.inl (by omega)⟩)
 have HkE2:Hid (W2.heap.size≤bE2∧(bE2<l2∨h2≤bE2)):=lh (by have:=(Array.getElem?_eq_some_iff.1 HE2.out).1;have:=HzE2.out;exact ⟨by omega,.inl (by omega)⟩)
 replace HC2:=lh (q.row HC2.out)
 replace HE2:=lh (q.row HE2.out)
 replace HPb:Hid (Ints .i64 0 v'.heap.size v' (.slice (some ⟨gb,0,none⟩) 64 cgb) (plainF 7).pix):=lh ((HPb.out.quiet q).mono (Nat.le_refl _) q.size)
 have HK:=lh hKf
 have HKb:Hid (W2.heap.size≤l2∧h2≤v'.heap.size):=lh ⟨by omega,hKh⟩
 replace o:=lh (o.out.q q)
 clear hq q hKf hKl hKh hVl
 obtain ⟨v,rfl⟩:∃ z,z=v':=⟨_,rfl⟩
 refine hK.out _ _ ?_ (fun hHeld=>?_)
 ·exact qEFs26
 clear hK K
 refine tkw 4 24 ⟨rfl,qEFs2t1⟩ ?_
 refine tkw 5 29 ⟨rfl,qEFs2t1⟩ ?_
 refine tkw 6 30 ⟨rfl,qEFs2t1⟩ ?_
 refine tkw 7 31 ⟨rfl,qEFs2t1⟩ ?_
 exact qEFs22):p:=h
theorem qEFs229 {p:Prop} (h:p:=by
 clear hb hz
 obtain ⟨v,rfl⟩:∃ z,z=v':=⟨_,rfl⟩
 refine hK.out _ _ ?_ (fun hHeld=>?_)
 ·exact qEFs24
 clear hK K
 exact qEFs21):p:=h
theorem qEFs29 {p:Prop} (h:p:=by
 obtain ⟨v,rfl⟩:∃ z,z=v':=⟨_,rfl⟩
 refine hK.out _ _ ?_ (fun hHeld=>?_)
 ·exact qEFs24
 clear hK K
 refine rdy (rdc 3 36 (fun K hK=>?_) (rdc 9 10 (fun K hK=>?_) .nil))
 ·go_simp
  go_at_call 21
  refine (HSk.out _ _ _ (by first | exact HPc.out | exact HPc.out.quiet (Only.refl _ _).drew) (by first | exact HPd.out | exact HPd.out.quiet (Only.refl _ _).drew)).mono ?_
  rintro e v' ⟨da3,dn3,dc3,fa3,fc3,rfl,hi9,hq⟩
  obtain ⟨l3,hl1⟩:∃ z,z=v.heap.size:=⟨_,rfl⟩
  obtain ⟨h3,hh1⟩:∃ z,z=v'.heap.size:=⟨_,rfl⟩
  have hKf:Ints .i64 l3 h3 v' (.slice fa3 64 fc3) (plainF 200).pix:=by rw [hl1,hh1];exact hi9
  have hKl:v.heap.size≤l3:=by omega
  have hKh:h3≤v'.heap.size:=by omega
  clear hi9 hl1 hh1
  have q:Only [] v v':=by first | exact hq | exact ((Only.refl _ _).drew).q hq
  have hVl:W3.heap.size≤v.heap.size:=o.out.size
  have HkC3:Hid (W3.heap.size≤bC3∧(bC3<l3∨h3≤bC3)):=lh (by have:=(Array.getElem?_eq_some_iff.1 HC3.out).1;have:=HzC3.out;exact ⟨by omega,.inl (by omega)⟩)
  replace HC3:=lh (q.row HC3.out)
  replace HPc:Hid (Ints .i64 0 v'.heap.size v' (.slice (some ⟨gc,0,none⟩) 64 cgc) (plainF 7).pix):=lh ((HPc.out.quiet q).mono (Nat.le_refl _) q.size)
  replace HPd:Hid (Ints .i64 0 v'.heap.size v' (.slice (some ⟨gd,0,none⟩) 64 cgd) (plainF 200).pix):=lh ((HPd.out.quiet q).mono (Nat.le_refl _) q.size)
  have HK:=lh hKf
  have HKb:Hid (W3.heap.size≤l3∧h3≤v'.heap.size):=lh ⟨by omega,hKh⟩
  replace o:=lh (o.out.q q)
  clear hq q hKf hKl hKh hVl
  obtain ⟨v,rfl⟩:∃ z,z=v':=⟨_,rfl⟩
  refine hK.out _ _ ?_ (fun hHeld=>?_)
  ·exact qEFs24
  clear hK K
  refine tkw 4 32 ⟨rfl,qEFs2t2⟩ ?_
  refine tkw 5 37 ⟨rfl,qEFs2t2⟩ ?_
  refine tkw 6 38 ⟨rfl,qEFs2t2⟩ ?_
  refine tkw 7 39 ⟨rfl,qEFs2t2⟩ ?_
  refine rdy (rdc 9 10 (fun K hK=>?_) .nil)
  go_simp
  generalize hW:World.alloc _ _=v'
  have q:Only [] v v':=by rw [← hW];first | exact Only.new _ _ | exact ((Only.refl _ _).drew).q (Only.new _ _)
  have HE3:Hid (v'.heap[v.heap.size]?=some (.cells #[.int .i64 0,.int .i64 0,.slice none 0 0] 24 (0,0))):=lh (by rw [← hW];exact heap_alloc_new _ _)
  have hz:W3.heap.size≤v.heap.size:=o.out.size
  have HkE3:Hid (W3.heap.size≤v.heap.size∧(v.heap.size<l3∨h3≤v.heap.size)):=lh ⟨hz,.inr HKb.out.2⟩
  have HnC3E3:Hid (bC3≠v.heap.size):=lh (by have:=(Array.getElem?_eq_some_iff.1 HC3.out).1;omega)
  replace HC3:=lh (q.row HC3.out)
  replace HK:Hid (Ints .i64 l3 h3 v' (.slice fa3 64 fc3) (plainF 200).pix):=lh (HK.out.only q (by simp))
  replace HKb:Hid (W3.heap.size≤l3∧h3≤v'.heap.size):=lh ⟨HKb.out.1,Nat.le_trans HKb.out.2 q.size⟩
  replace HPc:Hid (Ints .i64 0 v'.heap.size v' (.slice (some ⟨gc,0,none⟩) 64 cgc) (plainF 7).pix):=lh ((HPc.out.quiet q).mono (Nat.le_refl _) q.size)
  replace HPd:Hid (Ints .i64 0 v'.heap.size v' (.slice (some ⟨gd,0,none⟩) 64 cgd) (plainF 200).pix):=lh ((HPd.out.quiet q).mono (Nat.le_refl _) q.size)
  replace o:=lh (o.out.q q)
  clear hW q
  generalize hb:v.heap.size=bE3 at HE3 HkE3 HnC3E3 ⊢
  have HzE3:Hid (W3.heap.size≤bE3):=lh (by rw [← hb];exact hz)
  exact qEFs229
 ·go_simp
  generalize hW:World.alloc _ _=v'
  have q:Only [] v v':=by rw [← hW];first | exact Only.new _ _ | exact ((Only.refl _ _).drew).q (Only.new _ _)
  have HE3:Hid (v'.heap[v.heap.size]?=some (.cells #[.int .i64 0,.int .i64 0,.slice none 0 0] 24 (0,0))):=lh (by rw [← hW];exact heap_alloc_new _ _)
  have hz:W3.heap.size≤v.heap.size:=o.out.size
  have HnC3E3:Hid (bC3≠v.heap.size):=lh (by have:=(Array.getElem?_eq_some_iff.1 HC3.out).1;omega)
  replace HC3:=lh (q.row HC3.out)
  replace HPc:Hid (Ints .i64 0 v'.heap.size v' (.slice (some ⟨gc,0,none⟩) 64 cgc) (plainF 7).pix):=lh ((HPc.out.quiet q).mono (Nat.le_refl _) q.size)
  replace HPd:Hid (Ints .i64 0 v'.heap.size v' (.slice (some ⟨gd,0,none⟩) 64 cgd) (plainF 200).pix):=lh ((HPd.out.quiet q).mono (Nat.le_refl _) q.size)
  replace o:=lh (o.out.q q)
  clear hW q
  generalize hb:v.heap.size=bE3 at HE3 HnC3E3 ⊢
  have HzE3:Hid (W3.heap.size≤bE3):=lh (by rw [← hb];exact hz)
  clear hb hz
  exact qEFs20):p:=h
theorem qEFs210 {p:Prop} (h:p:=by
 obtain ⟨v,rfl⟩:∃ z,z=v':=⟨_,rfl⟩
 refine hK.out _ _ ?_ (fun hHeld=>?_)
 ·exact qEFs24
 clear hK K
 refine rdy (rdc 3 36 (fun K hK=>?_) (rdc 8 9 (fun K hK=>?_) .nil))
 ·go_simp
  go_at_call 21
  refine (HSk.out _ _ _ (by first | exact HPc.out | exact HPc.out.quiet (Only.refl _ _).drew) (by first | exact HPd.out | exact HPd.out.quiet (Only.refl _ _).drew)).mono ?_
  rintro e v' ⟨da3,dn3,dc3,fa3,fc3,rfl,hi9,hq⟩
  obtain ⟨l3,hl1⟩:∃ z,z=v.heap.size:=⟨_,rfl⟩
  obtain ⟨h3,hh1⟩:∃ z,z=v'.heap.size:=⟨_,rfl⟩
  have hKf:Ints .i64 l3 h3 v' (.slice fa3 64 fc3) (plainF 200).pix:=by rw [hl1,hh1];exact hi9
  have hKl:v.heap.size≤l3:=by omega
  have hKh:h3≤v'.heap.size:=by omega
  clear hi9 hl1 hh1
  have q:Only [] v v':=by first | exact hq | exact ((Only.refl _ _).drew).q hq
  have hVl:W3.heap.size≤v.heap.size:=o.out.size
  have HkE3:Hid (W3.heap.size≤bE3∧(bE3<l3∨h3≤bE3)):=lh (by have:=(Array.getElem?_eq_some_iff.1 HE3.out).1;have:=HzE3.out;exact ⟨by omega,.inl (by omega)⟩)
  replace HE3:=lh (q.row HE3.out)
  replace HPc:Hid (Ints .i64 0 v'.heap.size v' (.slice (some ⟨gc,0,none⟩) 64 cgc) (plainF 7).pix):=lh ((HPc.out.quiet q).mono (Nat.le_refl _) q.size)
  replace HPd:Hid (Ints .i64 0 v'.heap.size v' (.slice (some ⟨gd,0,none⟩) 64 cgd) (plainF 200).pix):=lh ((HPd.out.quiet q).mono (Nat.le_refl _) q.size)
  have HK:=lh hKf
  have HKb:Hid (W3.heap.size≤l3∧h3≤v'.heap.size):=lh ⟨by omega,hKh⟩
  replace o:=lh (o.out.q q)
  clear hq q hKf hKl hKh hVl
  obtain ⟨v,rfl⟩:∃ z,z=v':=⟨_,rfl⟩
  refine hK.out _ _ ?_ (fun hHeld=>?_)
  ·exact qEFs24
  clear hK K
  refine tkw 4 32 ⟨rfl,qEFs2t2⟩ ?_
  refine tkw 5 37 ⟨rfl,qEFs2t2⟩ ?_
  refine tkw 6 38 ⟨rfl,qEFs2t2⟩ ?_
  refine tkw 7 39 ⟨rfl,qEFs2t2⟩ ?_
  refine rdy (rdc 8 9 (fun K hK=>?_) .nil)
  go_simp
  generalize hW:World.alloc _ _=v'
  have q:Only [] v v':=by rw [← hW];first | exact Only.new _ _ | exact ((Only.refl _ _).drew).q (Only.new _ _)
  have HC3:Hid (v'.heap[v.heap.size]?=some (.cells #[.int .i64 0,.slice none 0 0] 31 (0,0))):=lh (by rw [← hW];exact heap_alloc_new _ _)
  have hz:W3.heap.size≤v.heap.size:=o.out.size
  have HkC3:Hid (W3.heap.size≤v.heap.size∧(v.heap.size<l3∨h3≤v.heap.size)):=lh ⟨hz,.inr HKb.out.2⟩
  have HnC3E3:Hid (v.heap.size≠bE3):=lh (by have:=(Array.getElem?_eq_some_iff.1 HE3.out).1;omega)
  replace HE3:=lh (q.row HE3.out)
  replace HK:Hid (Ints .i64 l3 h3 v' (.slice fa3 64 fc3) (plainF 200).pix):=lh (HK.out.only q (by simp))
  replace HKb:Hid (W3.heap.size≤l3∧h3≤v'.heap.size):=lh ⟨HKb.out.1,Nat.le_trans HKb.out.2 q.size⟩
  replace HPc:Hid (Ints .i64 0 v'.heap.size v' (.slice (some ⟨gc,0,none⟩) 64 cgc) (plainF 7).pix):=lh ((HPc.out.quiet q).mono (Nat.le_refl _) q.size)
  replace HPd:Hid (Ints .i64 0 v'.heap.size v' (.slice (some ⟨gd,0,none⟩) 64 cgd) (plainF 200).pix):=lh ((HPd.out.quiet q).mono (Nat.le_refl _) q.size)
  replace o:=lh (o.out.q q)
  clear hW q
  generalize hb:v.heap.size=bC3 at HC3 HkC3 HnC3E3 ⊢
  have HzC3:Hid (W3.heap.size≤bC3):=lh (by rw [← hb];exact hz)
  exact qEFs229
 ·go_simp
  generalize hW:World.alloc _ _=v'
  have q:Only [] v v':=by rw [← hW];first | exact Only.new _ _ | exact ((Only.refl _ _).drew).q (Only.new _ _)
  have HC3:Hid (v'.heap[v.heap.size]?=some (.cells #[.int .i64 0,.slice none 0 0] 31 (0,0))):=lh (by rw [← hW];exact heap_alloc_new _ _)
  have hz:W3.heap.size≤v.heap.size:=o.out.size
  have HnC3E3:Hid (v.heap.size≠bE3):=lh (by have:=(Array.getElem?_eq_some_iff.1 HE3.out).1;omega)
  replace HE3:=lh (q.row HE3.out)
  replace HPc:Hid (Ints .i64 0 v'.heap.size v' (.slice (some ⟨gc,0,none⟩) 64 cgc) (plainF 7).pix):=lh ((HPc.out.quiet q).mono (Nat.le_refl _) q.size)
  replace HPd:Hid (Ints .i64 0 v'.heap.size v' (.slice (some ⟨gd,0,none⟩) 64 cgd) (plainF 200).pix):=lh ((HPd.out.quiet q).mono (Nat.le_refl _) q.size)
  replace o:=lh (o.out.q q)
  clear hW q
  generalize hb:v.heap.size=bC3 at HC3 HnC3E3 ⊢
  have HzC3:Hid (W3.heap.size≤bC3):=lh (by rw [← hb];exact hz)
  clear hb hz
  exact qEFs20):p:=h
theorem qEFs211 {p:Prop} (h:p:=by
 obtain ⟨v,rfl⟩:∃ z,z=v':=⟨_,rfl⟩
 refine hK.out _ _ ?_ (fun hHeld=>?_)
 ·exact qEFs24
 clear hK K
 refine rdy (rdc 1 34 (fun K hK=>?_) .nil)
 go_simp
 go_at_call 27
 refine (HPl200.out _).mono ?_
 rintro e v' ⟨gd,cgd,rfl,ho9,hq⟩
 have hP:Ints .i64 0 v'.heap.size v' (.slice (some ⟨gd,0,none⟩) 64 cgd) (plainF 200).pix:=ho9.ints.mono (Nat.zero_le _) (Nat.le_refl _)
 clear ho9
 have q:Only [] v v':=by first | exact hq | exact ((Only.refl _ _).drew).q hq
 replace HC3:=lh (q.row HC3.out)
 replace HE3:=lh (q.row HE3.out)
 replace HPc:Hid (Ints .i64 0 v'.heap.size v' (.slice (some ⟨gc,0,none⟩) 64 cgc) (plainF 7).pix):=lh ((HPc.out.quiet q).mono (Nat.le_refl _) q.size)
 have HPd:=lh hP
 replace o:=lh (o.out.q q)
 clear hq q hP
 exact qEFs20):p:=h
theorem qEFs230 {p:Prop} (h:p:=by
 clear hb hz
 obtain ⟨v,rfl⟩:∃ z,z=v':=⟨_,rfl⟩
 refine hK.out _ _ ?_ (fun hHeld=>?_)
 ·exact qEFs25
 clear hK K
 exact qEFs23):p:=h
theorem qEFs212 {p:Prop} (h:p:=by
 go_simp
 go_at_call 14
 refine (HFr.out _ _ (by first | exact HPa.out | exact HPa.out.quiet (Only.refl _ _).drew)).mono ?_
 rintro e v' ⟨da1,dn1,dc1,fa1,fc1,rfl,hi9,hq⟩
 obtain ⟨l1,hl1⟩:∃ z,z=v.heap.size:=⟨_,rfl⟩
 obtain ⟨h1,hh1⟩:∃ z,z=v'.heap.size:=⟨_,rfl⟩
 have hKf:Ints .i64 l1 h1 v' (.slice fa1 64 fc1) (plainF 128).pix:=by rw [hl1,hh1];exact hi9
 have hKl:v.heap.size≤l1:=by omega
 have hKh:h1≤v'.heap.size:=by omega
 clear hi9 hl1 hh1
 have q:Only [] v v':=by first | exact hq | exact ((Only.refl _ _).drew).q hq
 have hVl:W1.heap.size≤v.heap.size:=o.out.size
 have HkC1:Hid (W1.heap.size≤bC1∧(bC1<l1∨h1≤bC1)):=lh (by have:=(Array.getElem?_eq_some_iff.1 HC1.out).1;have:=HzC1.out;exact ⟨by omega,.inl (by omega)⟩)
 replace HC1:=lh (q.row HC1.out)
 replace HPa:Hid (Ints .i64 0 v'.heap.size v' (.slice (some ⟨ga,0,none⟩) 64 cga) (plainF 128).pix):=lh ((HPa.out.quiet q).mono (Nat.le_refl _) q.size)
 have HK:=lh hKf
 have HKb:Hid (W1.heap.size≤l1∧h1≤v'.heap.size):=lh ⟨by omega,hKh⟩
 replace o:=lh (o.out.q q)
 clear hq q hKf hKl hKh hVl
 obtain ⟨v,rfl⟩:∃ z,z=v':=⟨_,rfl⟩
 refine hK.out _ _ ?_ (fun hHeld=>?_)
 ·exact qEFs25
 clear hK K
 refine tkw 3 16 ⟨rfl,qEFs2t0⟩ ?_
 refine tkw 4 20 ⟨rfl,qEFs2t0⟩ ?_
 refine tkw 5 21 ⟨rfl,qEFs2t0⟩ ?_
 refine tkw 6 22 ⟨rfl,qEFs2t0⟩ ?_
 refine rdy (rdc 8 3 (fun K hK=>?_) .nil)
 go_simp
 generalize hW:World.alloc _ _=v'
 have q:Only [] v v':=by rw [← hW];first | exact Only.new _ _ | exact ((Only.refl _ _).drew).q (Only.new _ _)
 have HE1:Hid (v'.heap[v.heap.size]?=some (.cells #[.int .i64 0,.int .i64 0,.slice none 0 0] 24 (0,0))):=lh (by rw [← hW];exact heap_alloc_new _ _)
 have hz:W1.heap.size≤v.heap.size:=o.out.size
 have HkE1:Hid (W1.heap.size≤v.heap.size∧(v.heap.size<l1∨h1≤v.heap.size)):=lh ⟨hz,.inr HKb.out.2⟩
 have HnC1E1:Hid (bC1≠v.heap.size):=lh (by have:=(Array.getElem?_eq_some_iff.1 HC1.out).1;omega)
 replace HC1:=lh (q.row HC1.out)
 replace HK:Hid (Ints .i64 l1 h1 v' (.slice fa1 64 fc1) (plainF 128).pix):=lh (HK.out.only q (by simp))
 replace HKb:Hid (W1.heap.size≤l1∧h1≤v'.heap.size):=lh ⟨HKb.out.1,Nat.le_trans HKb.out.2 q.size⟩
 replace HPa:Hid (Ints .i64 0 v'.heap.size v' (.slice (some ⟨ga,0,none⟩) 64 cga) (plainF 128).pix):=lh ((HPa.out.quiet q).mono (Nat.le_refl _) q.size)
 replace o:=lh (o.out.q q)
 clear hW q
 generalize hb:v.heap.size=bE1 at HE1 HkE1 HnC1E1 ⊢
 have HzE1:Hid (W1.heap.size≤bE1):=lh (by rw [← hb];exact hz)
 exact qEFs230):p:=h
theorem qEFs231 {p:Prop} (h:p:=by
 clear hb hz
 obtain ⟨v,rfl⟩:∃ z,z=v':=⟨_,rfl⟩
 refine hK.out _ _ ?_ (fun hHeld=>?_)
 ·exact qEFs26
 clear hK K
 exact qEFs22):p:=h
theorem qEFs213 {p:Prop} (h:p:=by
 go_simp
 go_at_call 21
 refine (HFl.out _ _ (by first | exact HPb.out | exact HPb.out.quiet (Only.refl _ _).drew)).mono ?_
 rintro e v' ⟨da2,dn2,dc2,fa2,fc2,rfl,hi9,hq⟩
 obtain ⟨l2,hl1⟩:∃ z,z=v.heap.size:=⟨_,rfl⟩
 obtain ⟨h2,hh1⟩:∃ z,z=v'.heap.size:=⟨_,rfl⟩
 have hKf:Ints .i64 l2 h2 v' (.slice fa2 64 fc2) (plainF 128).pix:=by rw [hl1,hh1];exact hi9
 have hKl:v.heap.size≤l2:=by omega
 have hKh:h2≤v'.heap.size:=by omega
 clear hi9 hl1 hh1
 have q:Only [] v v':=by first | exact hq | exact ((Only.refl _ _).drew).q hq
 have hVl:W2.heap.size≤v.heap.size:=o.out.size
 have HkC2:Hid (W2.heap.size≤bC2∧(bC2<l2∨h2≤bC2)):=lh (by have:=(Array.getElem?_eq_some_iff.1 HC2.out).1;have:=HzC2.out;exact ⟨by omega,.inl (by omega)⟩)
 replace HC2:=lh (q.row HC2.out)
 replace HPb:Hid (Ints .i64 0 v'.heap.size v' (.slice (some ⟨gb,0,none⟩) 64 cgb) (plainF 7).pix):=lh ((HPb.out.quiet q).mono (Nat.le_refl _) q.size)
 have HK:=lh hKf
 have HKb:Hid (W2.heap.size≤l2∧h2≤v'.heap.size):=lh ⟨by omega,hKh⟩
 replace o:=lh (o.out.q q)
 clear hq q hKf hKl hKh hVl
 obtain ⟨v,rfl⟩:∃ z,z=v':=⟨_,rfl⟩
 refine hK.out _ _ ?_ (fun hHeld=>?_)
 ·exact qEFs26
 clear hK K
 refine tkw 4 24 ⟨rfl,qEFs2t1⟩ ?_
 refine tkw 5 29 ⟨rfl,qEFs2t1⟩ ?_
 refine tkw 6 30 ⟨rfl,qEFs2t1⟩ ?_
 refine tkw 7 31 ⟨rfl,qEFs2t1⟩ ?_
 refine rdy (rdc 9 7 (fun K hK=>?_) .nil)
 go_simp
 generalize hW:World.alloc _ _=v'
 have q:Only [] v v':=by rw [← hW];first | exact Only.new _ _ | exact ((Only.refl _ _).drew).q (Only.new _ _)
 have HE2:Hid (v'.heap[v.heap.size]?=some (.cells #[.int .i64 0,.int .i64 0,.slice none 0 0] 24 (0,0))):=lh (by rw [← hW];exact heap_alloc_new _ _)
 have hz:W2.heap.size≤v.heap.size:=o.out.size
 have HkE2:Hid (W2.heap.size≤v.heap.size∧(v.heap.size<l2∨h2≤v.heap.size)):=lh ⟨hz,.inr HKb.out.2⟩
 have HnC2E2:Hid (bC2≠v.heap.size):=lh (by have:=(Array.getElem?_eq_some_iff.1 HC2.out).1;omega)
 replace HC2:=lh (q.row HC2.out)
 replace HK:Hid (Ints .i64 l2 h2 v' (.slice fa2 64 fc2) (plainF 128).pix):=lh (HK.out.only q (by simp))
 replace HKb:Hid (W2.heap.size≤l2∧h2≤v'.heap.size):=lh ⟨HKb.out.1,Nat.le_trans HKb.out.2 q.size⟩
 replace HPb:Hid (Ints .i64 0 v'.heap.size v' (.slice (some ⟨gb,0,none⟩) 64 cgb) (plainF 7).pix):=lh ((HPb.out.quiet q).mono (Nat.le_refl _) q.size)
 replace o:=lh (o.out.q q)
 clear hW q
 generalize hb:v.heap.size=bE2 at HE2 HkE2 HnC2E2 ⊢
 have HzE2:Hid (W2.heap.size≤bE2):=lh (by rw [← hb];exact hz)
 exact qEFs231):p:=h
theorem qEFs214 {p:Prop} (h:p:=by
 go_simp
 go_at_call 14
 refine (HFr.out _ _ (by first | exact HPa.out | exact HPa.out.quiet (Only.refl _ _).drew)).mono ?_
 rintro e v' ⟨da1,dn1,dc1,fa1,fc1,rfl,hi9,hq⟩
 obtain ⟨l1,hl1⟩:∃ z,z=v.heap.size:=⟨_,rfl⟩
 obtain ⟨h1,hh1⟩:∃ z,z=v'.heap.size:=⟨_,rfl⟩
 have hKf:Ints .i64 l1 h1 v' (.slice fa1 64 fc1) (plainF 128).pix:=by rw [hl1,hh1];exact hi9
 have hKl:v.heap.size≤l1:=by omega
 have hKh:h1≤v'.heap.size:=by omega
 clear hi9 hl1 hh1
 have q:Only [] v v':=by first | exact hq | exact ((Only.refl _ _).drew).q hq
 have hVl:W1.heap.size≤v.heap.size:=o.out.size
 have HkE1:Hid (W1.heap.size≤bE1∧(bE1<l1∨h1≤bE1)):=lh (by have:=(Array.getElem?_eq_some_iff.1 HE1.out).1;have:=HzE1.out;exact ⟨by omega,.inl (by omega)⟩)
 replace HE1:=lh (q.row HE1.out)
 replace HPa:Hid (Ints .i64 0 v'.heap.size v' (.slice (some ⟨ga,0,none⟩) 64 cga) (plainF 128).pix):=lh ((HPa.out.quiet q).mono (Nat.le_refl _) q.size)
 have HK:=lh hKf
 have HKb:Hid (W1.heap.size≤l1∧h1≤v'.heap.size):=lh ⟨by omega,hKh⟩
 replace o:=lh (o.out.q q)
 clear hq q hKf hKl hKh hVl
 obtain ⟨v,rfl⟩:∃ z,z=v':=⟨_,rfl⟩
 refine hK.out _ _ ?_ (fun hHeld=>?_)
 ·exact qEFs25
 clear hK K
 refine tkw 3 16 ⟨rfl,qEFs2t0⟩ ?_
 refine tkw 4 20 ⟨rfl,qEFs2t0⟩ ?_
 refine tkw 5 21 ⟨rfl,qEFs2t0⟩ ?_
 refine tkw 6 22 ⟨rfl,qEFs2t0⟩ ?_
 refine rdy (rdc 7 2 (fun K hK=>?_) .nil)
 go_simp
 generalize hW:World.alloc _ _=v'
 have q:Only [] v v':=by rw [← hW];first | exact Only.new _ _ | exact ((Only.refl _ _).drew).q (Only.new _ _)
 have HC1:Hid (v'.heap[v.heap.size]?=some (.cells #[.int .i64 0,.slice none 0 0] 31 (0,0))):=lh (by rw [← hW];exact heap_alloc_new _ _)
 have hz:W1.heap.size≤v.heap.size:=o.out.size
 have HkC1:Hid (W1.heap.size≤v.heap.size∧(v.heap.size<l1∨h1≤v.heap.size)):=lh ⟨hz,.inr HKb.out.2⟩
 have HnC1E1:Hid (v.heap.size≠bE1):=lh (by have:=(Array.getElem?_eq_some_iff.1 HE1.out).1;omega)
 replace HE1:=lh (q.row HE1.out)
 replace HK:Hid (Ints .i64 l1 h1 v' (.slice fa1 64 fc1) (plainF 128).pix):=lh (HK.out.only q (by simp))
 replace HKb:Hid (W1.heap.size≤l1∧h1≤v'.heap.size):=lh ⟨HKb.out.1,Nat.le_trans HKb.out.2 q.size⟩
 replace HPa:Hid (Ints .i64 0 v'.heap.size v' (.slice (some ⟨ga,0,none⟩) 64 cga) (plainF 128).pix):=lh ((HPa.out.quiet q).mono (Nat.le_refl _) q.size)
 replace o:=lh (o.out.q q)
 clear hW q
 generalize hb:v.heap.size=bC1 at HC1 HkC1 HnC1E1 ⊢
 have HzC1:Hid (W1.heap.size≤bC1):=lh (by rw [← hb];exact hz)
 exact qEFs230):p:=h
theorem qEFs215 {p:Prop} (h:p:=by
 go_simp
 go_at_call 21
 refine (HFl.out _ _ (by first | exact HPb.out | exact HPb.out.quiet (Only.refl _ _).drew)).mono ?_
 rintro e v' ⟨da2,dn2,dc2,fa2,fc2,rfl,hi9,hq⟩
 obtain ⟨l2,hl1⟩:∃ z,z=v.heap.size:=⟨_,rfl⟩
 obtain ⟨h2,hh1⟩:∃ z,z=v'.heap.size:=⟨_,rfl⟩
 have hKf:Ints .i64 l2 h2 v' (.slice fa2 64 fc2) (plainF 128).pix:=by rw [hl1,hh1];exact hi9
 have hKl:v.heap.size≤l2:=by omega
 have hKh:h2≤v'.heap.size:=by omega
 clear hi9 hl1 hh1
 have q:Only [] v v':=by first | exact hq | exact ((Only.refl _ _).drew).q hq
 have hVl:W2.heap.size≤v.heap.size:=o.out.size
 have HkE2:Hid (W2.heap.size≤bE2∧(bE2<l2∨h2≤bE2)):=lh (by have:=(Array.getElem?_eq_some_iff.1 HE2.out).1;have:=HzE2.out;exact ⟨by omega,.inl (by omega)⟩)
 replace HE2:=lh (q.row HE2.out)
 replace HPb:Hid (Ints .i64 0 v'.heap.size v' (.slice (some ⟨gb,0,none⟩) 64 cgb) (plainF 7).pix):=lh ((HPb.out.quiet q).mono (Nat.le_refl _) q.size)
 have HK:=lh hKf
 have HKb:Hid (W2.heap.size≤l2∧h2≤v'.heap.size):=lh ⟨by omega,hKh⟩
 replace o:=lh (o.out.q q)
 clear hq q hKf hKl hKh hVl
 obtain ⟨v,rfl⟩:∃ z,z=v':=⟨_,rfl⟩
 refine hK.out _ _ ?_ (fun hHeld=>?_)
 ·exact qEFs26
 clear hK K
 refine tkw 4 24 ⟨rfl,qEFs2t1⟩ ?_
 refine tkw 5 29 ⟨rfl,qEFs2t1⟩ ?_
 refine tkw 6 30 ⟨rfl,qEFs2t1⟩ ?_
 refine tkw 7 31 ⟨rfl,qEFs2t1⟩ ?_
 refine rdy (rdc 8 6 (fun K hK=>?_) .nil)
 go_simp
 generalize hW:World.alloc _ _=v'
 have q:Only [] v v':=by rw [← hW];first | exact Only.new _ _ | exact ((Only.refl _ _).drew).q (Only.new _ _)
 have HC2:Hid (v'.heap[v.heap.size]?=some (.cells #[.int .i64 0,.slice none 0 0] 31 (0,0))):=lh (by rw [← hW];exact heap_alloc_new _ _)
 have hz:W2.heap.size≤v.heap.size:=o.out.size
 have HkC2:Hid (W2.heap.size≤v.heap.size∧(v.heap.size<l2∨h2≤v.heap.size)):=lh ⟨hz,.inr HKb.out.2⟩
 have HnC2E2:Hid (v.heap.size≠bE2):=lh (by have:=(Array.getElem?_eq_some_iff.1 HE2.out).1;omega)
 replace HE2:=lh (q.row HE2.out)
 replace HK:Hid (Ints .i64 l2 h2 v' (.slice fa2 64 fc2) (plainF 128).pix):=lh (HK.out.only q (by simp))
 replace HKb:Hid (W2.heap.size≤l2∧h2≤v'.heap.size):=lh ⟨HKb.out.1,Nat.le_trans HKb.out.2 q.size⟩
 replace HPb:Hid (Ints .i64 0 v'.heap.size v' (.slice (some ⟨gb,0,none⟩) 64 cgb) (plainF 7).pix):=lh ((HPb.out.quiet q).mono (Nat.le_refl _) q.size)
 replace o:=lh (o.out.q q)
 clear hW q
 generalize hb:v.heap.size=bC2 at HC2 HkC2 HnC2E2 ⊢
 have HzC2:Hid (W2.heap.size≤bC2):=lh (by rw [← hb];exact hz)
 exact qEFs231):p:=h
theorem qEFs217 {p:Prop} (h:p:=by
 exact qEFs229):p:=h
theorem qEFs218 {p:Prop} (h:p:=by
 exact qEFs230):p:=h
theorem qEFs219 {p:Prop} (h:p:=by
 exact qEFs231):p:=h
theorem qEFs220 {p:Prop} (h:p:=by
 obtain ⟨v,rfl⟩:∃ z,z=v':=⟨_,rfl⟩
 refine hK.out _ _ ?_ (fun hHeld=>?_)
 ·exact qEFs24
 clear hK K
 refine rdy (rdc 1 34 (fun K hK=>?_) (rdc 9 10 (fun K hK=>?_) .nil))
 ·go_simp
  go_at_call 27
  refine (HPl200.out _).mono ?_
  rintro e v' ⟨gd,cgd,rfl,ho9,hq⟩
  have hP:Ints .i64 0 v'.heap.size v' (.slice (some ⟨gd,0,none⟩) 64 cgd) (plainF 200).pix:=ho9.ints.mono (Nat.zero_le _) (Nat.le_refl _)
  clear ho9
  have q:Only [] v v':=by first | exact hq | exact ((Only.refl _ _).drew).q hq
  replace HC3:=lh (q.row HC3.out)
  replace HPc:Hid (Ints .i64 0 v'.heap.size v' (.slice (some ⟨gc,0,none⟩) 64 cgc) (plainF 7).pix):=lh ((HPc.out.quiet q).mono (Nat.le_refl _) q.size)
  have HPd:=lh hP
  replace o:=lh (o.out.q q)
  clear hq q hP
  exact qEFs29
 ·go_simp
  generalize hW:World.alloc _ _=v'
  have q:Only [] v v':=by rw [← hW];first | exact Only.new _ _ | exact ((Only.refl _ _).drew).q (Only.new _ _)
  have HE3:Hid (v'.heap[v.heap.size]?=some (.cells #[.int .i64 0,.int .i64 0,.slice none 0 0] 24 (0,0))):=lh (by rw [← hW];exact heap_alloc_new _ _)
  have hz:W3.heap.size≤v.heap.size:=o.out.size
  have HnC3E3:Hid (bC3≠v.heap.size):=lh (by have:=(Array.getElem?_eq_some_iff.1 HC3.out).1;omega)
  replace HC3:=lh (q.row HC3.out)
  replace HPc:Hid (Ints .i64 0 v'.heap.size v' (.slice (some ⟨gc,0,none⟩) 64 cgc) (plainF 7).pix):=lh ((HPc.out.quiet q).mono (Nat.le_refl _) q.size)
  replace o:=lh (o.out.q q)
  clear hW q
  generalize hb:v.heap.size=bE3 at HE3 HnC3E3 ⊢
  have HzE3:Hid (W3.heap.size≤bE3):=lh (by rw [← hb];exact hz)
  clear hb hz
  exact qEFs211):p:=h
theorem qEFs221 {p:Prop} (h:p:=by
 obtain ⟨v,rfl⟩:∃ z,z=v':=⟨_,rfl⟩
 refine hK.out _ _ ?_ (fun hHeld=>?_)
 ·exact qEFs24
 clear hK K
 refine rdy (rdc 1 34 (fun K hK=>?_) (rdc 8 9 (fun K hK=>?_) .nil))
 ·go_simp
  go_at_call 27
  refine (HPl200.out _).mono ?_
  rintro e v' ⟨gd,cgd,rfl,ho9,hq⟩
  have hP:Ints .i64 0 v'.heap.size v' (.slice (some ⟨gd,0,none⟩) 64 cgd) (plainF 200).pix:=ho9.ints.mono (Nat.zero_le _) (Nat.le_refl _)
  clear ho9
  have q:Only [] v v':=by first | exact hq | exact ((Only.refl _ _).drew).q hq
  replace HE3:=lh (q.row HE3.out)
  replace HPc:Hid (Ints .i64 0 v'.heap.size v' (.slice (some ⟨gc,0,none⟩) 64 cgc) (plainF 7).pix):=lh ((HPc.out.quiet q).mono (Nat.le_refl _) q.size)
  have HPd:=lh hP
  replace o:=lh (o.out.q q)
  clear hq q hP
  exact qEFs210
 ·go_simp
  generalize hW:World.alloc _ _=v'
  have q:Only [] v v':=by rw [← hW];first | exact Only.new _ _ | exact ((Only.refl _ _).drew).q (Only.new _ _)
  have HC3:Hid (v'.heap[v.heap.size]?=some (.cells #[.int .i64 0,.slice none 0 0] 31 (0,0))):=lh (by rw [← hW];exact heap_alloc_new _ _)
  have hz:W3.heap.size≤v.heap.size:=o.out.size
  have HnC3E3:Hid (v.heap.size≠bE3):=lh (by have:=(Array.getElem?_eq_some_iff.1 HE3.out).1;omega)
  replace HE3:=lh (q.row HE3.out)
  replace HPc:Hid (Ints .i64 0 v'.heap.size v' (.slice (some ⟨gc,0,none⟩) 64 cgc) (plainF 7).pix):=lh ((HPc.out.quiet q).mono (Nat.le_refl _) q.size)
  replace o:=lh (o.out.q q)
  clear hW q
  generalize hb:v.heap.size=bC3 at HC3 HnC3E3 ⊢
  have HzC3:Hid (W3.heap.size≤bC3):=lh (by rw [← hb];exact hz)
  clear hb hz
  exact qEFs211):p:=h
theorem qEFs222 {p:Prop} (h:p:=by
 obtain ⟨v,rfl⟩:∃ z,z=v':=⟨_,rfl⟩
 refine hK.out _ _ ?_ (fun hHeld=>?_)
 ·exact qEFs25
 clear hK K
 refine rdy (rdc 2 19 (fun K hK=>?_) (rdc 8 3 (fun K hK=>?_) .nil))
 ·exact qEFs212
 ·go_simp
  generalize hW:World.alloc _ _=v'
  have q:Only [] v v':=by rw [← hW];first | exact Only.new _ _ | exact ((Only.refl _ _).drew).q (Only.new _ _)
  have HE1:Hid (v'.heap[v.heap.size]?=some (.cells #[.int .i64 0,.int .i64 0,.slice none 0 0] 24 (0,0))):=lh (by rw [← hW];exact heap_alloc_new _ _)
  have hz:W1.heap.size≤v.heap.size:=o.out.size
  have HnC1E1:Hid (bC1≠v.heap.size):=lh (by have:=(Array.getElem?_eq_some_iff.1 HC1.out).1;omega)
  replace HC1:=lh (q.row HC1.out)
  replace HPa:Hid (Ints .i64 0 v'.heap.size v' (.slice (some ⟨ga,0,none⟩) 64 cga) (plainF 128).pix):=lh ((HPa.out.quiet q).mono (Nat.le_refl _) q.size)
  replace o:=lh (o.out.q q)
  clear hW q
  generalize hb:v.heap.size=bE1 at HE1 HnC1E1 ⊢
  have HzE1:Hid (W1.heap.size≤bE1):=lh (by rw [← hb];exact hz)
  clear hb hz
  exact qEFs27):p:=h
theorem qEFs223 {p:Prop} (h:p:=by
 obtain ⟨v,rfl⟩:∃ z,z=v':=⟨_,rfl⟩
 refine hK.out _ _ ?_ (fun hHeld=>?_)
 ·exact qEFs26
 clear hK K
 refine rdy (rdc 3 28 (fun K hK=>?_) (rdc 9 7 (fun K hK=>?_) .nil))
 ·exact qEFs213
 ·go_simp
  generalize hW:World.alloc _ _=v'
  have q:Only [] v v':=by rw [← hW];first | exact Only.new _ _ | exact ((Only.refl _ _).drew).q (Only.new _ _)
  have HE2:Hid (v'.heap[v.heap.size]?=some (.cells #[.int .i64 0,.int .i64 0,.slice none 0 0] 24 (0,0))):=lh (by rw [← hW];exact heap_alloc_new _ _)
  have hz:W2.heap.size≤v.heap.size:=o.out.size
  have HnC2E2:Hid (bC2≠v.heap.size):=lh (by have:=(Array.getElem?_eq_some_iff.1 HC2.out).1;omega)
  replace HC2:=lh (q.row HC2.out)
  replace HPb:Hid (Ints .i64 0 v'.heap.size v' (.slice (some ⟨gb,0,none⟩) 64 cgb) (plainF 7).pix):=lh ((HPb.out.quiet q).mono (Nat.le_refl _) q.size)
  replace o:=lh (o.out.q q)
  clear hW q
  generalize hb:v.heap.size=bE2 at HE2 HnC2E2 ⊢
  have HzE2:Hid (W2.heap.size≤bE2):=lh (by rw [← hb];exact hz)
  clear hb hz
  exact qEFs28):p:=h
theorem qEFs224 {p:Prop} (h:p:=by
 obtain ⟨v,rfl⟩:∃ z,z=v':=⟨_,rfl⟩
 refine hK.out _ _ ?_ (fun hHeld=>?_)
 ·exact qEFs25
 clear hK K
 refine rdy (rdc 2 19 (fun K hK=>?_) (rdc 7 2 (fun K hK=>?_) .nil))
 ·exact qEFs214
 ·go_simp
  generalize hW:World.alloc _ _=v'
  have q:Only [] v v':=by rw [← hW];first | exact Only.new _ _ | exact ((Only.refl _ _).drew).q (Only.new _ _)
  have HC1:Hid (v'.heap[v.heap.size]?=some (.cells #[.int .i64 0,.slice none 0 0] 31 (0,0))):=lh (by rw [← hW];exact heap_alloc_new _ _)
  have hz:W1.heap.size≤v.heap.size:=o.out.size
  have HnC1E1:Hid (v.heap.size≠bE1):=lh (by have:=(Array.getElem?_eq_some_iff.1 HE1.out).1;omega)
  replace HE1:=lh (q.row HE1.out)
  replace HPa:Hid (Ints .i64 0 v'.heap.size v' (.slice (some ⟨ga,0,none⟩) 64 cga) (plainF 128).pix):=lh ((HPa.out.quiet q).mono (Nat.le_refl _) q.size)
  replace o:=lh (o.out.q q)
  clear hW q
  generalize hb:v.heap.size=bC1 at HC1 HnC1E1 ⊢
  have HzC1:Hid (W1.heap.size≤bC1):=lh (by rw [← hb];exact hz)
  clear hb hz
  exact qEFs27):p:=h
theorem qEFs225 {p:Prop} (h:p:=by
 obtain ⟨v,rfl⟩:∃ z,z=v':=⟨_,rfl⟩
 refine hK.out _ _ ?_ (fun hHeld=>?_)
 ·exact qEFs26
 clear hK K
 refine rdy (rdc 3 28 (fun K hK=>?_) (rdc 8 6 (fun K hK=>?_) .nil))
 ·exact qEFs215
 ·go_simp
  generalize hW:World.alloc _ _=v'
  have q:Only [] v v':=by rw [← hW];first | exact Only.new _ _ | exact ((Only.refl _ _).drew).q (Only.new _ _)
  have HC2:Hid (v'.heap[v.heap.size]?=some (.cells #[.int .i64 0,.slice none 0 0] 31 (0,0))):=lh (by rw [← hW];exact heap_alloc_new _ _)
  have hz:W2.heap.size≤v.heap.size:=o.out.size
  have HnC2E2:Hid (v.heap.size≠bE2):=lh (by have:=(Array.getElem?_eq_some_iff.1 HE2.out).1;omega)
  replace HE2:=lh (q.row HE2.out)
  replace HPb:Hid (Ints .i64 0 v'.heap.size v' (.slice (some ⟨gb,0,none⟩) 64 cgb) (plainF 7).pix):=lh ((HPb.out.quiet q).mono (Nat.le_refl _) q.size)
  replace o:=lh (o.out.q q)
  clear hW q
  generalize hb:v.heap.size=bC2 at HC2 HnC2E2 ⊢
  have HzC2:Hid (W2.heap.size≤bC2):=lh (by rw [← hb];exact hz)
  clear hb hz
  exact qEFs28):p:=h
theorem qEFs226 {p:Prop} (h:p:=by
 clear hb hz
 obtain ⟨v,rfl⟩:∃ z,z=v':=⟨_,rfl⟩
 refine hK.out _ _ ?_ (fun hHeld=>?_)
 ·exact qEFs25
 clear hK K
 refine rdy (rdc 0 17 (fun K hK=>?_) .nil)
 go_simp
 go_at_call 27
 refine (HPl128.out _).mono ?_
 rintro e v' ⟨ga,cga,rfl,ho9,hq⟩
 have hP:Ints .i64 0 v'.heap.size v' (.slice (some ⟨ga,0,none⟩) 64 cga) (plainF 128).pix:=ho9.ints.mono (Nat.zero_le _) (Nat.le_refl _)
 clear ho9
 have q:Only [] v v':=by first | exact hq | exact ((Only.refl _ _).drew).q hq
 replace HC1:=lh (q.row HC1.out)
 replace HE1:=lh (q.row HE1.out)
 have HPa:=lh hP
 replace o:=lh (o.out.q q)
 clear hq q hP
 exact qEFs27):p:=h
theorem qEFs227 {p:Prop} (h:p:=by
 clear hb hz
 obtain ⟨v,rfl⟩:∃ z,z=v':=⟨_,rfl⟩
 refine hK.out _ _ ?_ (fun hHeld=>?_)
 ·exact qEFs24
 clear hK K
 refine rdy (rdc 0 33 (fun K hK=>?_) .nil)
 go_simp
 go_at_call 27
 refine (HPl7.out _).mono ?_
 rintro e v' ⟨gc,cgc,rfl,ho9,hq⟩
 have hP:Ints .i64 0 v'.heap.size v' (.slice (some ⟨gc,0,none⟩) 64 cgc) (plainF 7).pix:=ho9.ints.mono (Nat.zero_le _) (Nat.le_refl _)
 clear ho9
 have q:Only [] v v':=by first | exact hq | exact ((Only.refl _ _).drew).q hq
 replace HC3:=lh (q.row HC3.out)
 replace HE3:=lh (q.row HE3.out)
 have HPc:=lh hP
 replace o:=lh (o.out.q q)
 clear hq q hP
 exact qEFs211):p:=h
theorem qEFs228 {p:Prop} (h:p:=by
 clear hb hz
 obtain ⟨v,rfl⟩:∃ z,z=v':=⟨_,rfl⟩
 refine hK.out _ _ ?_ (fun hHeld=>?_)
 ·exact qEFs26
 clear hK K
 refine rdy (rdc 0 25 (fun K hK=>?_) .nil)
 go_simp
 go_at_call 27
 refine (HPl7.out _).mono ?_
 rintro e v' ⟨gb,cgb,rfl,ho9,hq⟩
 have hP:Ints .i64 0 v'.heap.size v' (.slice (some ⟨gb,0,none⟩) 64 cgb) (plainF 7).pix:=ho9.ints.mono (Nat.zero_le _) (Nat.le_refl _)
 clear ho9
 have q:Only [] v v':=by first | exact hq | exact ((Only.refl _ _).drew).q hq
 replace HC2:=lh (q.row HC2.out)
 replace HE2:=lh (q.row HE2.out)
 have HPb:=lh hP
 replace o:=lh (o.out.q q)
 clear hq q hP
 exact qEFs28):p:=h
theorem first_any (w:World) (hE:ErrT w) :
  Calls Tryz.prog 11 #[] w fun e w'=>e=.returned (.bool true)∧Only [] w w':=by
 refine hidQ fun Q HPost=>?_
 have HE:=lh hE
 clear hE
 have HKf:=lh (fun (v:Int) (W:World) (l h l' h':Nat) (pv pu:Value) (h1:Ints .i64 l h W pv (plainF v).pix) (h2:Ints .i64 l' h' W pu (plainF v).pix)=>kframe_any (A:=plainF v) (B:=plainF v) h1 h2)
 have HEq:Hid (∀ v:Int,frEq (plainF v) (plainF v)=true):=lh (fun v=>by unfold frEq;simp [eqB])
 have HPl128:=lh (fun W:World=>plain_any 128 W (show (-9223372036854775808:Int)≤128∧(128:Int)≤9223372036854775807 by decide))
 have HPl7:=lh (fun W:World=>plain_any 7 W (show (-9223372036854775808:Int)≤7∧(7:Int)≤9223372036854775807 by decide))
 have HPl200:=lh (fun W:World=>plain_any 200 W (show (-9223372036854775808:Int)≤200∧(200:Int)≤9223372036854775807 by decide))
 have HFr:=lh (fun (W:World) (sv:Value) (h:Ints .i64 0 W.heap.size W sv (plainF 128).pix)=>fst_frame h (Nat.le_refl _))
 have HFl:=lh (fun (W:World) (sv:Value) (h:Ints .i64 0 W.heap.size W sv (plainF 7).pix)=>fst_flat h (Nat.le_refl _))
 have HSk:=lh (fun (W:World) (sv pv:Value) (h:Ints .i64 0 W.heap.size W sv (plainF 7).pix) (g:Ints .i64 0 W.heap.size W pv (plainF 200).pix)=>fst_skip h g (Nat.le_refl _) (Nat.le_refl _))
 unfold cfg0 Cfg.v at HFl HSk
 have HQ1:=lh (Only.new w (.cells #[.int .i64 0,.int .i64 0,.slice none 0 0] 24))
 have HR1:=lh (heap_alloc_new w (.cells #[.int .i64 0,.int .i64 0,.slice none 0 0] 24))
 go_enter Tryz.func11,Tryz.ntmps11
 go_upto_region 2 with (fail)
 generalize hW1:World.alloc w _=W1 at *
 clear hW1
 have HS1:Hid (∀ wx:World,Only [] W1 wx→wx.heap[w.heap.size]?=some (.cells #[.int .i64 0,.int .i64 0,.slice none 0 0] 24 (0,0))):=lh (fun wx o=>o.row HR1.out)
 go_cut [2,3,4] (fun sC1 sE1 s4 wx=>∃ (bC1:Nat) (bE1:Nat) (l1:Nat) (h1:Nat) (da1:Option Addr) (dn1:Nat) (dc1:Nat) (fa1:Option Addr) (fc1:Nat),sC1=.pointer (some ⟨bC1,0,none⟩)∧sE1=.pointer (some ⟨bE1,0,none⟩)∧s4=.nilIface∧Hid (Only [] W1 wx)∧Hid (wx.heap[bC1]?=some (.cells #[.int .i64 1,.slice da1 dn1 dc1] 31 (0,0)))∧Hid (wx.heap[bE1]?=some (.cells #[.int .i64 8,.int .i64 8,.slice fa1 64 fc1] 24 (0,0)))∧Hid (W1.heap.size≤l1∧h1≤wx.heap.size)∧Hid (Ints .i64 l1 h1 wx (.slice fa1 64 fc1) (plainF 128).pix)∧Hid (W1.heap.size≤bC1∧(bC1<l1∨h1≤bC1))∧Hid (W1.heap.size≤bE1∧(bE1<l1∨h1≤bE1)))
 case first =>
  have o:=lh (Only.refl [] W1)
  refine wp_region_held_drew (S:=(fun wz=>wz.heap[w.heap.size]?=some (.cells #[.int .i64 0,.int .i64 0,.slice none 0 0] 24 (0,0)))) (by kernel_rfl) ?_ (fun hHeld=>?_)
  ·first | exact HS1.out _ (Only.refl _ _) | exact HS1.out _ (Only.refl _ _).drew
  refine tkw 1 18 ⟨rfl,qEFs2t0⟩ ?_
  refine rdy (rdc 0 17 (fun K hK=>?_) (rdc 7 2 (fun K hK=>?_) (rdc 8 3 (fun K hK=>?_) .nil)))
  ·go_simp
   go_at_call 27
   refine (HPl128.out _).mono ?_
   rintro e v' ⟨ga,cga,rfl,ho9,hq⟩
   have hP:Ints .i64 0 v'.heap.size v' (.slice (some ⟨ga,0,none⟩) 64 cga) (plainF 128).pix:=ho9.ints.mono (Nat.zero_le _) (Nat.le_refl _)
   clear ho9
   have q:Only [] W1 v':=by first | exact hq | exact ((Only.refl _ _).drew).q hq
   have HPa:=lh hP
   replace o:=lh (o.out.q q)
   clear hq q hP
   obtain ⟨v,rfl⟩:∃ z,z=v':=⟨_,rfl⟩
   refine hK.out _ _ ?_ (fun hHeld=>?_)
   ·exact qEFs25
   clear hK K
   refine rdy (rdc 2 19 (fun K hK=>?_) (rdc 7 2 (fun K hK=>?_) (rdc 8 3 (fun K hK=>?_) .nil)))
   ·go_simp
    go_at_call 14
    refine (HFr.out _ _ (by first | exact HPa.out | exact HPa.out.quiet (Only.refl _ _).drew)).mono ?_
    rintro e v' ⟨da1,dn1,dc1,fa1,fc1,rfl,hi9,hq⟩
    obtain ⟨l1,hl1⟩:∃ z,z=v.heap.size:=⟨_,rfl⟩
    obtain ⟨h1,hh1⟩:∃ z,z=v'.heap.size:=⟨_,rfl⟩
    have hKf:Ints .i64 l1 h1 v' (.slice fa1 64 fc1) (plainF 128).pix:=by rw [hl1,hh1];exact hi9
    have hKl:v.heap.size≤l1:=by omega
    have hKh:h1≤v'.heap.size:=by omega
    clear hi9 hl1 hh1
    have q:Only [] v v':=by first | exact hq | exact ((Only.refl _ _).drew).q hq
    have hVl:W1.heap.size≤v.heap.size:=o.out.size
    replace HPa:Hid (Ints .i64 0 v'.heap.size v' (.slice (some ⟨ga,0,none⟩) 64 cga) (plainF 128).pix):=lh ((HPa.out.quiet q).mono (Nat.le_refl _) q.size)
    have HK:=lh hKf
    have HKb:Hid (W1.heap.size≤l1∧h1≤v'.heap.size):=lh ⟨by omega,hKh⟩
    replace o:=lh (o.out.q q)
    clear hq q hKf hKl hKh hVl
    obtain ⟨v,rfl⟩:∃ z,z=v':=⟨_,rfl⟩
    refine hK.out _ _ ?_ (fun hHeld=>?_)
    ·exact qEFs25
    clear hK K
    refine tkw 3 16 ⟨rfl,qEFs2t0⟩ ?_
    refine tkw 4 20 ⟨rfl,qEFs2t0⟩ ?_
    refine tkw 5 21 ⟨rfl,qEFs2t0⟩ ?_
    refine tkw 6 22 ⟨rfl,qEFs2t0⟩ ?_
    refine rdy (rdc 7 2 (fun K hK=>?_) (rdc 8 3 (fun K hK=>?_) .nil))
    ·go_simp
     generalize hW:World.alloc _ _=v'
     have q:Only [] v v':=by rw [← hW];first | exact Only.new _ _ | exact ((Only.refl _ _).drew).q (Only.new _ _)
     have HC1:Hid (v'.heap[v.heap.size]?=some (.cells #[.int .i64 0,.slice none 0 0] 31 (0,0))):=lh (by rw [← hW];exact heap_alloc_new _ _)
     have hz:W1.heap.size≤v.heap.size:=o.out.size
     have HkC1:Hid (W1.heap.size≤v.heap.size∧(v.heap.size<l1∨h1≤v.heap.size)):=lh ⟨hz,.inr HKb.out.2⟩
     replace HK:Hid (Ints .i64 l1 h1 v' (.slice fa1 64 fc1) (plainF 128).pix):=lh (HK.out.only q (by simp))
     replace HKb:Hid (W1.heap.size≤l1∧h1≤v'.heap.size):=lh ⟨HKb.out.1,Nat.le_trans HKb.out.2 q.size⟩
     replace HPa:Hid (Ints .i64 0 v'.heap.size v' (.slice (some ⟨ga,0,none⟩) 64 cga) (plainF 128).pix):=lh ((HPa.out.quiet q).mono (Nat.le_refl _) q.size)
     replace o:=lh (o.out.q q)
     clear hW q
     generalize hb:v.heap.size=bC1 at HC1 HkC1 ⊢
     have HzC1:Hid (W1.heap.size≤bC1):=lh (by rw [← hb];exact hz)
     clear hb hz
     obtain ⟨v,rfl⟩:∃ z,z=v':=⟨_,rfl⟩
     refine hK.out _ _ ?_ (fun hHeld=>?_)
     ·exact qEFs25
     clear hK K
     refine rdy (rdc 8 3 (fun K hK=>?_) .nil)
     go_simp
     generalize hW:World.alloc _ _=v'
     have q:Only [] v v':=by rw [← hW];first | exact Only.new _ _ | exact ((Only.refl _ _).drew).q (Only.new _ _)
     have HE1:Hid (v'.heap[v.heap.size]?=some (.cells #[.int .i64 0,.int .i64 0,.slice none 0 0] 24 (0,0))):=lh (by rw [← hW];exact heap_alloc_new _ _)
     have hz:W1.heap.size≤v.heap.size:=o.out.size
     have HkE1:Hid (W1.heap.size≤v.heap.size∧(v.heap.size<l1∨h1≤v.heap.size)):=lh ⟨hz,.inr HKb.out.2⟩
     have HnC1E1:Hid (bC1≠v.heap.size):=lh (by have:=(Array.getElem?_eq_some_iff.1 HC1.out).1;omega)
     replace HC1:=lh (q.row HC1.out)
     replace HK:Hid (Ints .i64 l1 h1 v' (.slice fa1 64 fc1) (plainF 128).pix):=lh (HK.out.only q (by simp))
     replace HKb:Hid (W1.heap.size≤l1∧h1≤v'.heap.size):=lh ⟨HKb.out.1,Nat.le_trans HKb.out.2 q.size⟩
     replace HPa:Hid (Ints .i64 0 v'.heap.size v' (.slice (some ⟨ga,0,none⟩) 64 cga) (plainF 128).pix):=lh ((HPa.out.quiet q).mono (Nat.le_refl _) q.size)
     replace o:=lh (o.out.q q)
     clear hW q
     generalize hb:v.heap.size=bE1 at HE1 HkE1 HnC1E1 ⊢
     have HzE1:Hid (W1.heap.size≤bE1):=lh (by rw [← hb];exact hz)
     exact qEFs218
    ·go_simp
     generalize hW:World.alloc _ _=v'
     have q:Only [] v v':=by rw [← hW];first | exact Only.new _ _ | exact ((Only.refl _ _).drew).q (Only.new _ _)
     have HE1:Hid (v'.heap[v.heap.size]?=some (.cells #[.int .i64 0,.int .i64 0,.slice none 0 0] 24 (0,0))):=lh (by rw [← hW];exact heap_alloc_new _ _)
     have hz:W1.heap.size≤v.heap.size:=o.out.size
     have HkE1:Hid (W1.heap.size≤v.heap.size∧(v.heap.size<l1∨h1≤v.heap.size)):=lh ⟨hz,.inr HKb.out.2⟩
     replace HK:Hid (Ints .i64 l1 h1 v' (.slice fa1 64 fc1) (plainF 128).pix):=lh (HK.out.only q (by simp))
     replace HKb:Hid (W1.heap.size≤l1∧h1≤v'.heap.size):=lh ⟨HKb.out.1,Nat.le_trans HKb.out.2 q.size⟩
     replace HPa:Hid (Ints .i64 0 v'.heap.size v' (.slice (some ⟨ga,0,none⟩) 64 cga) (plainF 128).pix):=lh ((HPa.out.quiet q).mono (Nat.le_refl _) q.size)
     replace o:=lh (o.out.q q)
     clear hW q
     generalize hb:v.heap.size=bE1 at HE1 HkE1 ⊢
     have HzE1:Hid (W1.heap.size≤bE1):=lh (by rw [← hb];exact hz)
     clear hb hz
     obtain ⟨v,rfl⟩:∃ z,z=v':=⟨_,rfl⟩
     refine hK.out _ _ ?_ (fun hHeld=>?_)
     ·exact qEFs25
     clear hK K
     refine rdy (rdc 7 2 (fun K hK=>?_) .nil)
     go_simp
     generalize hW:World.alloc _ _=v'
     have q:Only [] v v':=by rw [← hW];first | exact Only.new _ _ | exact ((Only.refl _ _).drew).q (Only.new _ _)
     have HC1:Hid (v'.heap[v.heap.size]?=some (.cells #[.int .i64 0,.slice none 0 0] 31 (0,0))):=lh (by rw [← hW];exact heap_alloc_new _ _)
     have hz:W1.heap.size≤v.heap.size:=o.out.size
     have HkC1:Hid (W1.heap.size≤v.heap.size∧(v.heap.size<l1∨h1≤v.heap.size)):=lh ⟨hz,.inr HKb.out.2⟩
     have HnC1E1:Hid (v.heap.size≠bE1):=lh (by have:=(Array.getElem?_eq_some_iff.1 HE1.out).1;omega)
     replace HE1:=lh (q.row HE1.out)
     replace HK:Hid (Ints .i64 l1 h1 v' (.slice fa1 64 fc1) (plainF 128).pix):=lh (HK.out.only q (by simp))
     replace HKb:Hid (W1.heap.size≤l1∧h1≤v'.heap.size):=lh ⟨HKb.out.1,Nat.le_trans HKb.out.2 q.size⟩
     replace HPa:Hid (Ints .i64 0 v'.heap.size v' (.slice (some ⟨ga,0,none⟩) 64 cga) (plainF 128).pix):=lh ((HPa.out.quiet q).mono (Nat.le_refl _) q.size)
     replace o:=lh (o.out.q q)
     clear hW q
     generalize hb:v.heap.size=bC1 at HC1 HkC1 HnC1E1 ⊢
     have HzC1:Hid (W1.heap.size≤bC1):=lh (by rw [← hb];exact hz)
     exact qEFs218
   ·go_simp
    generalize hW:World.alloc _ _=v'
    have q:Only [] v v':=by rw [← hW];first | exact Only.new _ _ | exact ((Only.refl _ _).drew).q (Only.new _ _)
    have HC1:Hid (v'.heap[v.heap.size]?=some (.cells #[.int .i64 0,.slice none 0 0] 31 (0,0))):=lh (by rw [← hW];exact heap_alloc_new _ _)
    have hz:W1.heap.size≤v.heap.size:=o.out.size
    replace HPa:Hid (Ints .i64 0 v'.heap.size v' (.slice (some ⟨ga,0,none⟩) 64 cga) (plainF 128).pix):=lh ((HPa.out.quiet q).mono (Nat.le_refl _) q.size)
    replace o:=lh (o.out.q q)
    clear hW q
    generalize hb:v.heap.size=bC1 at HC1 ⊢
    have HzC1:Hid (W1.heap.size≤bC1):=lh (by rw [← hb];exact hz)
    clear hb hz
    exact qEFs222
   ·go_simp
    generalize hW:World.alloc _ _=v'
    have q:Only [] v v':=by rw [← hW];first | exact Only.new _ _ | exact ((Only.refl _ _).drew).q (Only.new _ _)
    have HE1:Hid (v'.heap[v.heap.size]?=some (.cells #[.int .i64 0,.int .i64 0,.slice none 0 0] 24 (0,0))):=lh (by rw [← hW];exact heap_alloc_new _ _)
    have hz:W1.heap.size≤v.heap.size:=o.out.size
    replace HPa:Hid (Ints .i64 0 v'.heap.size v' (.slice (some ⟨ga,0,none⟩) 64 cga) (plainF 128).pix):=lh ((HPa.out.quiet q).mono (Nat.le_refl _) q.size)
    replace o:=lh (o.out.q q)
    clear hW q
    generalize hb:v.heap.size=bE1 at HE1 ⊢
    have HzE1:Hid (W1.heap.size≤bE1):=lh (by rw [← hb];exact hz)
    clear hb hz
    exact qEFs224
  ·go_simp
   generalize hW:World.alloc _ _=v'
   have q:Only [] W1 v':=by rw [← hW];first | exact Only.new _ _ | exact ((Only.refl _ _).drew).q (Only.new _ _)
   have HC1:Hid (v'.heap[W1.heap.size]?=some (.cells #[.int .i64 0,.slice none 0 0] 31 (0,0))):=lh (by rw [← hW];exact heap_alloc_new _ _)
   have hz:W1.heap.size≤W1.heap.size:=o.out.size
   replace o:=lh (o.out.q q)
   clear hW q
   generalize hb:W1.heap.size=bC1 at HC1 ⊢
   have HzC1:Hid (W1.heap.size≤bC1):=lh (by rw [← hb];exact hz)
   clear hb hz
   obtain ⟨v,rfl⟩:∃ z,z=v':=⟨_,rfl⟩
   refine hK.out _ _ ?_ (fun hHeld=>?_)
   ·exact qEFs25
   clear hK K
   refine rdy (rdc 0 17 (fun K hK=>?_) (rdc 8 3 (fun K hK=>?_) .nil))
   ·go_simp
    go_at_call 27
    refine (HPl128.out _).mono ?_
    rintro e v' ⟨ga,cga,rfl,ho9,hq⟩
    have hP:Ints .i64 0 v'.heap.size v' (.slice (some ⟨ga,0,none⟩) 64 cga) (plainF 128).pix:=ho9.ints.mono (Nat.zero_le _) (Nat.le_refl _)
    clear ho9
    have q:Only [] v v':=by first | exact hq | exact ((Only.refl _ _).drew).q hq
    replace HC1:=lh (q.row HC1.out)
    have HPa:=lh hP
    replace o:=lh (o.out.q q)
    clear hq q hP
    exact qEFs222
   ·go_simp
    generalize hW:World.alloc _ _=v'
    have q:Only [] v v':=by rw [← hW];first | exact Only.new _ _ | exact ((Only.refl _ _).drew).q (Only.new _ _)
    have HE1:Hid (v'.heap[v.heap.size]?=some (.cells #[.int .i64 0,.int .i64 0,.slice none 0 0] 24 (0,0))):=lh (by rw [← hW];exact heap_alloc_new _ _)
    have hz:W1.heap.size≤v.heap.size:=o.out.size
    have HnC1E1:Hid (bC1≠v.heap.size):=lh (by have:=(Array.getElem?_eq_some_iff.1 HC1.out).1;omega)
    replace HC1:=lh (q.row HC1.out)
    replace o:=lh (o.out.q q)
    clear hW q
    generalize hb:v.heap.size=bE1 at HE1 HnC1E1 ⊢
    have HzE1:Hid (W1.heap.size≤bE1):=lh (by rw [← hb];exact hz)
    exact qEFs226
  ·go_simp
   generalize hW:World.alloc _ _=v'
   have q:Only [] W1 v':=by rw [← hW];first | exact Only.new _ _ | exact ((Only.refl _ _).drew).q (Only.new _ _)
   have HE1:Hid (v'.heap[W1.heap.size]?=some (.cells #[.int .i64 0,.int .i64 0,.slice none 0 0] 24 (0,0))):=lh (by rw [← hW];exact heap_alloc_new _ _)
   have hz:W1.heap.size≤W1.heap.size:=o.out.size
   replace o:=lh (o.out.q q)
   clear hW q
   generalize hb:W1.heap.size=bE1 at HE1 ⊢
   have HzE1:Hid (W1.heap.size≤bE1):=lh (by rw [← hb];exact hz)
   clear hb hz
   obtain ⟨v,rfl⟩:∃ z,z=v':=⟨_,rfl⟩
   refine hK.out _ _ ?_ (fun hHeld=>?_)
   ·exact qEFs25
   clear hK K
   refine rdy (rdc 0 17 (fun K hK=>?_) (rdc 7 2 (fun K hK=>?_) .nil))
   ·go_simp
    go_at_call 27
    refine (HPl128.out _).mono ?_
    rintro e v' ⟨ga,cga,rfl,ho9,hq⟩
    have hP:Ints .i64 0 v'.heap.size v' (.slice (some ⟨ga,0,none⟩) 64 cga) (plainF 128).pix:=ho9.ints.mono (Nat.zero_le _) (Nat.le_refl _)
    clear ho9
    have q:Only [] v v':=by first | exact hq | exact ((Only.refl _ _).drew).q hq
    replace HE1:=lh (q.row HE1.out)
    have HPa:=lh hP
    replace o:=lh (o.out.q q)
    clear hq q hP
    exact qEFs224
   ·go_simp
    generalize hW:World.alloc _ _=v'
    have q:Only [] v v':=by rw [← hW];first | exact Only.new _ _ | exact ((Only.refl _ _).drew).q (Only.new _ _)
    have HC1:Hid (v'.heap[v.heap.size]?=some (.cells #[.int .i64 0,.slice none 0 0] 31 (0,0))):=lh (by rw [← hW];exact heap_alloc_new _ _)
    have hz:W1.heap.size≤v.heap.size:=o.out.size
    have HnC1E1:Hid (v.heap.size≠bE1):=lh (by have:=(Array.getElem?_eq_some_iff.1 HE1.out).1;omega)
    replace HE1:=lh (q.row HE1.out)
    replace o:=lh (o.out.q q)
    clear hW q
    generalize hb:v.heap.size=bC1 at HC1 HnC1E1 ⊢
    have HzC1:Hid (W1.heap.size≤bC1):=lh (by rw [← hb];exact hz)
    exact qEFs226
 case rest =>
  obtain ⟨bC1,bE1,l1,h1,da1,dn1,dc1,fa1,fc1,rfl,rfl,rfl,HO1,HC1,HF1,HB1,HK1,-,-⟩:=hcut
  have HR3:=lh (HO1.out.row HR1.out)
  have HQ3:=lh (HQ1.out.q HO1.out)
  have HQk:=lh (Only.new wc (.cells #[.int .i64 0,.int .i64 3,.int .i64 0,.int .i64 0,.int .i64 1,.int .i64 8,.int .i64 8,.int .i64 8] 47))
  have HRk:=lh (heap_alloc_new wc (.cells #[.int .i64 0,.int .i64 3,.int .i64 0,.int .i64 0,.int .i64 1,.int .i64 8,.int .i64 8,.int .i64 8] 47))
  go_upto_region 4 with (fail)
  generalize hW2:World.alloc wc _=W2 at *
  clear hW2
  obtain ⟨bk,hbk⟩:∃ z,z=wc.heap.size:=⟨_,rfl⟩
  rw [← hbk] at HRk ⊢
  have HO1k:=lh (HQk.out)
  have HS2:Hid (∀ wx:World,Only [] W2 wx→wx.heap[w.heap.size]?=some (.cells #[.int .i64 0,.int .i64 0,.slice none 0 0] 24 (0,0))∧wx.heap[bk]?=some (.cells #[.int .i64 0,.int .i64 3,.int .i64 0,.int .i64 0,.int .i64 1,.int .i64 8,.int .i64 8,.int .i64 8] 47 (0,0))):=lh (fun wx o=>⟨o.row (HQk.out.row HR3.out),o.row HRk.out⟩)
  clear hbk
  go_cut [6,7,8] (fun sC2 sE2 s8 wx=>∃ (bC2:Nat) (bE2:Nat) (l2:Nat) (h2:Nat) (da2:Option Addr) (dn2:Nat) (dc2:Nat) (fa2:Option Addr) (fc2:Nat),sC2=.pointer (some ⟨bC2,0,none⟩)∧sE2=.pointer (some ⟨bE2,0,none⟩)∧s8=.nilIface∧Hid (Only [] W2 wx)∧Hid (wx.heap[bC2]?=some (.cells #[.int .i64 4,.slice da2 dn2 dc2] 31 (0,0)))∧Hid (wx.heap[bE2]?=some (.cells #[.int .i64 8,.int .i64 8,.slice fa2 64 fc2] 24 (0,0)))∧Hid (W2.heap.size≤l2∧h2≤wx.heap.size)∧Hid (Ints .i64 l2 h2 wx (.slice fa2 64 fc2) (plainF 128).pix)∧Hid (W2.heap.size≤bC2∧(bC2<l2∨h2≤bC2))∧Hid (W2.heap.size≤bE2∧(bE2<l2∨h2≤bE2)))
  case first =>
   have o:=lh (Only.refl [] W2)
   refine wp_region_held_drew (S:=(fun wz=>wz.heap[w.heap.size]?=some (.cells #[.int .i64 0,.int .i64 0,.slice none 0 0] 24 (0,0))∧wz.heap[bk]?=some (.cells #[.int .i64 0,.int .i64 3,.int .i64 0,.int .i64 0,.int .i64 1,.int .i64 8,.int .i64 8,.int .i64 8] 47 (0,0)))) (by kernel_rfl) ?_ (fun hHeld=>?_)
   ·first | exact HS2.out _ (Only.refl _ _) | exact HS2.out _ (Only.refl _ _).drew
   refine tkw 1 26 ⟨rfl,qEFs2t1⟩ ?_
   refine tkw 2 27 ⟨rfl,qEFs2t1⟩ ?_
   refine rdy (rdc 0 25 (fun K hK=>?_) (rdc 8 6 (fun K hK=>?_) (rdc 9 7 (fun K hK=>?_) .nil)))
   ·go_simp
    go_at_call 27
    refine (HPl7.out _).mono ?_
    rintro e v' ⟨gb,cgb,rfl,ho9,hq⟩
    have hP:Ints .i64 0 v'.heap.size v' (.slice (some ⟨gb,0,none⟩) 64 cgb) (plainF 7).pix:=ho9.ints.mono (Nat.zero_le _) (Nat.le_refl _)
    clear ho9
    have q:Only [] W2 v':=by first | exact hq | exact ((Only.refl _ _).drew).q hq
    have HPb:=lh hP
    replace o:=lh (o.out.q q)
    clear hq q hP
    obtain ⟨v,rfl⟩:∃ z,z=v':=⟨_,rfl⟩
    refine hK.out _ _ ?_ (fun hHeld=>?_)
    ·exact qEFs26
    clear hK K
    refine rdy (rdc 3 28 (fun K hK=>?_) (rdc 8 6 (fun K hK=>?_) (rdc 9 7 (fun K hK=>?_) .nil)))
    ·go_simp
     go_at_call 21
     refine (HFl.out _ _ (by first | exact HPb.out | exact HPb.out.quiet (Only.refl _ _).drew)).mono ?_
     rintro e v' ⟨da2,dn2,dc2,fa2,fc2,rfl,hi9,hq⟩
     obtain ⟨l2,hl1⟩:∃ z,z=v.heap.size:=⟨_,rfl⟩
     obtain ⟨h2,hh1⟩:∃ z,z=v'.heap.size:=⟨_,rfl⟩
     have hKf:Ints .i64 l2 h2 v' (.slice fa2 64 fc2) (plainF 128).pix:=by rw [hl1,hh1];exact hi9
     have hKl:v.heap.size≤l2:=by omega
     have hKh:h2≤v'.heap.size:=by omega
     clear hi9 hl1 hh1
     have q:Only [] v v':=by first | exact hq | exact ((Only.refl _ _).drew).q hq
     have hVl:W2.heap.size≤v.heap.size:=o.out.size
     replace HPb:Hid (Ints .i64 0 v'.heap.size v' (.slice (some ⟨gb,0,none⟩) 64 cgb) (plainF 7).pix):=lh ((HPb.out.quiet q).mono (Nat.le_refl _) q.size)
     have HK:=lh hKf
     have HKb:Hid (W2.heap.size≤l2∧h2≤v'.heap.size):=lh ⟨by omega,hKh⟩
     replace o:=lh (o.out.q q)
     clear hq q hKf hKl hKh hVl
     obtain ⟨v,rfl⟩:∃ z,z=v':=⟨_,rfl⟩
     refine hK.out _ _ ?_ (fun hHeld=>?_)
     ·exact qEFs26
     clear hK K
     refine tkw 4 24 ⟨rfl,qEFs2t1⟩ ?_
     refine tkw 5 29 ⟨rfl,qEFs2t1⟩ ?_
     refine tkw 6 30 ⟨rfl,qEFs2t1⟩ ?_
     refine tkw 7 31 ⟨rfl,qEFs2t1⟩ ?_
     refine rdy (rdc 8 6 (fun K hK=>?_) (rdc 9 7 (fun K hK=>?_) .nil))
     ·go_simp
      generalize hW:World.alloc _ _=v'
      have q:Only [] v v':=by rw [← hW];first | exact Only.new _ _ | exact ((Only.refl _ _).drew).q (Only.new _ _)
      have HC2:Hid (v'.heap[v.heap.size]?=some (.cells #[.int .i64 0,.slice none 0 0] 31 (0,0))):=lh (by rw [← hW];exact heap_alloc_new _ _)
      have hz:W2.heap.size≤v.heap.size:=o.out.size
      have HkC2:Hid (W2.heap.size≤v.heap.size∧(v.heap.size<l2∨h2≤v.heap.size)):=lh ⟨hz,.inr HKb.out.2⟩
      replace HK:Hid (Ints .i64 l2 h2 v' (.slice fa2 64 fc2) (plainF 128).pix):=lh (HK.out.only q (by simp))
      replace HKb:Hid (W2.heap.size≤l2∧h2≤v'.heap.size):=lh ⟨HKb.out.1,Nat.le_trans HKb.out.2 q.size⟩
      replace HPb:Hid (Ints .i64 0 v'.heap.size v' (.slice (some ⟨gb,0,none⟩) 64 cgb) (plainF 7).pix):=lh ((HPb.out.quiet q).mono (Nat.le_refl _) q.size)
      replace o:=lh (o.out.q q)
      clear hW q
      generalize hb:v.heap.size=bC2 at HC2 HkC2 ⊢
      have HzC2:Hid (W2.heap.size≤bC2):=lh (by rw [← hb];exact hz)
      clear hb hz
      obtain ⟨v,rfl⟩:∃ z,z=v':=⟨_,rfl⟩
      refine hK.out _ _ ?_ (fun hHeld=>?_)
      ·exact qEFs26
      clear hK K
      refine rdy (rdc 9 7 (fun K hK=>?_) .nil)
      go_simp
      generalize hW:World.alloc _ _=v'
      have q:Only [] v v':=by rw [← hW];first | exact Only.new _ _ | exact ((Only.refl _ _).drew).q (Only.new _ _)
      have HE2:Hid (v'.heap[v.heap.size]?=some (.cells #[.int .i64 0,.int .i64 0,.slice none 0 0] 24 (0,0))):=lh (by rw [← hW];exact heap_alloc_new _ _)
      have hz:W2.heap.size≤v.heap.size:=o.out.size
      have HkE2:Hid (W2.heap.size≤v.heap.size∧(v.heap.size<l2∨h2≤v.heap.size)):=lh ⟨hz,.inr HKb.out.2⟩
      have HnC2E2:Hid (bC2≠v.heap.size):=lh (by have:=(Array.getElem?_eq_some_iff.1 HC2.out).1;omega)
      replace HC2:=lh (q.row HC2.out)
      replace HK:Hid (Ints .i64 l2 h2 v' (.slice fa2 64 fc2) (plainF 128).pix):=lh (HK.out.only q (by simp))
      replace HKb:Hid (W2.heap.size≤l2∧h2≤v'.heap.size):=lh ⟨HKb.out.1,Nat.le_trans HKb.out.2 q.size⟩
      replace HPb:Hid (Ints .i64 0 v'.heap.size v' (.slice (some ⟨gb,0,none⟩) 64 cgb) (plainF 7).pix):=lh ((HPb.out.quiet q).mono (Nat.le_refl _) q.size)
      replace o:=lh (o.out.q q)
      clear hW q
      generalize hb:v.heap.size=bE2 at HE2 HkE2 HnC2E2 ⊢
      have HzE2:Hid (W2.heap.size≤bE2):=lh (by rw [← hb];exact hz)
      exact qEFs219
     ·go_simp
      generalize hW:World.alloc _ _=v'
      have q:Only [] v v':=by rw [← hW];first | exact Only.new _ _ | exact ((Only.refl _ _).drew).q (Only.new _ _)
      have HE2:Hid (v'.heap[v.heap.size]?=some (.cells #[.int .i64 0,.int .i64 0,.slice none 0 0] 24 (0,0))):=lh (by rw [← hW];exact heap_alloc_new _ _)
      have hz:W2.heap.size≤v.heap.size:=o.out.size
      have HkE2:Hid (W2.heap.size≤v.heap.size∧(v.heap.size<l2∨h2≤v.heap.size)):=lh ⟨hz,.inr HKb.out.2⟩
      replace HK:Hid (Ints .i64 l2 h2 v' (.slice fa2 64 fc2) (plainF 128).pix):=lh (HK.out.only q (by simp))
      replace HKb:Hid (W2.heap.size≤l2∧h2≤v'.heap.size):=lh ⟨HKb.out.1,Nat.le_trans HKb.out.2 q.size⟩
      replace HPb:Hid (Ints .i64 0 v'.heap.size v' (.slice (some ⟨gb,0,none⟩) 64 cgb) (plainF 7).pix):=lh ((HPb.out.quiet q).mono (Nat.le_refl _) q.size)
      replace o:=lh (o.out.q q)
      clear hW q
      generalize hb:v.heap.size=bE2 at HE2 HkE2 ⊢
      have HzE2:Hid (W2.heap.size≤bE2):=lh (by rw [← hb];exact hz)
      clear hb hz
      obtain ⟨v,rfl⟩:∃ z,z=v':=⟨_,rfl⟩
      refine hK.out _ _ ?_ (fun hHeld=>?_)
      ·exact qEFs26
      clear hK K
      refine rdy (rdc 8 6 (fun K hK=>?_) .nil)
      go_simp
      generalize hW:World.alloc _ _=v'
      have q:Only [] v v':=by rw [← hW];first | exact Only.new _ _ | exact ((Only.refl _ _).drew).q (Only.new _ _)
      have HC2:Hid (v'.heap[v.heap.size]?=some (.cells #[.int .i64 0,.slice none 0 0] 31 (0,0))):=lh (by rw [← hW];exact heap_alloc_new _ _)
      have hz:W2.heap.size≤v.heap.size:=o.out.size
      have HkC2:Hid (W2.heap.size≤v.heap.size∧(v.heap.size<l2∨h2≤v.heap.size)):=lh ⟨hz,.inr HKb.out.2⟩
      have HnC2E2:Hid (v.heap.size≠bE2):=lh (by have:=(Array.getElem?_eq_some_iff.1 HE2.out).1;omega)
      replace HE2:=lh (q.row HE2.out)
      replace HK:Hid (Ints .i64 l2 h2 v' (.slice fa2 64 fc2) (plainF 128).pix):=lh (HK.out.only q (by simp))
      replace HKb:Hid (W2.heap.size≤l2∧h2≤v'.heap.size):=lh ⟨HKb.out.1,Nat.le_trans HKb.out.2 q.size⟩
      replace HPb:Hid (Ints .i64 0 v'.heap.size v' (.slice (some ⟨gb,0,none⟩) 64 cgb) (plainF 7).pix):=lh ((HPb.out.quiet q).mono (Nat.le_refl _) q.size)
      replace o:=lh (o.out.q q)
      clear hW q
      generalize hb:v.heap.size=bC2 at HC2 HkC2 HnC2E2 ⊢
      have HzC2:Hid (W2.heap.size≤bC2):=lh (by rw [← hb];exact hz)
      exact qEFs219
    ·go_simp
     generalize hW:World.alloc _ _=v'
     have q:Only [] v v':=by rw [← hW];first | exact Only.new _ _ | exact ((Only.refl _ _).drew).q (Only.new _ _)
     have HC2:Hid (v'.heap[v.heap.size]?=some (.cells #[.int .i64 0,.slice none 0 0] 31 (0,0))):=lh (by rw [← hW];exact heap_alloc_new _ _)
     have hz:W2.heap.size≤v.heap.size:=o.out.size
     replace HPb:Hid (Ints .i64 0 v'.heap.size v' (.slice (some ⟨gb,0,none⟩) 64 cgb) (plainF 7).pix):=lh ((HPb.out.quiet q).mono (Nat.le_refl _) q.size)
     replace o:=lh (o.out.q q)
     clear hW q
     generalize hb:v.heap.size=bC2 at HC2 ⊢
     have HzC2:Hid (W2.heap.size≤bC2):=lh (by rw [← hb];exact hz)
     clear hb hz
     exact qEFs223
    ·go_simp
     generalize hW:World.alloc _ _=v'
     have q:Only [] v v':=by rw [← hW];first | exact Only.new _ _ | exact ((Only.refl _ _).drew).q (Only.new _ _)
     have HE2:Hid (v'.heap[v.heap.size]?=some (.cells #[.int .i64 0,.int .i64 0,.slice none 0 0] 24 (0,0))):=lh (by rw [← hW];exact heap_alloc_new _ _)
     have hz:W2.heap.size≤v.heap.size:=o.out.size
     replace HPb:Hid (Ints .i64 0 v'.heap.size v' (.slice (some ⟨gb,0,none⟩) 64 cgb) (plainF 7).pix):=lh ((HPb.out.quiet q).mono (Nat.le_refl _) q.size)
     replace o:=lh (o.out.q q)
     clear hW q
     generalize hb:v.heap.size=bE2 at HE2 ⊢
     have HzE2:Hid (W2.heap.size≤bE2):=lh (by rw [← hb];exact hz)
     clear hb hz
     exact qEFs225
   ·go_simp
    generalize hW:World.alloc _ _=v'
    have q:Only [] W2 v':=by rw [← hW];first | exact Only.new _ _ | exact ((Only.refl _ _).drew).q (Only.new _ _)
    have HC2:Hid (v'.heap[W2.heap.size]?=some (.cells #[.int .i64 0,.slice none 0 0] 31 (0,0))):=lh (by rw [← hW];exact heap_alloc_new _ _)
    have hz:W2.heap.size≤W2.heap.size:=o.out.size
    replace o:=lh (o.out.q q)
    clear hW q
    generalize hb:W2.heap.size=bC2 at HC2 ⊢
    have HzC2:Hid (W2.heap.size≤bC2):=lh (by rw [← hb];exact hz)
    clear hb hz
    obtain ⟨v,rfl⟩:∃ z,z=v':=⟨_,rfl⟩
    refine hK.out _ _ ?_ (fun hHeld=>?_)
    ·exact qEFs26
    clear hK K
    refine rdy (rdc 0 25 (fun K hK=>?_) (rdc 9 7 (fun K hK=>?_) .nil))
    ·go_simp
     go_at_call 27
     refine (HPl7.out _).mono ?_
     rintro e v' ⟨gb,cgb,rfl,ho9,hq⟩
     have hP:Ints .i64 0 v'.heap.size v' (.slice (some ⟨gb,0,none⟩) 64 cgb) (plainF 7).pix:=ho9.ints.mono (Nat.zero_le _) (Nat.le_refl _)
     clear ho9
     have q:Only [] v v':=by first | exact hq | exact ((Only.refl _ _).drew).q hq
     replace HC2:=lh (q.row HC2.out)
     have HPb:=lh hP
     replace o:=lh (o.out.q q)
     clear hq q hP
     exact qEFs223
    ·go_simp
     generalize hW:World.alloc _ _=v'
     have q:Only [] v v':=by rw [← hW];first | exact Only.new _ _ | exact ((Only.refl _ _).drew).q (Only.new _ _)
     have HE2:Hid (v'.heap[v.heap.size]?=some (.cells #[.int .i64 0,.int .i64 0,.slice none 0 0] 24 (0,0))):=lh (by rw [← hW];exact heap_alloc_new _ _)
     have hz:W2.heap.size≤v.heap.size:=o.out.size
     have HnC2E2:Hid (bC2≠v.heap.size):=lh (by have:=(Array.getElem?_eq_some_iff.1 HC2.out).1;omega)
     replace HC2:=lh (q.row HC2.out)
     replace o:=lh (o.out.q q)
     clear hW q
     generalize hb:v.heap.size=bE2 at HE2 HnC2E2 ⊢
     have HzE2:Hid (W2.heap.size≤bE2):=lh (by rw [← hb];exact hz)
     exact qEFs228
   ·go_simp
    generalize hW:World.alloc _ _=v'
    have q:Only [] W2 v':=by rw [← hW];first | exact Only.new _ _ | exact ((Only.refl _ _).drew).q (Only.new _ _)
    have HE2:Hid (v'.heap[W2.heap.size]?=some (.cells #[.int .i64 0,.int .i64 0,.slice none 0 0] 24 (0,0))):=lh (by rw [← hW];exact heap_alloc_new _ _)
    have hz:W2.heap.size≤W2.heap.size:=o.out.size
    replace o:=lh (o.out.q q)
    clear hW q
    generalize hb:W2.heap.size=bE2 at HE2 ⊢
    have HzE2:Hid (W2.heap.size≤bE2):=lh (by rw [← hb];exact hz)
    clear hb hz
    obtain ⟨v,rfl⟩:∃ z,z=v':=⟨_,rfl⟩
    refine hK.out _ _ ?_ (fun hHeld=>?_)
    ·exact qEFs26
    clear hK K
    refine rdy (rdc 0 25 (fun K hK=>?_) (rdc 8 6 (fun K hK=>?_) .nil))
    ·go_simp
     go_at_call 27
     refine (HPl7.out _).mono ?_
     rintro e v' ⟨gb,cgb,rfl,ho9,hq⟩
     have hP:Ints .i64 0 v'.heap.size v' (.slice (some ⟨gb,0,none⟩) 64 cgb) (plainF 7).pix:=ho9.ints.mono (Nat.zero_le _) (Nat.le_refl _)
     clear ho9
     have q:Only [] v v':=by first | exact hq | exact ((Only.refl _ _).drew).q hq
     replace HE2:=lh (q.row HE2.out)
     have HPb:=lh hP
     replace o:=lh (o.out.q q)
     clear hq q hP
     exact qEFs225
    ·go_simp
     generalize hW:World.alloc _ _=v'
     have q:Only [] v v':=by rw [← hW];first | exact Only.new _ _ | exact ((Only.refl _ _).drew).q (Only.new _ _)
     have HC2:Hid (v'.heap[v.heap.size]?=some (.cells #[.int .i64 0,.slice none 0 0] 31 (0,0))):=lh (by rw [← hW];exact heap_alloc_new _ _)
     have hz:W2.heap.size≤v.heap.size:=o.out.size
     have HnC2E2:Hid (v.heap.size≠bE2):=lh (by have:=(Array.getElem?_eq_some_iff.1 HE2.out).1;omega)
     replace HE2:=lh (q.row HE2.out)
     replace o:=lh (o.out.q q)
     clear hW q
     generalize hb:v.heap.size=bC2 at HC2 HnC2E2 ⊢
     have HzC2:Hid (W2.heap.size≤bC2):=lh (by rw [← hb];exact hz)
     exact qEFs228
  case rest =>
   obtain ⟨bC2,bE2,l2,h2,da2,dn2,dc2,fa2,fc2,rfl,rfl,rfl,HO2,HC2,HF2,HB2,HK2,-,-⟩:=hcut
   obtain ⟨W3,hW3⟩:∃ z,z=wc:=⟨_,rfl⟩
   subst hW3
   have HS3:Hid (∀ wx:World,Only [] W3 wx→wx.heap[bk]?=some (.cells #[.int .i64 0,.int .i64 3,.int .i64 0,.int .i64 0,.int .i64 1,.int .i64 8,.int .i64 8,.int .i64 8] 47 (0,0))):=lh (fun wx o=>(HO2.out.q o).row HRk.out)
   go_upto_region 5 with (fail)
   go_cut [9,10,11] (fun sC3 sE3 s11 wx=>∃ (bC3:Nat) (bE3:Nat) (l3:Nat) (h3:Nat) (da3:Option Addr) (dn3:Nat) (dc3:Nat) (fa3:Option Addr) (fc3:Nat),sC3=.pointer (some ⟨bC3,0,none⟩)∧sE3=.pointer (some ⟨bE3,0,none⟩)∧s11=.nilIface∧Hid (Only [] W3 wx)∧Hid (wx.heap[bC3]?=some (.cells #[.int .i64 3,.slice da3 dn3 dc3] 31 (0,0)))∧Hid (wx.heap[bE3]?=some (.cells #[.int .i64 8,.int .i64 8,.slice fa3 64 fc3] 24 (0,0)))∧Hid (W3.heap.size≤l3∧h3≤wx.heap.size)∧Hid (Ints .i64 l3 h3 wx (.slice fa3 64 fc3) (plainF 200).pix)∧Hid (W3.heap.size≤bC3∧(bC3<l3∨h3≤bC3))∧Hid (W3.heap.size≤bE3∧(bE3<l3∨h3≤bE3)))
   case first =>
    have o:=lh (Only.refl [] W3)
    refine wp_region_held_drew (S:=(fun wz=>wz.heap[bk]?=some (.cells #[.int .i64 0,.int .i64 3,.int .i64 0,.int .i64 0,.int .i64 1,.int .i64 8,.int .i64 8,.int .i64 8] 47 (0,0)))) (by kernel_rfl) ?_ (fun hHeld=>?_)
    ·first | exact HS3.out _ (Only.refl _ _) | exact HS3.out _ (Only.refl _ _).drew
    refine tkw 2 35 ⟨rfl,qEFs2t2⟩ ?_
    refine rdy (rdc 0 33 (fun K hK=>?_) (rdc 8 9 (fun K hK=>?_) (rdc 9 10 (fun K hK=>?_) .nil)))
    ·go_simp
     go_at_call 27
     refine (HPl7.out _).mono ?_
     rintro e v' ⟨gc,cgc,rfl,ho9,hq⟩
     have hP:Ints .i64 0 v'.heap.size v' (.slice (some ⟨gc,0,none⟩) 64 cgc) (plainF 7).pix:=ho9.ints.mono (Nat.zero_le _) (Nat.le_refl _)
     clear ho9
     have q:Only [] W3 v':=by first | exact hq | exact ((Only.refl _ _).drew).q hq
     have HPc:=lh hP
     replace o:=lh (o.out.q q)
     clear hq q hP
     obtain ⟨v,rfl⟩:∃ z,z=v':=⟨_,rfl⟩
     refine hK.out _ _ ?_ (fun hHeld=>?_)
     ·exact qEFs24
     clear hK K
     refine rdy (rdc 1 34 (fun K hK=>?_) (rdc 8 9 (fun K hK=>?_) (rdc 9 10 (fun K hK=>?_) .nil)))
     ·go_simp
      go_at_call 27
      refine (HPl200.out _).mono ?_
      rintro e v' ⟨gd,cgd,rfl,ho9,hq⟩
      have hP:Ints .i64 0 v'.heap.size v' (.slice (some ⟨gd,0,none⟩) 64 cgd) (plainF 200).pix:=ho9.ints.mono (Nat.zero_le _) (Nat.le_refl _)
      clear ho9
      have q:Only [] v v':=by first | exact hq | exact ((Only.refl _ _).drew).q hq
      replace HPc:Hid (Ints .i64 0 v'.heap.size v' (.slice (some ⟨gc,0,none⟩) 64 cgc) (plainF 7).pix):=lh ((HPc.out.quiet q).mono (Nat.le_refl _) q.size)
      have HPd:=lh hP
      replace o:=lh (o.out.q q)
      clear hq q hP
      obtain ⟨v,rfl⟩:∃ z,z=v':=⟨_,rfl⟩
      refine hK.out _ _ ?_ (fun hHeld=>?_)
      ·exact qEFs24
      clear hK K
      refine rdy (rdc 3 36 (fun K hK=>?_) (rdc 8 9 (fun K hK=>?_) (rdc 9 10 (fun K hK=>?_) .nil)))
      ·go_simp
       go_at_call 21
       refine (HSk.out _ _ _ (by first | exact HPc.out | exact HPc.out.quiet (Only.refl _ _).drew) (by first | exact HPd.out | exact HPd.out.quiet (Only.refl _ _).drew)).mono ?_
       rintro e v' ⟨da3,dn3,dc3,fa3,fc3,rfl,hi9,hq⟩
       obtain ⟨l3,hl1⟩:∃ z,z=v.heap.size:=⟨_,rfl⟩
       obtain ⟨h3,hh1⟩:∃ z,z=v'.heap.size:=⟨_,rfl⟩
       have hKf:Ints .i64 l3 h3 v' (.slice fa3 64 fc3) (plainF 200).pix:=by rw [hl1,hh1];exact hi9
       have hKl:v.heap.size≤l3:=by omega
       have hKh:h3≤v'.heap.size:=by omega
       clear hi9 hl1 hh1
       have q:Only [] v v':=by first | exact hq | exact ((Only.refl _ _).drew).q hq
       have hVl:W3.heap.size≤v.heap.size:=o.out.size
       replace HPc:Hid (Ints .i64 0 v'.heap.size v' (.slice (some ⟨gc,0,none⟩) 64 cgc) (plainF 7).pix):=lh ((HPc.out.quiet q).mono (Nat.le_refl _) q.size)
       replace HPd:Hid (Ints .i64 0 v'.heap.size v' (.slice (some ⟨gd,0,none⟩) 64 cgd) (plainF 200).pix):=lh ((HPd.out.quiet q).mono (Nat.le_refl _) q.size)
       have HK:=lh hKf
       have HKb:Hid (W3.heap.size≤l3∧h3≤v'.heap.size):=lh ⟨by omega,hKh⟩
       replace o:=lh (o.out.q q)
       clear hq q hKf hKl hKh hVl
       obtain ⟨v,rfl⟩:∃ z,z=v':=⟨_,rfl⟩
       refine hK.out _ _ ?_ (fun hHeld=>?_)
       ·exact qEFs24
       clear hK K
       refine tkw 4 32 ⟨rfl,qEFs2t2⟩ ?_
       refine tkw 5 37 ⟨rfl,qEFs2t2⟩ ?_
       refine tkw 6 38 ⟨rfl,qEFs2t2⟩ ?_
       refine tkw 7 39 ⟨rfl,qEFs2t2⟩ ?_
       refine rdy (rdc 8 9 (fun K hK=>?_) (rdc 9 10 (fun K hK=>?_) .nil))
       ·go_simp
        generalize hW:World.alloc _ _=v'
        have q:Only [] v v':=by rw [← hW];first | exact Only.new _ _ | exact ((Only.refl _ _).drew).q (Only.new _ _)
        have HC3:Hid (v'.heap[v.heap.size]?=some (.cells #[.int .i64 0,.slice none 0 0] 31 (0,0))):=lh (by rw [← hW];exact heap_alloc_new _ _)
        have hz:W3.heap.size≤v.heap.size:=o.out.size
        have HkC3:Hid (W3.heap.size≤v.heap.size∧(v.heap.size<l3∨h3≤v.heap.size)):=lh ⟨hz,.inr HKb.out.2⟩
        replace HK:Hid (Ints .i64 l3 h3 v' (.slice fa3 64 fc3) (plainF 200).pix):=lh (HK.out.only q (by simp))
        replace HKb:Hid (W3.heap.size≤l3∧h3≤v'.heap.size):=lh ⟨HKb.out.1,Nat.le_trans HKb.out.2 q.size⟩
        replace HPc:Hid (Ints .i64 0 v'.heap.size v' (.slice (some ⟨gc,0,none⟩) 64 cgc) (plainF 7).pix):=lh ((HPc.out.quiet q).mono (Nat.le_refl _) q.size)
        replace HPd:Hid (Ints .i64 0 v'.heap.size v' (.slice (some ⟨gd,0,none⟩) 64 cgd) (plainF 200).pix):=lh ((HPd.out.quiet q).mono (Nat.le_refl _) q.size)
        replace o:=lh (o.out.q q)
        clear hW q
        generalize hb:v.heap.size=bC3 at HC3 HkC3 ⊢
        have HzC3:Hid (W3.heap.size≤bC3):=lh (by rw [← hb];exact hz)
        clear hb hz
        obtain ⟨v,rfl⟩:∃ z,z=v':=⟨_,rfl⟩
        refine hK.out _ _ ?_ (fun hHeld=>?_)
        ·exact qEFs24
        clear hK K
        refine rdy (rdc 9 10 (fun K hK=>?_) .nil)
        go_simp
        generalize hW:World.alloc _ _=v'
        have q:Only [] v v':=by rw [← hW];first | exact Only.new _ _ | exact ((Only.refl _ _).drew).q (Only.new _ _)
        have HE3:Hid (v'.heap[v.heap.size]?=some (.cells #[.int .i64 0,.int .i64 0,.slice none 0 0] 24 (0,0))):=lh (by rw [← hW];exact heap_alloc_new _ _)
        have hz:W3.heap.size≤v.heap.size:=o.out.size
        have HkE3:Hid (W3.heap.size≤v.heap.size∧(v.heap.size<l3∨h3≤v.heap.size)):=lh ⟨hz,.inr HKb.out.2⟩
        have HnC3E3:Hid (bC3≠v.heap.size):=lh (by have:=(Array.getElem?_eq_some_iff.1 HC3.out).1;omega)
        replace HC3:=lh (q.row HC3.out)
        replace HK:Hid (Ints .i64 l3 h3 v' (.slice fa3 64 fc3) (plainF 200).pix):=lh (HK.out.only q (by simp))
        replace HKb:Hid (W3.heap.size≤l3∧h3≤v'.heap.size):=lh ⟨HKb.out.1,Nat.le_trans HKb.out.2 q.size⟩
        replace HPc:Hid (Ints .i64 0 v'.heap.size v' (.slice (some ⟨gc,0,none⟩) 64 cgc) (plainF 7).pix):=lh ((HPc.out.quiet q).mono (Nat.le_refl _) q.size)
        replace HPd:Hid (Ints .i64 0 v'.heap.size v' (.slice (some ⟨gd,0,none⟩) 64 cgd) (plainF 200).pix):=lh ((HPd.out.quiet q).mono (Nat.le_refl _) q.size)
        replace o:=lh (o.out.q q)
        clear hW q
        generalize hb:v.heap.size=bE3 at HE3 HkE3 HnC3E3 ⊢
        have HzE3:Hid (W3.heap.size≤bE3):=lh (by rw [← hb];exact hz)
        exact qEFs217
       ·go_simp
        generalize hW:World.alloc _ _=v'
        have q:Only [] v v':=by rw [← hW];first | exact Only.new _ _ | exact ((Only.refl _ _).drew).q (Only.new _ _)
        have HE3:Hid (v'.heap[v.heap.size]?=some (.cells #[.int .i64 0,.int .i64 0,.slice none 0 0] 24 (0,0))):=lh (by rw [← hW];exact heap_alloc_new _ _)
        have hz:W3.heap.size≤v.heap.size:=o.out.size
        have HkE3:Hid (W3.heap.size≤v.heap.size∧(v.heap.size<l3∨h3≤v.heap.size)):=lh ⟨hz,.inr HKb.out.2⟩
        replace HK:Hid (Ints .i64 l3 h3 v' (.slice fa3 64 fc3) (plainF 200).pix):=lh (HK.out.only q (by simp))
        replace HKb:Hid (W3.heap.size≤l3∧h3≤v'.heap.size):=lh ⟨HKb.out.1,Nat.le_trans HKb.out.2 q.size⟩
        replace HPc:Hid (Ints .i64 0 v'.heap.size v' (.slice (some ⟨gc,0,none⟩) 64 cgc) (plainF 7).pix):=lh ((HPc.out.quiet q).mono (Nat.le_refl _) q.size)
        replace HPd:Hid (Ints .i64 0 v'.heap.size v' (.slice (some ⟨gd,0,none⟩) 64 cgd) (plainF 200).pix):=lh ((HPd.out.quiet q).mono (Nat.le_refl _) q.size)
        replace o:=lh (o.out.q q)
        clear hW q
        generalize hb:v.heap.size=bE3 at HE3 HkE3 ⊢
        have HzE3:Hid (W3.heap.size≤bE3):=lh (by rw [← hb];exact hz)
        clear hb hz
        obtain ⟨v,rfl⟩:∃ z,z=v':=⟨_,rfl⟩
        refine hK.out _ _ ?_ (fun hHeld=>?_)
        ·exact qEFs24
        clear hK K
        refine rdy (rdc 8 9 (fun K hK=>?_) .nil)
        go_simp
        generalize hW:World.alloc _ _=v'
        have q:Only [] v v':=by rw [← hW];first | exact Only.new _ _ | exact ((Only.refl _ _).drew).q (Only.new _ _)
        have HC3:Hid (v'.heap[v.heap.size]?=some (.cells #[.int .i64 0,.slice none 0 0] 31 (0,0))):=lh (by rw [← hW];exact heap_alloc_new _ _)
        have hz:W3.heap.size≤v.heap.size:=o.out.size
        have HkC3:Hid (W3.heap.size≤v.heap.size∧(v.heap.size<l3∨h3≤v.heap.size)):=lh ⟨hz,.inr HKb.out.2⟩
        have HnC3E3:Hid (v.heap.size≠bE3):=lh (by have:=(Array.getElem?_eq_some_iff.1 HE3.out).1;omega)
        replace HE3:=lh (q.row HE3.out)
        replace HK:Hid (Ints .i64 l3 h3 v' (.slice fa3 64 fc3) (plainF 200).pix):=lh (HK.out.only q (by simp))
        replace HKb:Hid (W3.heap.size≤l3∧h3≤v'.heap.size):=lh ⟨HKb.out.1,Nat.le_trans HKb.out.2 q.size⟩
        replace HPc:Hid (Ints .i64 0 v'.heap.size v' (.slice (some ⟨gc,0,none⟩) 64 cgc) (plainF 7).pix):=lh ((HPc.out.quiet q).mono (Nat.le_refl _) q.size)
        replace HPd:Hid (Ints .i64 0 v'.heap.size v' (.slice (some ⟨gd,0,none⟩) 64 cgd) (plainF 200).pix):=lh ((HPd.out.quiet q).mono (Nat.le_refl _) q.size)
        replace o:=lh (o.out.q q)
        clear hW q
        generalize hb:v.heap.size=bC3 at HC3 HkC3 HnC3E3 ⊢
        have HzC3:Hid (W3.heap.size≤bC3):=lh (by rw [← hb];exact hz)
        exact qEFs217
      ·go_simp
       generalize hW:World.alloc _ _=v'
       have q:Only [] v v':=by rw [← hW];first | exact Only.new _ _ | exact ((Only.refl _ _).drew).q (Only.new _ _)
       have HC3:Hid (v'.heap[v.heap.size]?=some (.cells #[.int .i64 0,.slice none 0 0] 31 (0,0))):=lh (by rw [← hW];exact heap_alloc_new _ _)
       have hz:W3.heap.size≤v.heap.size:=o.out.size
       replace HPc:Hid (Ints .i64 0 v'.heap.size v' (.slice (some ⟨gc,0,none⟩) 64 cgc) (plainF 7).pix):=lh ((HPc.out.quiet q).mono (Nat.le_refl _) q.size)
       replace HPd:Hid (Ints .i64 0 v'.heap.size v' (.slice (some ⟨gd,0,none⟩) 64 cgd) (plainF 200).pix):=lh ((HPd.out.quiet q).mono (Nat.le_refl _) q.size)
       replace o:=lh (o.out.q q)
       clear hW q
       generalize hb:v.heap.size=bC3 at HC3 ⊢
       have HzC3:Hid (W3.heap.size≤bC3):=lh (by rw [← hb];exact hz)
       clear hb hz
       exact qEFs29
      ·go_simp
       generalize hW:World.alloc _ _=v'
       have q:Only [] v v':=by rw [← hW];first | exact Only.new _ _ | exact ((Only.refl _ _).drew).q (Only.new _ _)
       have HE3:Hid (v'.heap[v.heap.size]?=some (.cells #[.int .i64 0,.int .i64 0,.slice none 0 0] 24 (0,0))):=lh (by rw [← hW];exact heap_alloc_new _ _)
       have hz:W3.heap.size≤v.heap.size:=o.out.size
       replace HPc:Hid (Ints .i64 0 v'.heap.size v' (.slice (some ⟨gc,0,none⟩) 64 cgc) (plainF 7).pix):=lh ((HPc.out.quiet q).mono (Nat.le_refl _) q.size)
       replace HPd:Hid (Ints .i64 0 v'.heap.size v' (.slice (some ⟨gd,0,none⟩) 64 cgd) (plainF 200).pix):=lh ((HPd.out.quiet q).mono (Nat.le_refl _) q.size)
       replace o:=lh (o.out.q q)
       clear hW q
       generalize hb:v.heap.size=bE3 at HE3 ⊢
       have HzE3:Hid (W3.heap.size≤bE3):=lh (by rw [← hb];exact hz)
       clear hb hz
       exact qEFs210
     ·go_simp
      generalize hW:World.alloc _ _=v'
      have q:Only [] v v':=by rw [← hW];first | exact Only.new _ _ | exact ((Only.refl _ _).drew).q (Only.new _ _)
      have HC3:Hid (v'.heap[v.heap.size]?=some (.cells #[.int .i64 0,.slice none 0 0] 31 (0,0))):=lh (by rw [← hW];exact heap_alloc_new _ _)
      have hz:W3.heap.size≤v.heap.size:=o.out.size
      replace HPc:Hid (Ints .i64 0 v'.heap.size v' (.slice (some ⟨gc,0,none⟩) 64 cgc) (plainF 7).pix):=lh ((HPc.out.quiet q).mono (Nat.le_refl _) q.size)
      replace o:=lh (o.out.q q)
      clear hW q
      generalize hb:v.heap.size=bC3 at HC3 ⊢
      have HzC3:Hid (W3.heap.size≤bC3):=lh (by rw [← hb];exact hz)
      clear hb hz
      exact qEFs220
     ·go_simp
      generalize hW:World.alloc _ _=v'
      have q:Only [] v v':=by rw [← hW];first | exact Only.new _ _ | exact ((Only.refl _ _).drew).q (Only.new _ _)
      have HE3:Hid (v'.heap[v.heap.size]?=some (.cells #[.int .i64 0,.int .i64 0,.slice none 0 0] 24 (0,0))):=lh (by rw [← hW];exact heap_alloc_new _ _)
      have hz:W3.heap.size≤v.heap.size:=o.out.size
      replace HPc:Hid (Ints .i64 0 v'.heap.size v' (.slice (some ⟨gc,0,none⟩) 64 cgc) (plainF 7).pix):=lh ((HPc.out.quiet q).mono (Nat.le_refl _) q.size)
      replace o:=lh (o.out.q q)
      clear hW q
      generalize hb:v.heap.size=bE3 at HE3 ⊢
      have HzE3:Hid (W3.heap.size≤bE3):=lh (by rw [← hb];exact hz)
      clear hb hz
      exact qEFs221
    ·go_simp
     generalize hW:World.alloc _ _=v'
     have q:Only [] W3 v':=by rw [← hW];first | exact Only.new _ _ | exact ((Only.refl _ _).drew).q (Only.new _ _)
     have HC3:Hid (v'.heap[W3.heap.size]?=some (.cells #[.int .i64 0,.slice none 0 0] 31 (0,0))):=lh (by rw [← hW];exact heap_alloc_new _ _)
     have hz:W3.heap.size≤W3.heap.size:=o.out.size
     replace o:=lh (o.out.q q)
     clear hW q
     generalize hb:W3.heap.size=bC3 at HC3 ⊢
     have HzC3:Hid (W3.heap.size≤bC3):=lh (by rw [← hb];exact hz)
     clear hb hz
     obtain ⟨v,rfl⟩:∃ z,z=v':=⟨_,rfl⟩
     refine hK.out _ _ ?_ (fun hHeld=>?_)
     ·exact qEFs24
     clear hK K
     refine rdy (rdc 0 33 (fun K hK=>?_) (rdc 9 10 (fun K hK=>?_) .nil))
     ·go_simp
      go_at_call 27
      refine (HPl7.out _).mono ?_
      rintro e v' ⟨gc,cgc,rfl,ho9,hq⟩
      have hP:Ints .i64 0 v'.heap.size v' (.slice (some ⟨gc,0,none⟩) 64 cgc) (plainF 7).pix:=ho9.ints.mono (Nat.zero_le _) (Nat.le_refl _)
      clear ho9
      have q:Only [] v v':=by first | exact hq | exact ((Only.refl _ _).drew).q hq
      replace HC3:=lh (q.row HC3.out)
      have HPc:=lh hP
      replace o:=lh (o.out.q q)
      clear hq q hP
      exact qEFs220
     ·go_simp
      generalize hW:World.alloc _ _=v'
      have q:Only [] v v':=by rw [← hW];first | exact Only.new _ _ | exact ((Only.refl _ _).drew).q (Only.new _ _)
      have HE3:Hid (v'.heap[v.heap.size]?=some (.cells #[.int .i64 0,.int .i64 0,.slice none 0 0] 24 (0,0))):=lh (by rw [← hW];exact heap_alloc_new _ _)
      have hz:W3.heap.size≤v.heap.size:=o.out.size
      have HnC3E3:Hid (bC3≠v.heap.size):=lh (by have:=(Array.getElem?_eq_some_iff.1 HC3.out).1;omega)
      replace HC3:=lh (q.row HC3.out)
      replace o:=lh (o.out.q q)
      clear hW q
      generalize hb:v.heap.size=bE3 at HE3 HnC3E3 ⊢
      have HzE3:Hid (W3.heap.size≤bE3):=lh (by rw [← hb];exact hz)
      exact qEFs227
    ·go_simp
     generalize hW:World.alloc _ _=v'
     have q:Only [] W3 v':=by rw [← hW];first | exact Only.new _ _ | exact ((Only.refl _ _).drew).q (Only.new _ _)
     have HE3:Hid (v'.heap[W3.heap.size]?=some (.cells #[.int .i64 0,.int .i64 0,.slice none 0 0] 24 (0,0))):=lh (by rw [← hW];exact heap_alloc_new _ _)
     have hz:W3.heap.size≤W3.heap.size:=o.out.size
     replace o:=lh (o.out.q q)
     clear hW q
     generalize hb:W3.heap.size=bE3 at HE3 ⊢
     have HzE3:Hid (W3.heap.size≤bE3):=lh (by rw [← hb];exact hz)
     clear hb hz
     obtain ⟨v,rfl⟩:∃ z,z=v':=⟨_,rfl⟩
     refine hK.out _ _ ?_ (fun hHeld=>?_)
     ·exact qEFs24
     clear hK K
     refine rdy (rdc 0 33 (fun K hK=>?_) (rdc 8 9 (fun K hK=>?_) .nil))
     ·go_simp
      go_at_call 27
      refine (HPl7.out _).mono ?_
      rintro e v' ⟨gc,cgc,rfl,ho9,hq⟩
      have hP:Ints .i64 0 v'.heap.size v' (.slice (some ⟨gc,0,none⟩) 64 cgc) (plainF 7).pix:=ho9.ints.mono (Nat.zero_le _) (Nat.le_refl _)
      clear ho9
      have q:Only [] v v':=by first | exact hq | exact ((Only.refl _ _).drew).q hq
      replace HE3:=lh (q.row HE3.out)
      have HPc:=lh hP
      replace o:=lh (o.out.q q)
      clear hq q hP
      exact qEFs221
     ·go_simp
      generalize hW:World.alloc _ _=v'
      have q:Only [] v v':=by rw [← hW];first | exact Only.new _ _ | exact ((Only.refl _ _).drew).q (Only.new _ _)
      have HC3:Hid (v'.heap[v.heap.size]?=some (.cells #[.int .i64 0,.slice none 0 0] 31 (0,0))):=lh (by rw [← hW];exact heap_alloc_new _ _)
      have hz:W3.heap.size≤v.heap.size:=o.out.size
      have HnC3E3:Hid (v.heap.size≠bE3):=lh (by have:=(Array.getElem?_eq_some_iff.1 HE3.out).1;omega)
      replace HE3:=lh (q.row HE3.out)
      replace o:=lh (o.out.q q)
      clear hW q
      generalize hb:v.heap.size=bC3 at HC3 HnC3E3 ⊢
      have HzC3:Hid (W3.heap.size≤bC3):=lh (by rw [← hb];exact hz)
      exact qEFs227
   case rest =>
    obtain ⟨bC3,bE3,l3,h3,da3,dn3,dc3,fa3,fc3,rfl,rfl,rfl,HO3,HC3,HF3,HB3,HK3,-,-⟩:=hcut
    have HA:=lh (HO2.out.q HO3.out)
    have HAA:=lh (HQk.out.q HA.out)
    obtain ⟨p0,p1,p2⟩:=frame_cells (HAA.out.row HR3.out)
    go_wp2_with fail
    clear p0 p1 p2
    go_at_call 14
    refine (fst_none).mono ?_
    rintro e w6 ⟨rfl,hq6⟩
    have HQ6:=lh hq6
    have HQn:=lh ((Only.new w6 (.cells #[.int .i64 0,.slice none 0 0] 31)).alloc (.cells #[.int .i64 0,.int .i64 0,.slice none 0 0] 24))
    clear hq6
    go_upto_region 7 with (fail)
    generalize hW7:World.alloc (World.alloc w6 _) _=W7 at *
    clear hW7
    have HB7:=lh (HQ6.out.q HQn.out)
    have HA7:=lh (HA.out.q HB7.out)
    have HC7:=lh (HO3.out.q HB7.out)
    have HAA7:=lh (HAA.out.q HB7.out)
    have HQ7:=lh (HQ3.out.q HAA7.out)
    have HS7:Hid (∀ wx:World,Only [] W7 wx→wx.heap[bC1]?=some (.cells #[.int .i64 1,.slice da1 dn1 dc1] 31 (0,0))∧wx.heap[bE1]?=some (.cells #[.int .i64 8,.int .i64 8,.slice fa1 64 fc1] 24 (0,0))∧wx.heap[bC2]?=some (.cells #[.int .i64 4,.slice da2 dn2 dc2] 31 (0,0))∧wx.heap[bE2]?=some (.cells #[.int .i64 8,.int .i64 8,.slice fa2 64 fc2] 24 (0,0))∧wx.heap[bC3]?=some (.cells #[.int .i64 3,.slice da3 dn3 dc3] 31 (0,0))∧wx.heap[bE3]?=some (.cells #[.int .i64 8,.int .i64 8,.slice fa3 64 fc3] 24 (0,0))):=lh (fun wx o=>⟨(HAA7.out.q o).row HC1.out,(HAA7.out.q o).row HF1.out,(HC7.out.q o).row HC2.out,(HC7.out.q o).row HF2.out,(HB7.out.q o).row HC3.out,(HB7.out.q o).row HF3.out⟩)
    have HI1:=lh (fun (W:World) (o:Only [] W7 W)=>HK1.out.quiet (HAA7.out.q o))
    have HI2:=lh (fun (W:World) (o:Only [] W7 W)=>HK2.out.quiet (HC7.out.q o))
    have HI3:=lh (fun (W:World) (o:Only [] W7 W)=>HK3.out.quiet (HB7.out.q o))
    have HSm:=lh (fun (W:World) (o:Only [] W7 W)=>same_any (v:=.iface 36 (.int .i64 2)) (sv:=.slice none 0 0) (o:=some ⟨[],2⟩) (c:=2) (p:=[]) (w:=W) (lo:=0) (hi:=0) (lo':=0) (hi':=0) (ErrV.code 0 0 W 2) (Nat.zero_le _) (HE.out.quiet (HQ7.out.q o)) (by simp) (Cells.nil _ _ _ _) rfl rfl rfl)
    have x0:=lh (Only.refl [] W7)
    refine wp_region_held_drew (S:=(fun wz=>wz.heap[bC1]?=some (.cells #[.int .i64 1,.slice da1 dn1 dc1] 31 (0,0))∧wz.heap[bE1]?=some (.cells #[.int .i64 8,.int .i64 8,.slice fa1 64 fc1] 24 (0,0))∧wz.heap[bC2]?=some (.cells #[.int .i64 4,.slice da2 dn2 dc2] 31 (0,0))∧wz.heap[bE2]?=some (.cells #[.int .i64 8,.int .i64 8,.slice fa2 64 fc2] 24 (0,0))∧wz.heap[bC3]?=some (.cells #[.int .i64 3,.slice da3 dn3 dc3] 31 (0,0))∧wz.heap[bE3]?=some (.cells #[.int .i64 8,.int .i64 8,.slice fa3 64 fc3] 24 (0,0)))) (by kernel_rfl) ?_ (fun hHeld=>?_)
    ·exact HS7.out _ (by first | exact x0.out | exact x0.out.drew)
    refine tkw 0 47 ⟨rfl,qEFs2t3⟩ ?_
    refine tkw 1 48 ⟨rfl,qEFs2t3⟩ ?_
    refine tkw 2 49 ⟨rfl,qEFs2t3⟩ ?_
    refine tkw 3 50 ⟨rfl,qEFs2t3⟩ ?_
    refine tkw 4 51 ⟨rfl,qEFs2t3⟩ ?_
    refine tkw 5 52 ⟨rfl,qEFs2t3⟩ ?_
    refine tkw 6 53 ⟨rfl,qEFs2t3⟩ ?_
    refine tkw 7 54 ⟨rfl,qEFs2t3⟩ ?_
    refine tkw 8 55 ⟨rfl,qEFs2t3⟩ ?_
    refine tkw 9 56 ⟨rfl,qEFs2t3⟩ ?_
    refine tkw 10 57 ⟨rfl,qEFs2t3⟩ ?_
    refine tkw 11 58 ⟨rfl,qEFs2t3⟩ ?_
    refine tkw 12 59 ⟨rfl,qEFs2t3⟩ ?_
    refine tkw 13 60 ⟨rfl,qEFs2t3⟩ ?_
    refine tkw 14 61 ⟨rfl,qEFs2t3⟩ ?_
    refine tkw 15 62 ⟨rfl,qEFs2t3⟩ ?_
    refine tkw 16 63 ⟨rfl,qEFs2t3⟩ ?_
    refine rdy (rdc 17 64 (fun K hK=>?_) .nil)
    go_simp
    go_at_call 27
    refine (HPl128.out _).mono ?_
    rintro e y1 ⟨g1,c1x,rfl,ho,hq⟩
    have HP1:=lh ho.ints
    clear ho
    have x1:Hid (Only [] W7 y1):=lh (by first | exact x0.out.q hq | exact x0.out.drew.q hq)
    clear hq
    refine hK.out _ _ ?_ (fun hHeld=>?_)
    ·exact HS7.out _ (by first | exact x1.out | exact x1.out.drew)
    clear hK K
    try simp only [Act.put,List.setIfInBounds_toArray,List.set_cons_zero,List.set_cons_succ]
    refine rdy (rdc 18 65 (fun K hK=>?_) .nil)
    go_simp
    go_at_call 17
    refine (HKf.out 128 _ _ _ _ _ _ _ (HI1.out _ (by first | exact x1.out | exact x1.out.drew)) (by first | exact HP1.out | exact HP1.out.quiet (Only.refl _ _).drew)).mono ?_
    rintro e y2 ⟨rfl,hq⟩
    rw [HEq.out 128]
    have x2:Hid (Only [] W7 y2):=lh (by first | exact x1.out.q hq | exact x1.out.drew.q hq)
    clear hq
    refine hK.out _ _ ?_ (fun hHeld=>?_)
    ·exact HS7.out _ (by first | exact x2.out | exact x2.out.drew)
    clear hK K
    try simp only [Act.put,List.setIfInBounds_toArray,List.set_cons_zero,List.set_cons_succ]
    refine tkw 19 66 ⟨rfl,qEFs2t3⟩ ?_
    refine tkw 20 67 ⟨rfl,qEFs2t3⟩ ?_
    refine tkw 21 68 ⟨rfl,qEFs2t3⟩ ?_
    refine tkw 22 69 ⟨rfl,qEFs2t3⟩ ?_
    refine tkw 23 70 ⟨rfl,qEFs2t3⟩ ?_
    refine tkw 24 71 ⟨rfl,qEFs2t3⟩ ?_
    refine tkw 25 72 ⟨rfl,qEFs2t3⟩ ?_
    refine tkw 26 73 ⟨rfl,qEFs2t3⟩ ?_
    refine rdy (rdc 27 74 (fun K hK=>?_) .nil)
    go_simp
    go_at_call 27
    refine (HPl128.out _).mono ?_
    rintro e y3 ⟨g3,c3x,rfl,ho,hq⟩
    have HP3:=lh ho.ints
    clear ho
    have x3:Hid (Only [] W7 y3):=lh (by first | exact x2.out.q hq | exact x2.out.drew.q hq)
    clear hq
    refine hK.out _ _ ?_ (fun hHeld=>?_)
    ·exact HS7.out _ (by first | exact x3.out | exact x3.out.drew)
    clear hK K
    try simp only [Act.put,List.setIfInBounds_toArray,List.set_cons_zero,List.set_cons_succ]
    refine rdy (rdc 28 75 (fun K hK=>?_) .nil)
    go_simp
    go_at_call 17
    refine (HKf.out 128 _ _ _ _ _ _ _ (HI2.out _ (by first | exact x3.out | exact x3.out.drew)) (by first | exact HP3.out | exact HP3.out.quiet (Only.refl _ _).drew)).mono ?_
    rintro e y4 ⟨rfl,hq⟩
    rw [HEq.out 128]
    have x4:Hid (Only [] W7 y4):=lh (by first | exact x3.out.q hq | exact x3.out.drew.q hq)
    clear hq
    refine hK.out _ _ ?_ (fun hHeld=>?_)
    ·exact HS7.out _ (by first | exact x4.out | exact x4.out.drew)
    clear hK K
    try simp only [Act.put,List.setIfInBounds_toArray,List.set_cons_zero,List.set_cons_succ]
    refine tkw 29 76 ⟨rfl,qEFs2t3⟩ ?_
    refine tkw 30 77 ⟨rfl,qEFs2t3⟩ ?_
    refine tkw 31 78 ⟨rfl,qEFs2t3⟩ ?_
    refine tkw 32 79 ⟨rfl,qEFs2t3⟩ ?_
    refine tkw 33 80 ⟨rfl,qEFs2t3⟩ ?_
    refine tkw 34 81 ⟨rfl,qEFs2t3⟩ ?_
    refine tkw 35 82 ⟨rfl,qEFs2t3⟩ ?_
    refine tkw 36 83 ⟨rfl,qEFs2t3⟩ ?_
    refine rdy (rdc 37 84 (fun K hK=>?_) .nil)
    go_simp
    go_at_call 27
    refine (HPl200.out _).mono ?_
    rintro e y5 ⟨g5,c5x,rfl,ho,hq⟩
    have HP5:=lh ho.ints
    clear ho
    have x5:Hid (Only [] W7 y5):=lh (by first | exact x4.out.q hq | exact x4.out.drew.q hq)
    clear hq
    refine hK.out _ _ ?_ (fun hHeld=>?_)
    ·exact HS7.out _ (by first | exact x5.out | exact x5.out.drew)
    clear hK K
    try simp only [Act.put,List.setIfInBounds_toArray,List.set_cons_zero,List.set_cons_succ]
    refine rdy (rdc 38 85 (fun K hK=>?_) .nil)
    go_simp
    go_at_call 17
    refine (HKf.out 200 _ _ _ _ _ _ _ (HI3.out _ (by first | exact x5.out | exact x5.out.drew)) (by first | exact HP5.out | exact HP5.out.quiet (Only.refl _ _).drew)).mono ?_
    rintro e y6 ⟨rfl,hq⟩
    rw [HEq.out 200]
    have x6:Hid (Only [] W7 y6):=lh (by first | exact x5.out.q hq | exact x5.out.drew.q hq)
    clear hq
    refine hK.out _ _ ?_ (fun hHeld=>?_)
    ·exact HS7.out _ (by first | exact x6.out | exact x6.out.drew)
    clear hK K
    try simp only [Act.put,List.setIfInBounds_toArray,List.set_cons_zero,List.set_cons_succ]
    refine tkw 39 86 ⟨rfl,qEFs2t3⟩ ?_
    refine tkw 40 87 ⟨rfl,qEFs2t3⟩ ?_
    refine tkw 41 88 ⟨rfl,qEFs2t3⟩ ?_
    refine rdy (rdc 42 89 (fun K hK=>?_) .nil)
    go_simp
    go_at_call 35
    refine (fail_any 2 _).mono ?_
    rintro e y7 ⟨rfl,hq⟩
    have x7:Hid (Only [] W7 y7):=lh (by first | exact x6.out.q hq | exact x6.out.drew.q hq)
    clear hq
    refine hK.out _ _ ?_ (fun hHeld=>?_)
    ·exact HS7.out _ (by first | exact x7.out | exact x7.out.drew)
    clear hK K
    try simp only [Act.put,List.setIfInBounds_toArray,List.set_cons_zero,List.set_cons_succ]
    refine rdy (rdc 43 90 (fun K hK=>?_) .nil)
    go_simp
    go_at_call 18
    refine (HSm.out _ (by first | exact x7.out | exact x7.out.drew)).mono ?_
    rintro e y8 ⟨rfl,hq⟩
    have x8:Hid (Only [] W7 y8):=lh (by first | exact x7.out.q hq | exact x7.out.drew.q hq)
    clear hq
    refine hK.out _ _ ?_ (fun hHeld=>?_)
    ·exact HS7.out _ (by first | exact x8.out | exact x8.out.drew)
    clear hK K
    try simp only [Act.put,List.setIfInBounds_toArray,List.set_cons_zero,List.set_cons_succ]
    refine tkw 44 91 ⟨rfl,qEFs2t3⟩ ?_
    refine tkw 45 0 ⟨rfl,qEFs2t3⟩ ?_
    refine wpAnyH_done (by kernel_rfl) ?_ _
    go_wp2_with fail
    exact HPost.out _ _ ⟨rfl,by first | exact HQ7.out.q x8.out | exact HQ7.out.q x8.out.drew⟩
end
end Go.Proofs.YtmgbbgffkakcaaaGreatDoor
