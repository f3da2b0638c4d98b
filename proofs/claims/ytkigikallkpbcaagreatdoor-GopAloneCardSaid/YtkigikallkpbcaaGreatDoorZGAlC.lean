/- GopAlone of the groups: for any arguments the law kinlaw23.GopAlone answers true and leaves its arguments as they were (a group's beginning is coded as all of it is, up to there: what comes behind changes nothing ahead). Conditions: errors.errorType is laid as the program's text lays it (the card ties it). -/
import Derived.Test.YtkigikallkpbcaaGreatDoorF3
import Derived.Test.YtkigikallkpbcaaGreatDoorZGAlW
import Derived.Test.YtkigikallkpbcaaGreatDoorTie
import Derived.Test.YtkigikallkpbcaaGreatDoorCards
import Derived.SevenTiedAt
namespace Go.Proofs.YtkigikallkpbcaaGreatDoor
open Go.ChangeShapes Go.WideShapes Go.ChangeAt Go.RowKit
set_option linter.unusedVariables false
set_option linter.unusedSimpArgs false
set_option maxRecDepth 100000
set_option maxHeartbeats 16000000
theorem gopAlone_lifted (os:Os) (started:os.Started) (H:Type) (enc:TypeId×Value→H) :
  ReturnsInHanded {} Tryz.checked os 6 .any (fun w args=>(Rows.gopAloneSpec.pre enc Tryz.prog Tryz.f6 [] false w args∧laidMetH Tryz.prog laid1 w)∧sizedMet enc Tryz.prog Tryz.f6 (OpenSpec.ofChange Rows.gopAloneSpec) false w args)
   (Rows.gopAloneSpec.post enc Tryz.prog Tryz.f6 false true false false):=by
 refine returnsInHanded_of_change_and (C:=Tryz.checked) (X:=fun w _=>laidMetH Tryz.prog laid1 w) (fun _ _ _ hh h=>h.of_heap hh) own_ started (by kernel_rfl) Tryz.func6
  (ChangeSpec.witness_at (enc:=enc) (C:=Tryz.checked) (os:=os) (X:=fun w _=>laidMetH Tryz.prog laid1 w) false (laidWorld os) #[.agg #[.int .i64 0,.int .i64 0,.int .i64 0,.int .i64 0,.int .i64 0,.int .i64 0,.int .i64 0,.int .i64 0],.slice none 0 0,.slice none 0 0,.int .i64 0] 8 rfl (by kernel_rfl) (by kernel_rfl) (by kernel_rfl) (by kernel_rfl) (by kernel_rfl) (laidWorld_met os _)) ?_
 intro W base args ds gs before hval0 hW _ _ hL _
 have hval:∀ (j:Nat) t v,Tryz.f6.params[j]?=some t→args[j]?=some v→Value.okWide Tryz.prog W .any base t v:=hval0
 have hW':=hW
 obtain ⟨p,q,hA0,hV,rfl,hfz,hnd⟩:=hW
 have hA:DataW.TrodAll enc Tryz.prog W 0 (fun _=>true) true Tryz.f6.params.toList args.toList ds p:=hA0
 rw [Tryz.params6] at hA hval
 obtain ⟨v0,vs0,d0,ds0,p0,q0,hargs,rfl,rfl,h0,r0⟩:=trodAll_cons hA
 obtain ⟨v1,vs1,d1,ds1,p1,q1,rfl,rfl,rfl,h1,r1⟩:=trodAll_cons r0
 obtain ⟨v2,vs2,d2,ds2,p2,q2,rfl,rfl,rfl,h2,r2⟩:=trodAll_cons r1
 obtain ⟨v3,vs3,d3,ds3,p3,q3,rfl,rfl,rfl,h3,r3⟩:=trodAll_cons r2
 obtain ⟨rfl,rfl,rfl⟩:=trodAll_nil r3
 obtain rfl:args=#[v0,v1,v2,v3]:=by cases args;simp_all
 obtain ⟨rfl,rfl⟩:=trodVars_none hV
 have k0:=h0
 have lt0:∀ x∈p0,x.block<W.heap.size:=by obtain ⟨m,hm⟩:=k0;exact DataW.trod_lt m _ _ _ hm
 obtain ⟨c0,rfl⟩:=config_in (hval 0 60 v0 rfl rfl) h0
 have k1:=h1
 have lt1:∀ x∈p1,x.block<W.heap.size:=by obtain ⟨m,hm⟩:=k1;exact DataW.trod_lt m _ _ _ hm
 obtain ⟨a1,len1,cap1,rfl⟩:=okWide_slice Tryz.underlying61 (hval 1 61 v1 rfl rfl)
 obtain ⟨l1,hd1⟩:∃ l,FramesAt 0 W.heap.size W (.slice a1 len1 cap1) l:=by
  obtain ⟨fuel,hf⟩:=h1
  obtain ⟨v,l,hv,hl⟩:=frames_in hf
  have hcs:(Value.slice a1 len1 cap1).cells.toList=[.slice a1 len1 cap1]:=rfl
  rw [hcs] at hv
  obtain rfl:=(List.cons.inj hv).1
  exact ⟨l,hl⟩
 have k2:=h2
 have lt2:∀ x∈p2,x.block<W.heap.size:=by obtain ⟨m,hm⟩:=k2;exact DataW.trod_lt m _ _ _ hm
 obtain ⟨a2,len2,cap2,rfl⟩:=okWide_slice Tryz.underlying49 (hval 2 49 v2 rfl rfl)
 obtain ⟨l2,hd2⟩:∃ l,Ints .i64 0 W.heap.size W (.slice a2 len2 cap2) l:=by
  obtain ⟨fuel,hf⟩:=h2
  exact i64s_in hf
 obtain ⟨n3,rfl,rfl,rfl,w3⟩:=open_int Tryz.underlying3 (hval 3 3 v3 rfl rfl) h3
 clear hA0 hval0
 simp only [List.append_nil] at hW'
 refine (galone_any c0 hd1 hd2 (i64_in w3) (errT_of_laid hL)).mono fun e W' ⟨he,hq⟩=>?_
 subst he
 have bel:=hq.quiet
 exact ⟨_,rfl,_,_,_,[],_,[],hW',trodAll_mk1 (shut_bool Tryz.underlying4 _),(trodAll_cons_mk (Below.trod laidOut_ (by kernel_rfl) (of_decide_eq_true (by kernel_rfl)) k0 bel lt0) (trodAll_cons_mk (Below.trod laidOut_ (by kernel_rfl) (of_decide_eq_true (by kernel_rfl)) k1 bel lt1) (trodAll_cons_mk (Below.trod laidOut_ (by kernel_rfl) (of_decide_eq_true (by kernel_rfl)) k2 bel lt2) (trodAll_cons_mk (shut_int Tryz.underlying3 w3) trodAll_mk0)))),rfl,bel.frame _,fun h=>by cases h⟩
theorem gopAlone_row:Rows.GopAloneSaid :=
 OpenClaim.holds_of_wide 6 Tryz.f6 rfl rfl rfl rfl rfl rfl rfl ⟨rfl,rfl,rfl,rfl,rfl⟩ rfl rfl rfl rfl rfl (by kernel_rfl) Tryz.func6 (by kernel_rfl)
  (of_decide_eq_true (by kernel_rfl)) (by unfold Func.isWrapper;first | (rw [if_pos (by decide +kernel)];kernel_rfl) | (rw [if_neg (by decide +kernel)];exact ⟨rfl,rfl⟩))
  (fun os started H enc _=>gopAlone_lifted os started H enc)
theorem gopAlone_holds:Rows.GopAloneCardSaid :=
 Claim7.holds_tied_plain_at .later [] [.handle] true _ true
  gopAlone_row (fun _ h=>by cases h) (by kernel_rfl) (fun _ h=>by cases h) gopAlone_row_tie rfl ⟨rfl,rfl⟩ (by kernel_rfl) rfl
  (fun f fn hf hfn=>by
   obtain rfl:f=6:=Option.some.inj ((show Tryz.prog.funcNamed "kinescope/kinlaw23.GopAlone"=some 6 by kernel_rfl).symm.trans hf) |>.symm
   obtain rfl:fn=Tryz.f6:=(Option.some.inj (Tryz.func6.symm.trans hfn)).symm
   exact ⟨by kernel_rfl,fun j t ht=>by
    rw [Tryz.params6] at ht
    have hm:t∈[60,61,49,3]:=by simpa using Array.mem_of_getElem? ht
    have hall:([60,61,49,3].all fun u=>!Tryz.prog.wantsStandIn u)=true:=by kernel_rfl
    exact (show Tryz.prog.wantsStandIn t=false by simpa using List.all_eq_true.1 hall t hm)⟩)
  (by kernel_rfl)
end Go.Proofs.YtkigikallkpbcaaGreatDoor
