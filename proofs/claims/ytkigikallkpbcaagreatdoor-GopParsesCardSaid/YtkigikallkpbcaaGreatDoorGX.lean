/- Joined texts: GPrW, GPrC. Conditions: each part names its own. -/
import Derived.Test.YtkigikallkpbcaaGreatDoorT1
import Derived.Test.YtkigikallkpbcaaGreatDoorGC
import Derived.Test.YtkigikallkpbcaaGreatDoorGY
import Derived.Deep.DeepCutAuto
import Derived.Test.YtkigikallkpbcaaGreatDoorF3
import Derived.Test.YtkigikallkpbcaaGreatDoorC1
import Derived.Deep.Slices
import Derived.Test.YtkigikallkpbcaaGreatDoorG6
import Derived.Test.YtkigikallkpbcaaGreatDoorTie
import Derived.Test.YtkigikallkpbcaaGreatDoorCards
import Derived.SevenTiedAt
set_option maxRecDepth 100000
set_option maxHeartbeats 16000000
namespace Go.Proofs.YtkigikallkpbcaaGreatDoor
open Go.RowKit
set_option linter.unusedVariables false
set_option linter.unusedSimpArgs false
section
theorem codeds_none (w:World):CodedsAt 0 w.heap.size w (.slice none 0 0) []:=(OwnKD.nil (lo:=0) (hi:=0) (base:=0) (Nat.le_refl _) w).codeds (Nat.le_refl _) (Nat.zero_le _)
theorem gparses_any {v:Value} {l:List Int} {w:World} (h:Ints .u8 0 w.heap.size w v l) (hE:ErrT w) :
  Calls Tryz.prog 4 #[v] w fun e w'=>e=.returned (.bool true)∧Only [] w w':=by
 refine hidQ fun Q HPost=>?_
 have HFi:=lh (fun (W:World) (o:Only [] w W)=>gfirst1_any W (hE.quiet o))
 have HEr:=lh hE
 obtain ⟨⟨-,va,vc,rfl,hlc,hlm,-⟩,-⟩:=id h
 have hll:(l.length:Int)≤9223372036854775807:=by unfold maxLen at hlm;omega
 have HH:=lh h
 clear h hE hlm hlc
 go_enter Tryz.func4,Tryz.ntmps4
 go_wp2_with fail
 go_at_call 9
 refine (HFi.out _ (Only.refl _ _)).mono ?_
 rintro e w2 ⟨rfl,hq2⟩
 have HQ2:=lh hq2
 clear hq2
 by_cases hlen:(20000:Int)<(l.length:Int)
 ·go_wp2_with fail
  go_at_call 9
  refine (HFi.out _ HQ2.out).mono ?_
  rintro e w4 ⟨rfl,hq4⟩
  have HQ4:=lh (HQ2.out.q hq4)
  clear hq4
  go_wp2_with fail
  exact HPost.out _ _ ⟨rfl,HQ4.out⟩
 have HGp:=lh (fun (W:World) (o:Only [] w W)=>gparse_any (HH.out.quiet o) (by omega))
 have HKp:=lh (fun (W:World) (o:Only [] w W)=>kgparse_any (HH.out.quiet o) (by omega))
 go_wp2_with fail
 clear hlen
 go_at_call 23
 refine (HGp.out _ HQ2.out).mono ?_
 rintro e w3 ⟨hq3,U,E,hspl,hm⟩
 have HQ3:=lh (HQ2.out.q hq3)
 have HSpl:=lh hspl
 clear hq3 hspl
 cases hpe:parseE U E with
 | error er =>
  rw [hpe] at hm
  obtain ⟨ev,rfl,hev⟩:=hm
  obtain ⟨et,eu,rfl⟩:=hev.held
  have HPe:=lh hpe
  have HEv:=lh hev
  clear hpe hev
  have hn3:=Only.new w3 (.cells #[.int .i64 0,.int .i64 0,.int .i64 0,.slice none 0 0] 26)
  have HQ4:=lh (HQ3.out.q hn3)
  have HC4:=lh (heap_alloc_new w3 (.cells #[.int .i64 0,.int .i64 0,.int .i64 0,.slice none 0 0] 26))
  have HQ34:=lh hn3
  clear hn3
  go_wp2_with fail
  generalize hW4:World.alloc w3 _=W4 at *
  clear hW4
  go_at_call 24
  refine (HKp.out _ HQ4.out).mono ?_
  rintro e w5 ⟨hq5,hm5⟩
  have HQ5:=lh (HQ4.out.q hq5)
  have HQ35:=lh (HQ34.out.q hq5)
  have HC5:=lh (hq5.row HC4.out)
  rw [kparse_eq HSpl.out,HPe.out] at hm5
  clear hq5
  obtain ⟨sv,rfl,hcs,hne,hpl⟩:=hm5
  obtain ⟨_,sa,sc,hsv,_⟩:=id hcs
  subst hsv
  have HCs:=lh hcs
  have HNe:=lh (And.intro hne hpl)
  clear hcs hne hpl
  have hn5:=Only.new w5 (.cells #[.int .i64 0,.int .i64 0,.int .i64 0,.slice none 0 0] 41)
  have hn6:=Only.new (w5.alloc (.cells #[.int .i64 0,.int .i64 0,.int .i64 0,.slice none 0 0] 41)) (.cells #[.int .i64 er.code,.slice sa er.path.length sc] 38)
  have HQ6:=lh ((HQ5.out.q hn5).q hn6)
  have HQ56:=lh (hn5.q hn6)
  have HC6:=lh (hn6.row (hn5.row HC5.out))
  have HK6:=lh (hn6.row (heap_alloc_new w5 (.cells #[.int .i64 0,.int .i64 0,.int .i64 0,.slice none 0 0] 41)))
  have HE6:Hid (((w5.alloc (.cells #[.int .i64 0,.int .i64 0,.int .i64 0,.slice none 0 0] 41)).alloc (.cells #[.int .i64 er.code,.slice sa er.path.length sc] 38)).heap[w5.heap.size+1]?=some (.cells #[.int .i64 er.code,.slice sa er.path.length sc] 38 (0,0))):=lh (heap_alloc_new' (by simp))
  clear hn5 hn6
  go_wp2_with fail
  generalize hW6:World.alloc (World.alloc w5 _) _=W6 at *
  clear hW6
  go_at_call 9
  refine (HFi.out _ HQ6.out).mono ?_
  rintro e w7 ⟨rfl,hq7⟩
  have HQ7:=lh (HQ6.out.q hq7)
  have HQ57:=lh (HQ56.out.q hq7)
  have HC7:=lh (hq7.row HC6.out)
  have HK7:=lh (hq7.row HK6.out)
  have HE7:=lh (hq7.row HE6.out)
  clear hq7
  obtain ⟨r0,r1,r2,r3⟩:=row4_cells HC7.out
  obtain ⟨q0,q1,q2,q3⟩:=row4_cells HK7.out
  go_wp2_with fail
  clear r0 r1 r2 r3 q0 q1 q2 q3
  go_at_call 25
  refine (gsame_any (cs:=[]) (codeds_none _) (codeds_none _)).mono ?_
  rintro e w8 ⟨rfl,hq8⟩
  have HQ8:=lh (HQ7.out.q hq8)
  have HQ58:=lh (HQ57.out.q hq8)
  have HE8:=lh (hq8.row HE7.out)
  clear hq8
  obtain ⟨e0,e1,-⟩:=row2 HE8.out
  go_wp2_with fail
  clear e0 e1
  go_at_call 18
  refine (same_any (o:=some er) (p:=er.path) (show OErrV _ _ w8 _ (some er) from HEv.out.only (HQ35.out.q HQ58.out) (by simp)) (by have:=HQ35.out.size;have:=HQ58.out.size;omega) (HEr.out.quiet HQ8.out) (by have:=HNe.out.2;omega) (HCs.out.only HQ58.out (by simp)) (by have:=HNe.out.1;simp [codeOf,this]) rfl rfl).mono ?_
  rintro e w9 ⟨rfl,hq9⟩
  have HQ9:=lh (HQ8.out.q hq9)
  clear hq9
  go_wp2_with fail
  exact HPost.out _ _ ⟨rfl,HQ9.out⟩
 | ok k =>
  rw [hpe] at hm
  obtain ⟨pa,pn,rfl,hcd⟩:=hm
  have HPe:=lh hpe
  have HCp:=lh hcd
  clear hpe hcd
  have hn3:=Only.new w3 (.cells #[.int .i64 k.number,.int .i64 k.first,.int .i64 k.count,.slice pa k.coded.length pn] 26)
  have HQ4:=lh (HQ3.out.q hn3)
  have HC4:=lh (heap_alloc_new w3 (.cells #[.int .i64 k.number,.int .i64 k.first,.int .i64 k.count,.slice pa k.coded.length pn] 26))
  have HQ34:=lh hn3
  clear hn3
  go_wp2_with fail
  generalize hW4:World.alloc w3 _=W4 at *
  clear hW4
  go_at_call 24
  refine (HKp.out _ HQ4.out).mono ?_
  rintro e w5 ⟨hq5,hm5⟩
  have HQ5:=lh (HQ4.out.q hq5)
  have HQ35:=lh (HQ34.out.q hq5)
  have HC5:=lh (hq5.row HC4.out)
  rw [kparse_eq HSpl.out,HPe.out] at hm5
  clear hq5
  obtain ⟨ka,kn,sa,sc,rfl,hck,hcz⟩:=hm5
  have HCk:=lh hck
  have HCz:=lh hcz
  clear hck hcz
  have hn5:=Only.new w5 (.cells #[.int .i64 k.number,.int .i64 k.first,.int .i64 k.count,.slice ka k.coded.length kn] 41)
  have hn6:=Only.new (w5.alloc (.cells #[.int .i64 k.number,.int .i64 k.first,.int .i64 k.count,.slice ka k.coded.length kn] 41)) (.cells #[.int .i64 0,.slice sa 0 sc] 38)
  have HQ6:=lh ((HQ5.out.q hn5).q hn6)
  have HQ56:=lh (hn5.q hn6)
  have HC6:=lh (hn6.row (hn5.row HC5.out))
  have HK6:=lh (hn6.row (heap_alloc_new w5 (.cells #[.int .i64 k.number,.int .i64 k.first,.int .i64 k.count,.slice ka k.coded.length kn] 41)))
  have HE6:Hid (((w5.alloc (.cells #[.int .i64 k.number,.int .i64 k.first,.int .i64 k.count,.slice ka k.coded.length kn] 41)).alloc (.cells #[.int .i64 0,.slice sa 0 sc] 38)).heap[w5.heap.size+1]?=some (.cells #[.int .i64 0,.slice sa 0 sc] 38 (0,0))):=lh (heap_alloc_new' (by simp))
  clear hn5 hn6
  go_wp2_with fail
  generalize hW6:World.alloc (World.alloc w5 _) _=W6 at *
  clear hW6
  go_at_call 9
  refine (HFi.out _ HQ6.out).mono ?_
  rintro e w7 ⟨rfl,hq7⟩
  have HQ7:=lh (HQ6.out.q hq7)
  have HQ57:=lh (HQ56.out.q hq7)
  have HC7:=lh (hq7.row HC6.out)
  have HK7:=lh (hq7.row HK6.out)
  have HE7:=lh (hq7.row HE6.out)
  clear hq7
  obtain ⟨r0,r1,r2,r3⟩:=row4_cells HC7.out
  obtain ⟨q0,q1,q2,q3⟩:=row4_cells HK7.out
  go_wp2_with fail
  clear r0 r1 r2 r3 q0 q1 q2 q3
  go_at_call 25
  refine (gsame_any (HCp.out.only (HQ35.out.q HQ57.out) (by simp)) (HCk.out.only HQ57.out (by simp))).mono ?_
  rintro e w8 ⟨rfl,hq8⟩
  have HQ8:=lh (HQ7.out.q hq8)
  have HQ58:=lh (HQ57.out.q hq8)
  have HE8:=lh (hq8.row HE7.out)
  clear hq8
  obtain ⟨e0,e1,-⟩:=row2 HE8.out
  go_wp2_with fail
  clear e0 e1
  go_at_call 18
  refine (same_any (o:=none) (p:=[]) (lo:=0) (hi:=0) (show OErrV _ _ w8 _ none from rfl) (Nat.zero_le _) (HEr.out.quiet HQ8.out) (by simp) (HCz.out.only HQ58.out (by simp)) rfl rfl rfl).mono ?_
  rintro e w9 ⟨rfl,hq9⟩
  have HQ9:=lh (HQ8.out.q hq9)
  clear hq9
  go_wp2_with fail
  exact HPost.out _ _ ⟨rfl,HQ9.out⟩
end
end Go.Proofs.YtkigikallkpbcaaGreatDoor
/- GopParses of the groups: for any arguments the law kinlaw23.GopParses answers true and leaves its arguments as they were (any bytes are read, or refused, as the document does). Conditions: errors.errorType is laid as the program's text lays it (the card ties it). -/
namespace Go.Proofs.YtkigikallkpbcaaGreatDoor
open Go.ChangeShapes Go.WideShapes Go.ChangeAt Go.RowKit
set_option linter.unusedVariables false
set_option linter.unusedSimpArgs false
theorem gopParses_lifted (os:Os) (started:os.Started) (H:Type) (enc:TypeId×Value→H) :
  ReturnsInHanded {} Tryz.checked os 4 .any (fun w args=>(Rows.gopParsesSpec.pre enc Tryz.prog Tryz.f4 [] false w args∧laidMetH Tryz.prog laid1 w)∧sizedMet enc Tryz.prog Tryz.f4 (OpenSpec.ofChange Rows.gopParsesSpec) false w args)
   (Rows.gopParsesSpec.post enc Tryz.prog Tryz.f4 false true false false):=by
 refine returnsInHanded_of_change_and (C:=Tryz.checked) (X:=fun w _=>laidMetH Tryz.prog laid1 w) (fun _ _ _ hh h=>h.of_heap hh) own_ started (by kernel_rfl) Tryz.func4
  (ChangeSpec.witness_at (enc:=enc) (C:=Tryz.checked) (os:=os) (X:=fun w _=>laidMetH Tryz.prog laid1 w) false (laidWorld os) #[.slice none 0 0] 8 rfl (by kernel_rfl) (by kernel_rfl) (by kernel_rfl) (by kernel_rfl) (by kernel_rfl) (laidWorld_met os _)) ?_
 intro W base args ds gs before hval0 hW _ _ hL _
 have hval:∀ (j:Nat) t v,Tryz.f4.params[j]?=some t→args[j]?=some v→Value.okWide Tryz.prog W .any base t v:=hval0
 have hW':=hW
 obtain ⟨p,q,hA0,hV,rfl,hfz,hnd⟩:=hW
 have hA:DataW.TrodAll enc Tryz.prog W 0 (fun _=>true) true Tryz.f4.params.toList args.toList ds p:=hA0
 rw [Tryz.params4] at hA hval
 obtain ⟨v0,vs0,d0,ds0,p0,q0,hargs,rfl,rfl,h0,r0⟩:=trodAll_cons hA
 obtain ⟨rfl,rfl,rfl⟩:=trodAll_nil r0
 obtain rfl:args=#[v0]:=by cases args;simp_all
 obtain ⟨rfl,rfl⟩:=trodVars_none hV
 have k0:=h0
 have lt0:∀ x∈p0,x.block<W.heap.size:=by obtain ⟨m,hm⟩:=k0;exact DataW.trod_lt m _ _ _ hm
 obtain ⟨a0,len0,cap0,rfl⟩:=okWide_slice Tryz.underlying30 (hval 0 30 v0 rfl rfl)
 obtain ⟨l0,hd0⟩:∃ l,Ints .u8 0 W.heap.size W (.slice a0 len0 cap0) l:=by
  obtain ⟨fuel,hf⟩:=h0
  exact bytes_in hf
 clear hA0 hval0
 simp only [List.append_nil] at hW'
 refine (gparses_any hd0 (errT_of_laid hL)).mono fun e W' ⟨he,hq⟩=>?_
 subst he
 have bel:=hq.quiet
 exact ⟨_,rfl,_,_,_,[],_,[],hW',trodAll_mk1 (shut_bool Tryz.underlying4 _),(trodAll_cons_mk (Below.trod laidOut_ (by kernel_rfl) (of_decide_eq_true (by kernel_rfl)) k0 bel lt0) trodAll_mk0),rfl,bel.frame _,fun h=>by cases h⟩
theorem gopParses_row:Rows.GopParsesSaid :=
 OpenClaim.holds_of_wide 4 Tryz.f4 rfl rfl rfl rfl rfl rfl rfl ⟨rfl,rfl,rfl,rfl,rfl⟩ rfl rfl rfl rfl rfl (by kernel_rfl) Tryz.func4 (by kernel_rfl)
  (of_decide_eq_true (by kernel_rfl)) (by unfold Func.isWrapper;first | (rw [if_pos (by decide +kernel)];kernel_rfl) | (rw [if_neg (by decide +kernel)];exact ⟨rfl,rfl⟩))
  (fun os started H enc _=>gopParses_lifted os started H enc)
theorem gopParses_holds:Rows.GopParsesCardSaid :=
 Claim7.holds_tied_plain_at .later [] [.handle] true _ true
  gopParses_row (fun _ h=>by cases h) (by kernel_rfl) (fun _ h=>by cases h) gopParses_row_tie rfl ⟨rfl,rfl⟩ (by kernel_rfl) rfl
  (fun f fn hf hfn=>by
   obtain rfl:f=4:=Option.some.inj ((show Tryz.prog.funcNamed "kinescope/kinlaw23.GopParses"=some 4 by kernel_rfl).symm.trans hf) |>.symm
   obtain rfl:fn=Tryz.f4:=(Option.some.inj (Tryz.func4.symm.trans hfn)).symm
   exact ⟨by kernel_rfl,fun j t ht=>by
    rw [Tryz.params4] at ht
    have hm:t∈[30]:=by simpa using Array.mem_of_getElem? ht
    have hall:([30].all fun u=>!Tryz.prog.wantsStandIn u)=true:=by kernel_rfl
    exact (show Tryz.prog.wantsStandIn t=false by simpa using List.all_eq_true.1 hall t hm)⟩)
  (by kernel_rfl)
end Go.Proofs.YtkigikallkpbcaaGreatDoor
