/- Joined texts: GPp, GSpl, GPack. Conditions: each part names its own. -/
import Derived.Test.YtkigikallkpbcaaGreatDoorT1
import Derived.Test.YtkigikallkpbcaaGreatDoorG2
import Derived.Test.YtkigikallkpbcaaGreatDoorG3
import Derived.Deep.DeepCutAuto
import Derived.Test.YtkigikallkpbcaaGreatDoorC1
namespace Go.Proofs.YtkigikallkpbcaaGreatDoor
open Go.RowKit
set_option linter.unusedVariables false
set_option linter.unusedSimpArgs false
set_option maxRecDepth 100000
set_option maxHeartbeats 16000000
def sGop:ByteArray:=⟨#[103,111,112]⟩
/-- a chunk's bytes -/
def packB (k:Chunk):List Int:=unitB 32 [k.number,k.first,k.count] ++ k.coded.flatMap fun c=>unitB c.kind c.data
theorem flat_sum:∀ l:List Coded,((l.flatMap fun c=>unitB c.kind c.data).length:Int)=(sizesOf l).sum
 | []=>rfl
 | c :: l=>by
  rw [List.flatMap_cons,List.length_append,unitB_length,Int.natCast_add,flat_sum l]
  simp only [sizesOf,List.map_cons,List.sum_cons,costOf]
  omega
theorem packB_len (k:Chunk):((packB k).length:Int)=11+(sizesOf k.coded).sum:=by
 unfold packB
 rw [List.length_append,unitB_length,Int.natCast_add,flat_sum]
 simp
/-- a unit joins a chunk -/
def joinE (n:Nat) (k:Chunk) (u:UnitD):Except Int Chunk :=
 if n=0 then (if u.kind=32∧u.data.length=3∧headB (u.data.getD 0 0) (u.data.getD 1 0) (u.data.getD 2 0)=true then .ok ⟨u.data.getD 0 0,u.data.getD 1 0,u.data.getD 2 0,k.coded⟩ else .error 2)
 else if k.count<(n:Int) then .error 5
 else if n=1∧firstB u.kind=false then .error 2
 else match readB ⟨u.kind,u.data⟩ with
  | some e=>.error e
  | none=>.ok ⟨k.number,k.first,k.count,k.coded ++ [⟨u.kind,u.data⟩]⟩
def parseGo:List UnitD→Nat→Chunk→Except Err Chunk
 | [],_,k=>.ok k
 | u :: us,n,k=>match joinE n k u with
  | .error e=>.error ⟨[(sGop,(n:Int))],e⟩
  | .ok k'=>parseGo us (n+1) k'
def endE (E:Option Err) (n:Nat) (k:Chunk):Option Err:=match E with
 | some er=>some er
 | none=>if n=0∨(n:Int)≤k.count then some ⟨[],1⟩ else none
def chunk0:Chunk:=⟨0,0,0,[]⟩
def parseE (U:List UnitD) (E:Option Err):Except Err Chunk:=match parseGo U 0 chunk0 with
 | .error e=>.error e
 | .ok k=>match endE E U.length k with
  | some er=>.error (inE sGop U.length er)
  | none=>.ok k
theorem parseGo_bad {u:UnitD} {us:List UnitD} {n:Nat} {k:Chunk} {e:Int} (h:joinE n k u=.error e):parseGo (u :: us) n k=.error ⟨[(sGop,(n:Int))],e⟩:=by rw [parseGo,h]
theorem parseGo_more {u:UnitD} {us:List UnitD} {n:Nat} {k k':Chunk} (h:joinE n k u=.ok k'):parseGo (u :: us) n k=parseGo us (n+1) k':=by rw [parseGo,h]
/-- the units of coded frames that were made, from p on -/
def codU:List Coded→Nat→List UnitD
 | [],_=>[]
 | c :: l,p=>⟨c.kind,c.data,p,p+(8+c.data.length)⟩ :: codU l (p+(8+c.data.length))
theorem codU_len:∀ (l:List Coded) (p:Nat),(codU l p).length=l.length
 | [],_=>rfl
 | c :: l,p=>by rw [codU,List.length_cons,codU_len l,List.length_cons]
theorem spl_codeds {l:List Int}:∀ (cs:List Coded) (p:Nat),p≤l.length→l.drop p=cs.flatMap (fun c=>unitB c.kind c.data)→(∀ c∈cs,readB c=none∧∀ x∈c.data,InK .u8 x)→SplAt l none p (codU cs p)
 | [],p,hp,h,_=>by
  have:p=l.length:=by
   have:=congrArg List.length h
   simp at this
   omega
  subst this
  exact .done rfl
 | c :: cs,p,hp,h,hc=>by
  obtain ⟨h1,h2⟩:=hc c (by simp)
  obtain ⟨k1,k2,k3⟩:=readB_none h1
  rw [List.flatMap_cons] at h
  have hl:=congrArg List.length h
  rw [List.length_append,unitB_length,List.length_drop] at hl
  have hlt:p<l.length:=by omega
  have hd:l.drop (p+(8+c.data.length))=cs.flatMap fun c=>unitB c.kind c.data:=by
   rw [← List.drop_drop,h]
   have e:8+c.data.length=(unitB c.kind c.data).length:=by rw [unitB_length];omega
   rw [e,List.drop_left]
  refine .more hlt (by rw [h];exact nextD_unit p ⟨k1,by omega⟩ k3 h2) (spl_codeds cs (p+(8+c.data.length)) (by omega) hd fun x hx=>hc x (by simp [hx]))
def packU (k:Chunk):List UnitD:=⟨32,[k.number,k.first,k.count],0,0+(8+3)⟩ :: codU k.coded (0+(8+3))
/-- a chunk that may be, of bytes -/
def ChunkBy (k:Chunk):Prop:=chunkB k=true∧∀ c∈k.coded,∀ x∈c.data,InK .u8 x
theorem chunkBy_parts {k:Chunk} (h:ChunkBy k):headB k.number k.first k.count=true∧(k.coded.length:Int)=k.count∧firstB (k.coded.getD 0 default).kind=true∧∀ c∈k.coded,readB c=none∧∀ x∈c.data,InK .u8 x:=by
 obtain ⟨h1,h2⟩:=h
 unfold chunkB at h1
 simp only [Bool.and_eq_true,decide_eq_true_eq,List.all_eq_true] at h1
 obtain ⟨⟨⟨a,b⟩,c⟩,d⟩:=h1
 refine ⟨a,b,c,fun x hx=>⟨?_,h2 x hx⟩⟩
 have h3:=d x hx
 cases hr:readB x with
 | none=>rfl
 | some e=>rw [hr] at h3;cases h3
theorem head_in {k:Chunk} (h:headB k.number k.first k.count=true):∀ x∈[k.number,k.first,k.count],InK .u8 x:=by
 unfold headB at h
 rw [decide_eq_true_eq] at h
 intro x hx
 simp only [List.mem_cons,List.not_mem_nil,or_false] at hx
 rcases hx with rfl | rfl | rfl
 ·exact ⟨by omega,by omega⟩
 ·exact ⟨by omega,by omega⟩
 ·exact ⟨by omega,by omega⟩
theorem spl_pack {k:Chunk} (h:ChunkBy k):SplAt (packB k) none 0 (packU k):=by
 obtain ⟨h1,h2,h3,h4⟩:=chunkBy_parts h
 have hl:(packB k).length=11+(k.coded.flatMap fun c=>unitB c.kind c.data).length:=by
  unfold packB
  rw [List.length_append,unitB_length]
  simp
 refine .more (by omega) (by rw [List.drop_zero];unfold packB;exact nextD_unit (k:=32) 0 (by decide) (by simp) (head_in h1)) ?_
 refine spl_codeds k.coded (0+(8+3)) (by omega) ?_ h4
 unfold packB
 have e:0+(8+3)=(unitB 32 [k.number,k.first,k.count]).length:=by rw [unitB_length];simp
 rw [e,List.drop_left]
theorem parseGo_codU {num f cnt:Int}:∀ (cs:List Coded) (p:Nat) (acc:List Coded),(∀ c∈cs,readB c=none)→((acc.length+cs.length:Nat):Int)≤cnt→(acc=[]→cs≠[]→firstB (cs.getD 0 default).kind=true) →
  parseGo (codU cs p) (acc.length+1) ⟨num,f,cnt,acc⟩=.ok ⟨num,f,cnt,acc ++ cs⟩
 | [],p,acc,_,_,_=>by rw [codU,parseGo,List.append_nil]
 | c :: cs,p,acc,h,hl,hf=>by
  have hj:joinE (acc.length+1) ⟨num,f,cnt,acc⟩ ⟨c.kind,c.data,p,p+(8+c.data.length)⟩=.ok ⟨num,f,cnt,acc ++ [c]⟩:=by
   unfold joinE
   dsimp only
   rw [if_neg (by omega),if_neg (by simp only [List.length_cons] at hl;omega),if_neg]
   ·rw [show readB ⟨c.kind,c.data⟩=none from h c (by simp)]
   ·rintro ⟨e1,e2⟩
    have:acc=[]:=List.eq_nil_of_length_eq_zero (by omega)
    have h3:=hf this (by simp)
    simp only [List.getD_cons_zero] at h3
    rw [h3] at e2
    cases e2
  have ih:=parseGo_codU (num:=num) (f:=f) (cnt:=cnt) cs (p+(8+c.data.length)) (acc ++ [c]) (fun x hx=>h x (by simp [hx])) (by simp only [List.length_append,List.length_cons,List.length_nil] at hl ⊢;omega) (by simp)
  rw [codU,parseGo_more hj]
  simp only [List.length_append,List.length_cons,List.length_nil,List.append_assoc,List.cons_append,List.nil_append] at ih ⊢
  exact ih
/-- what was made is read again -/
theorem parse_pack {k:Chunk} (h:ChunkBy k):parseE (packU k) none=.ok k:=by
 obtain ⟨h1,h2,h3,h4⟩:=chunkBy_parts h
 have hj:joinE 0 chunk0 ⟨32,[k.number,k.first,k.count],0,0+(8+3)⟩=.ok ⟨k.number,k.first,k.count,[]⟩:=by
  unfold joinE
  rw [if_pos rfl,if_pos ⟨rfl,rfl,h1⟩]
  rfl
 have hc:=parseGo_codU (num:=k.number) (f:=k.first) (cnt:=k.count) k.coded (0+(8+3)) [] (fun c hc=>(h4 c hc).1) (by simp only [List.length_nil,Nat.zero_add];omega) (fun _ _=>h3)
 have hg:parseGo (packU k) 0 chunk0=.ok k:=by
  unfold packU
  rw [parseGo_more hj]
  simpa using hc
 have hn:(packU k).length=k.coded.length+1:=by unfold packU;rw [List.length_cons,codU_len]
 unfold headB at h1
 rw [decide_eq_true_eq] at h1
 unfold parseE
 rw [hg]
 simp only [endE,hn]
 rw [if_neg (by omega)]
theorem spl_one {l:List Int} {E E':Option Err} {p:Nat} {U:List UnitD} (h:SplAt l E p U):∀ {U':List UnitD},SplAt l E' p U'→U=U'∧E=E':=by
 induction h with
 | done e =>
  intro U' g
  cases U' with
  | nil =>
   rcases g.peek_nil with ⟨-,e2,-⟩ | ⟨h3,-⟩
   ·exact ⟨rfl,e.trans e2.symm⟩
   ·exact absurd h3 (Nat.lt_irrefl _)
  | cons u us=>exact absurd g.peek_cons.1 (Nat.lt_irrefl _)
 | @bad p er h1 h2 h3 =>
  intro U' g
  cases U' with
  | nil =>
   rcases g.peek_nil with ⟨e1,-,-⟩ | ⟨-,er',e2,e3⟩
   ·omega
   ·unfold peekR at e3
    rw [if_neg (by omega),h2] at e3
    cases e3
    exact ⟨rfl,h3.trans e2.symm⟩
  | cons u us =>
   have e3:=g.peek_cons.2.1
   unfold peekR at e3
   rw [if_neg (by omega),h2] at e3
   cases e3
 | @more p u us h1 h2 h3 ih =>
  intro U' g
  cases U' with
  | nil =>
   rcases g.peek_nil with ⟨e1,-,-⟩ | ⟨-,er',e2,e3⟩
   ·omega
   ·unfold peekR at e3
    rw [if_neg (by omega),h2] at e3
    cases e3
  | cons v vs =>
   obtain ⟨-,e3,e4⟩:=g.peek_cons
   unfold peekR at e3
   rw [if_neg (by omega),h2] at e3
   cases e3
   obtain ⟨rfl,e5⟩:=ih e4
   exact ⟨rfl,e5⟩
theorem spl_kind {l:List Int} {E:Option Err} {p:Nat} {U:List UnitD} (hin:∀ x∈l,InK .u8 x) (h:SplAt l E p U):p≤l.length→∀ u∈U,0≤u.kind∧u.kind≤255:=by
 induction h with
 | done e=>intro _ u hu;simp at hu
 | bad h1 h2 h3=>intro _ u hu;simp at hu
 | @more p u us h1 h2 h3 ih =>
  intro hp v hv
  have hok:=nextD_ok h2 (by rw [List.length_drop];omega) (fun x hx=>hin x (List.mem_of_mem_drop hx))
  rw [List.length_drop] at hok
  rcases List.mem_cons.1 hv with rfl | hv
  ·exact ⟨hok.2.2.2.1,hok.2.2.2.2.1⟩
  ·exact ih (by omega) v hv
theorem joinE_len {n:Nat} {k k':Chunk} {u:UnitD} (h:joinE n k u=.ok k'):k'.coded.length≤k.coded.length+1:=by
 unfold joinE at h
 split at h
 ·split at h
  ·cases h;simp
  ·cases h
 split at h
 ·cases h
 split at h
 ·cases h
 split at h
 ·cases h
 ·cases h;simp
theorem parseE_bad {U:List UnitD} {E:Option Err} {e:Err} (h:parseGo U 0 chunk0=.error e):parseE U E=.error e:=by unfold parseE;rw [h]
theorem parseE_end {U:List UnitD} {E:Option Err} {k:Chunk} {er:Err} (h:parseGo U 0 chunk0=.ok k) (he:endE E U.length k=some er):parseE U E=.error (inE sGop U.length er):=by unfold parseE;rw [h];simp only [he]
theorem parseE_good {U:List UnitD} {E:Option Err} {k:Chunk} (h:parseGo U 0 chunk0=.ok k) (he:endE E U.length k=none):parseE U E=.ok k:=by unfold parseE;rw [h];simp only [he]
/-- what Split hands back -/
def GSplitP (l:List Int) (w:World) (e:Ending) (w':World):Prop :=
 Only [] w w'∧∃ U E ua uc ev,e=.returned (.tuple #[.slice ua (List.length U) uc,ev])∧SplAt l E 0 U∧UnitsAt w.heap.size w'.heap.size w' (.slice ua U.length uc) U ∧
  OErrV w.heap.size w'.heap.size w' ev E∧U.length≤l.length
theorem gsplit_any {lo hi:Nat} {v:Value} {l:List Int} {w:World} (h:Ints .u8 lo hi w v l) (hl:l.length≤100000000) :
  Calls Tryz.prog 51 #[v] w (GSplitP l w):=by
 refine hidQ fun Q HPost=>?_
 have hr8:=lh h.2
 obtain ⟨a,cap,hv,hcap,hmax,_⟩:=h.open
 subst hv
 have Hh:=lh h
 have hll:(l.length:Int)≤9223372036854775807:=by omega
 have Hl:=lh hl
 clear h hl hmax hcap
 go_enter Tryz.func51,Tryz.ntmps51
 go_wp2_with fail
 go_loopw [4,5,6,7] (fun x i _ _ wr=>∃ (p:Nat) (U:List UnitD),p≤l.length∧i=.int .i64 p∧Hid (U.length≤p)∧Hid (∀ E us,SplAt l E p us→SplAt l E 0 (U ++ us))∧Hid (OwnU w.heap.size wr x U)∧Hid (Only [] w wr)) (fun _ i _ _ _=>l.length-(intOf i).toNat)
 case atStart=>exact ⟨0,[],by omega,rfl,lh (by simp),lh (fun _ _ h=>h),lh (OwnU.nil _ _),lh (Only.refl _ _)⟩
 case round =>
  obtain ⟨p,U,hp,rfl,HUp,hspl,HOwn,HO⟩:=hrel
  obtain ⟨xa,xcap,rfl⟩:=HOwn.out.isSlice
  by_cases hlt:p<l.length
  ·have HN:=lh (next_any p (Hh.out.quiet HO.out) hlt)
   have hlti:(p:Int)<(l.length:Int):=by omega
   have hp0:(0:Int)≤(p:Int):=by omega
   cases hres:nextD (l.drop p) p with
   | error er =>
    have Hfin:Hid (SplAt l (some er) 0 U):=lh (by have:=hspl.out (some er) [] (.bad hlt hres rfl);rwa [List.append_nil] at this)
    have Hres:=lh hres
    clear hres hspl
    go_wp2_with fail
    go_at_call 71
    refine HN.out.mono ?_
    rintro e w1 hP
    unfold NextP at hP
    rw [Hres.out] at hP
    obtain ⟨hq1,ev,rfl,hev⟩:=hP
    obtain ⟨et,eu,rfl⟩:=hev.held
    have hnw:=Only.new w1 (.cells #[.int .i64 0,.slice none 0 0,.int .i64 0,.int .i64 0] 105)
    have HEv:=lh ((hev.quiet hnw).mono HO.out.size hnw.size)
    have HQ1:=lh (hq1.q hnw)
    have HZ1:=lh (hq1.q hnw).size
    clear hq1 hnw hev
    go_wp2_with fail
    refine HPost.out _ _ ⟨HO.out.q HQ1.out,U,some er,xa,xcap,_,rfl,Hfin.out,?_,HEv.out,by have:=HUp.out;omega⟩
    exact (HOwn.out.units.quiet HQ1.out).mono (Nat.le_refl _) HZ1.out
   | ok u =>
    obtain ⟨uk,ud,uat,uend⟩:=u
    have hok:=nextD_ok hres (by rw [List.length_drop];omega) (fun x hx=>hr8.out x (List.mem_of_mem_drop hx))
    rw [List.length_drop] at hok
    simp only at hok
    obtain ⟨huat,hue,hule,-,-,hud⟩:=hok
    have huat':p=uat:=huat.symm
    clear huat
    subst huat'
    have Hspl:Hid (∀ E us,SplAt l E uend us→SplAt l E 0 ((U ++ [⟨uk,ud,p,uend⟩]) ++ us)):=lh (fun E us h=>by
     rw [List.append_assoc];exact hspl.out E _ (.more hlt hres h))
    have Hres:=lh hres
    have Hue:=lh (And.intro hue (And.intro hule hud))
    clear hres hspl hue hule hud
    go_wp2_with fail
    go_at_call 71
    refine HN.out.mono ?_
    rintro e w1 hP
    unfold NextP at hP
    rw [Hres.out] at hP
    obtain ⟨hq1,dv,rfl,hdv⟩:=hP
    obtain ⟨da,dcap,rfl,_⟩:=hdv.open
    have HDv:=lh hdv
    have HQ1:=lh hq1
    clear hdv hq1
    simp only
    have hnA:=Only.new w1 (.cells #[.int .i64 uk,.slice da ud.length dcap,.int .i64 p,.int .i64 uend] 105)
    have HRU:=lh (heap_alloc_new w1 (.cells #[.int .i64 uk,.slice da ud.length dcap,.int .i64 p,.int .i64 uend] 105))
    have HQ2:=lh (HQ1.out.q hnA)
    have HD2:=lh (HDv.out.quiet hnA)
    have HZ2:Hid (w1.heap.size<(w1.alloc (.cells #[.int .i64 uk,.slice da ud.length dcap,.int .i64 p,.int .i64 uend] 105)).heap.size):=lh (by simp)
    clear hnA
    go_upto_region 5 with (fail)
    generalize hW2:World.alloc w1 _=w2 at *
    clear hW2
    obtain ⟨y0,y1,y2,y3⟩:=row4_cells HRU.out
    have hqC:=HQ2.out.alloc (.cells #[.int .i64 uk,.slice da ud.length dcap,.int .i64 p,.int .i64 uend] 105)
    have HU3:=lh (HOwn.out.quiet hqC)
    have Hd3:Hid (Ints .u8 wr.heap.size (w2.alloc (.cells #[.int .i64 uk,.slice da ud.length dcap,.int .i64 p,.int .i64 uend] 105)).heap.size _ (.slice da ud.length dcap) ud):=lh ((HD2.out.quiet (Only.new w2 (.cells #[.int .i64 uk,.slice da ud.length dcap,.int .i64 p,.int .i64 uend] 105))).mono (Nat.le_refl _) (by have:=HZ2.out;have:=(Only.new w2 (.cells #[.int .i64 uk,.slice da ud.length dcap,.int .i64 p,.int .i64 uend] 105)).size;omega))
    have HqC:=lh hqC
    have hvb:∀ g,(Value.slice xa U.length xcap).ownBlock=some g→g<wr.heap.size:=fun g hg=>(HOwn.out.at g hg).2
    have Hvb:=lh hvb
    have hz1:=HQ1.out.size
    have hsrc:Cells 4 w2.heap.size (w2.heap.size+1) (w2.alloc (.cells #[.int .i64 uk,.slice da ud.length dcap,.int .i64 p,.int .i64 uend] 105)) (.slice (some ⟨w2.heap.size,0,none⟩) 1 1) 1 [.int .i64 uk,.slice da ud.length dcap,.int .i64 p,.int .i64 uend]:=cells_newG rfl rfl (by simp [maxLen]) rfl
    obtain ⟨xs,hx1,hx2⟩:=HU3.out
    have HX2:=lh hx2
    have hone:∀ u∈[Value.int .i64 uk,.slice da ud.length dcap,.int .i64 p,.int .i64 uend],u.oneCell'=true:=by
     intro u hu;simp only [List.mem_cons,List.not_mem_nil,or_false] at hu;rcases hu with rfl | rfl | rfl | rfl <;> rfl
    have h63:U.length+1≤maxLen:=by unfold maxLen;have:=Hl.out;have:=HUp.out;omega
    have hby:(U.length+1)*48≤140737488355328:=by have:=Hl.out;have:=HUp.out;omega
    have hba:w.heap.size≤(w2.alloc (.cells #[.int .i64 uk,.slice da ud.length dcap,.int .i64 p,.int .i64 uend] 105)).heap.size:=by have:=hqC.size;have:=HO.out.size;omega
    have HY3:=lh y3
    have Hnn:=lh (And.intro h63 (And.intro hby hba))
    have HZw:=lh hz1
    clear hqC hx2 hvb h63 hby hba hz1
    have Hhy:=lh (And.intro hx1 (And.intro hsrc hone))
    clear hx1 hsrc hone
    go_wp2_with (first
     | (at_builtin;refine wpList_append_cells rfl (.tmp 22) (.tmp 24) 101 rfl EU Hhy.out.1 rfl Hhy.out.2.1 rfl Hhy.out.2.2 Hnn.out.1 Hnn.out.2.1 Hnn.out.2.2 (fun v3 w3 hown3 ho3 hat3=>?_);have Ho3:=lh hown3;have Hq3:=lh (And.intro ho3 hat3);have u3:=ho3.cell ((Only.new w2 _).cell HY3.out (by simp)) (fun hm=>by have:=Hvb.out w1.heap.size (by simpa using hm);have:=HZw.out;omega);obtain ⟨x3,x3cap,rfl⟩:∃ a c,v3=.slice a (U.length+1) c:=(by obtain ⟨_,a,cap,h,_⟩:=Cells.of_own hown3;exact ⟨a,cap,h⟩);clear hown3 ho3 hat3)
     | fail)
    obtain ⟨ho3,hat3⟩:=Hq3.out
    have hacc:Acc (.slice xa U.length xcap) (w2.alloc (.cells #[.int .i64 uk,.slice da ud.length dcap,.int .i64 p,.int .i64 uend] 105)) (.slice x3 (U.length+1) x3cap) w3:=⟨ho3,hat3.imp id fun e g hg=>by rw [e] at hg;injection hg with hg;omega⟩
    have hzC:=HqC.out.size
    have hzO:=HO.out.size
    have hnew:=OwnU.snoc (a:=p) (e:=uend) (k:=uk) (lo:=wr.heap.size) Hhy.out.1 HX2.out Hd3.out (by omega) Hvb.out Ho3.out hacc
    refine ⟨⟨uend,U ++ [⟨uk,ud,p,uend⟩],by have:=Hue.out.2.1;omega,rfl,lh (by have:=HUp.out;have:=Hue.out.1;simp;omega),Hspl,lh hnew,lh ?_⟩,by have:=Hue.out;simp [intOf];omega⟩
    exact (HO.out.q HqC.out).trans ho3 (by simp) (fun g hg hlt=>absurd hlt (by have:=HOwn.out.at g (by simpa using hg);omega))
  ·obtain rfl:p=l.length:=by omega
   have hx:¬ (l.length:Int)<(l.length:Int):=by omega
   have Hfin:Hid (SplAt l none 0 U):=lh (by have:=hspl.out none [] (.done rfl);rwa [List.append_nil] at this)
   clear hspl
   go_wp2_with fail
   exact HPost.out _ _ ⟨HO.out,U,none,xa,xcap,.nilIface,rfl,Hfin.out,HOwn.out.units,rfl,HUp.out⟩
/-- what gop.Pack hands back -/
def PackP (c:Chunk) (w:World) (e:Ending) (w':World):Prop :=
 Only [] w w'∧match chunkB c with
  | true=>∃ v,e=.returned (.tuple #[v,.nilIface])∧Own .u8 5 w.heap.size w' v (packB c)
  | false=>e=.returned (.tuple #[.slice none 0 0,.iface 35 (.int .i64 2)])
theorem flat_take {l:List Coded} {k:Nat} (h:k<l.length):(l.take (k+1)).flatMap (fun c=>unitB c.kind c.data)=(l.take k).flatMap (fun c=>unitB c.kind c.data) ++ unitB (l.getD k default).kind (l.getD k default).data:=by
 rw [List.take_succ_eq_append_getElem h,List.flatMap_append,List.getD_eq_getElem?_getD,List.getElem?_eq_getElem h]
 simp
theorem flat_le':∀ (l:List Coded),(∀ c∈l,c.data.length≤65536)→(l.flatMap fun c=>unitB c.kind c.data).length≤65544*l.length
 | [],_=>by simp
 | c :: l,h=>by
  rw [List.flatMap_cons,List.length_append,unitB_length,List.length_cons]
  have:=flat_le' l (fun x hx=>h x (by simp [hx]))
  have:=h c (by simp)
  omega
section
theorem gpack_any {lo hi:Nat} {dv:Value} {c:Chunk} {w:World} (h:CodedsAt lo hi w dv c.coded) (hc:ChunkOk c) :
  Calls Tryz.prog 12 #[.agg #[.int .i64 c.number,.int .i64 c.first,.int .i64 c.count,dv]] w (PackP c w):=by
 refine hidQ fun Q HPost=>?_
 have HM:=lh (fun (W:World) (o:Only [] w W)=>gmay_any (h.quiet o) hc)
 have HPr:Hid (chunkB c=true→headB c.number c.first c.count=true∧(c.coded.length:Int)=c.count∧∀ x∈c.coded,readB x=none):=lh (fun h1=>by
  unfold chunkB at h1
  simp only [Bool.and_eq_true,decide_eq_true_eq,List.all_eq_true] at h1
  obtain ⟨⟨⟨a,b⟩,-⟩,d⟩:=h1
  refine ⟨a,b,fun x hx=>?_⟩
  have h3:=d x hx
  cases hr:readB x with
  | none=>rfl
  | some e=>rw [hr] at h3;cases h3)
 unfold PackP packB at HPost
 obtain ⟨num,fst,cnt,cs⟩:=c
 simp only at h HM HPr HPost
 obtain ⟨a,cap,rfl,hcap,hmax,hel⟩:=h.open
 have Hel:=lh hel
 have hll:(cs.length:Int)≤9223372036854775807:=by unfold maxLen at hmax;omega
 have hq1:=Only.new w (.cells #[.int .i64 num,.int .i64 fst,.int .i64 cnt,.slice a cs.length cap] 26)
 have HQ1:=lh hq1
 have HR1:=lh (heap_alloc_new w (.cells #[.int .i64 num,.int .i64 fst,.int .i64 cnt,.slice a cs.length cap] 26))
 clear h hel hmax hcap hc hq1
 generalize chunkB ⟨num,fst,cnt,cs⟩=CB at *
 go_enter Tryz.func12,Tryz.ntmps12
 obtain ⟨r0,r1,r2,r3⟩:=row4_cells HR1.out
 go_wp2_with fail
 generalize hW1:World.alloc w _=W1 at *
 clear hW1 r0 r1 r2 r3
 go_at_call 15
 refine (HM.out _ HQ1.out).mono ?_
 rintro e w2 ⟨rfl,hq2⟩
 have HQ2:=lh (HQ1.out.q hq2)
 have HR2:=lh (hq2.row HR1.out)
 clear hq2
 cases CB with
 | false =>
  go_wp2_with fail
  exact HPost.out _ _ ⟨HQ2.out,rfl⟩
 | true =>
  obtain ⟨hh,hcn,hrd⟩:=HPr.out rfl
  have hin:=head_in (k:=⟨num,fst,cnt,cs⟩) hh
  unfold headB at hh
  rw [decide_eq_true_eq] at hh
  have hw0:IntKind.u8.wrap num=num:=by simp only [IntKind.wrap,IntKind.bits,IntKind.signed];simp;omega
  have hw1:IntKind.u8.wrap fst=fst:=by simp only [IntKind.wrap,IntKind.bits,IntKind.signed];simp;omega
  have hw2:IntKind.u8.wrap cnt=cnt:=by simp only [IntKind.wrap,IntKind.bits,IntKind.signed];simp;omega
  have hc16:cs.length≤16:=by omega
  have HC16:=lh hc16
  have hmu:makeU 32 [num,fst,cnt]=.ok (unitB 32 [num,fst,cnt]):=by unfold makeU;rw [if_neg (by omega),if_neg (by simp),if_neg (by omega)]
  have HMk:Hid (∀ (W:World) (v:Value),Ints .u8 W.heap.size (W.heap.size+1) (W.alloc (.cells #[.int .u8 num,.int .u8 fst,.int .u8 cnt] 5)) v [num,fst,cnt]→Calls Tryz.prog 39 #[.int .i64 32,v] (W.alloc (.cells #[.int .u8 num,.int .u8 fst,.int .u8 cnt] 5)) fun e w'=>Only [] (W.alloc (.cells #[.int .u8 num,.int .u8 fst,.int .u8 cnt] 5)) w'∧∃ v,e=.returned (.tuple #[v,.nilIface])∧Own .u8 5 (W.alloc (.cells #[.int .u8 num,.int .u8 fst,.int .u8 cnt] 5)).heap.size w' v (unitB 32 [num,fst,cnt])):=lh (fun W v hv=>by
   have h:=make_any 32 hv
   unfold MadeU at h
   rw [hmu] at h
   exact h)
  have HIn:=lh hin
  have HRd:=lh hrd
  have HUL:Hid ((unitB 32 [num,fst,cnt]).length=11):=lh (by rw [unitB_length];rfl)
  clear hh hcn hin hrd hmu hc16
  obtain ⟨r0,r1,r2,r3⟩:=row4_cells HR2.out
  go_wp2_with fail
  have hn3:=Only.new w2 (.cells #[.int .u8 num,.int .u8 fst,.int .u8 cnt] 5)
  have HN3:=lh hn3
  have HI3:=lh (ints_newG (k:=.u8) (w:=w2) (t:=5) (l:=[num,fst,cnt]) (vs:=#[.int .u8 num,.int .u8 fst,.int .u8 cnt]) rfl (by simp [maxLen]) HIn.out 3 rfl rfl)
  have HMk2:=lh (HMk.out w2 _ HI3.out)
  clear hn3 HMk r0 r1 r2 r3
  generalize hW3:World.alloc w2 _=W3 at *
  clear hW3
  go_at_call 39
  refine HMk2.out.mono ?_
  rintro e w4 ⟨hq4,uv,rfl,hu⟩
  have HQ4:=lh (HQ2.out.q (HN3.out.q hq4))
  have HR4:=lh ((HN3.out.q hq4).row HR2.out)
  have hz4:=(HQ2.out.q HN3.out).size
  have HO4:=lh (hu.lower hz4)
  obtain ⟨ua,uc,hu1,-⟩:=hu.ints.open
  subst hu1
  clear hq4 hz4 hu
  obtain ⟨r0,r1,r2,r3⟩:=row4_cells HR4.out
  go_wp2_with fail
  clear r0 r1 r2 r3
  generalize hX:unitB 32 [num,fst,cnt]=X at *
  clear hX hw0 hw1 hw2
  go_loopw [33,4,7,8,9] (fun i bv _ _ _ wr=>∃ k:Nat,k≤cs.length∧i=.int .i64 k∧Hid (Own .u8 5 w.heap.size wr bv (X ++ (cs.take k).flatMap fun c=>unitB c.kind c.data))∧Hid (Only [] w wr)) (fun i _ _ _ _ _=>cs.length-(intOf i).toNat)
  case atStart=>exact ⟨0,by omega,rfl,lh (by simpa using HO4.out),HQ4⟩
  case round =>
   obtain ⟨k,hk,rfl,HO,HQ⟩:=hrel
   by_cases hlt:k<cs.length
   ·obtain ⟨b,off,dv,rfl,-,-,hc0,hc1,hkd,hd⟩:=Hel.out k hlt
    have c0:=HQ.out.cell hc0 (by simp)
    have c1:=HQ.out.cell hc1 (by simp)
    have hki:(k:Int)<(cs.length:Int):=by omega
    have hk0:(0:Int)≤(k:Int):=by omega
    have HFt:=lh (flat_take hlt)
    have hmem:cs.getD k default∈cs:=by rw [List.getD_eq_getElem?_getD,List.getElem?_eq_getElem hlt];exact List.getElem_mem _
    have hrd:=readB_none (HRd.out _ hmem)
    have hpl:=flat_le' (cs.take k) (fun c hc=>(readB_none (HRd.out c (List.mem_of_mem_take hc))).2.2)
    rw [List.length_take] at hpl
    have HLn:Hid ((X ++ (cs.take k).flatMap fun c=>unitB c.kind c.data).length≤2000000):=lh (by rw [List.length_append,HUL.out];have:=HC16.out;omega)
    clear hpl hmem
    generalize cs.getD k default=x at *
    generalize hY:(X ++ (cs.take k).flatMap fun c=>unitB c.kind c.data)=Y at *
    have HY:=lh hY
    clear hY
    have hmx:makeU x.kind x.data=.ok (unitB x.kind x.data):=by unfold makeU;rw [if_neg (by omega),if_neg (by omega),if_neg (by omega)]
    have HUx:Hid ((unitB x.kind x.data).length≤70000):=lh (by rw [unitB_length];omega)
    obtain ⟨da,dc,rfl,-⟩:=hd.open
    have hn5:=Only.new wr (.cells #[.int .i64 x.kind,.slice da x.data.length dc] 69)
    have HN5:=lh hn5
    have HMx:=lh (make_any x.kind (hd.quiet (HQ.out.q hn5)))
    unfold MadeU at HMx
    rw [hmx] at HMx
    have HO5:=lh (HO.out.quiet hn5)
    clear hmx hn5 hd hc0 hc1 hrd hkd
    go_wp2_with fail
    clear c0 c1
    generalize hW5:World.alloc wr _=W5 at *
    clear hW5
    go_at_call 39
    refine HMx.out.mono ?_
    rintro e w6 ⟨hq6,vx,rfl,hux⟩
    have HO6:=lh (HO5.out.quiet hq6)
    have HU6:=lh hux.ints
    have HQ6:=lh (HQ.out.q (HN5.out.q hq6))
    have Hby:Hid ((Y.length+(unitB x.kind x.data).length)*1≤140737488355328):=lh (by have:=HLn.out;have:=HUx.out;omega)
    have Hba:Hid (w.heap.size≤w6.heap.size):=lh HQ6.out.size
    obtain ⟨va,vc,hv1,-⟩:=hux.ints.open
    subst hv1
    clear hq6 hux
    go_wp2_with (first
     | (at_builtin;refine wpList_append_ints rfl (.tmp 45) (.tmp 46) _ rfl E8 HO6.out rfl HU6.out rfl Hby.out Hba.out (fun v1 w7 hown1 ho1=>?_);have HO7:=lh hown1;have HA7:=lh ho1;clear hown1 ho1)
     | fail)
    have hat:=HO.out.at
    refine ⟨⟨k+1,by omega,by go_num,lh ?_,lh (HQ6.out.trans HA7.out.only (by simp) (fun g hg hlt=>by have:=(hat g (by simpa using hg)).1;omega))⟩,by simp [intOf];omega⟩
    rw [HFt.out,← List.append_assoc,HY.out]
    exact HO7.out
   ·obtain rfl:k=cs.length:=by omega
    have hx:¬ (cs.length:Int)<(cs.length:Int):=by omega
    go_wp2_with fail
    refine HPost.out _ _ ⟨HQ.out,_,rfl,?_⟩
    have h:=HO.out
    rwa [List.take_length] at h
end
end Go.Proofs.YtkigikallkpbcaaGreatDoor
