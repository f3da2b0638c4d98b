/- The coder that reads is a coder of the program's. Conditions: none. -/
import Derived.Test.YtmdobcffijnaoaaGreatDoorWA
import Derived.Test.YtmdobcffijnaoaaGreatDoorS2
import Derived.Conc.MuLone
namespace Go.Proofs.YtmdobcffijnaoaaGreatDoor
open Go.RowKit
set_option linter.unusedVariables false
set_option linter.unusedSimpArgs false
set_option maxRecDepth 100000
set_option maxHeartbeats 16000000
/-- the coder that reads, in block R, its decoder in block D -/
def pcRead (lo hi R D:Nat) (bv:Value):PC where
 σ:=Mod
 C:=rdC
 T:=130
 R:=R
 fb:=244
 ff:=245
 base:=hi
 At:=fun F w m=>F=[R,D]∧ModAt lo hi R D bv w m
 Ok:=fun n m=>ModOk m∧m.d.pos≤n
 mB:=mBit R
 mF:=mFlat R
 eB:=fun args w=>MuLone.run_callFunc_enter Tryz.func244 (by kernel_rfl) rfl args w
 eF:=fun args w=>MuLone.run_callFunc_enter Tryz.func245 (by kernel_rfl) rfl args w
 nB:=nBit R
 nF:=nFlat R
 ok_le:=fun h k=>⟨h.1,Nat.le_trans h.2 k⟩
 ok_bit:=fun c b h hc=>⟨(bitD_adv h.1 hc).ok,by have:=(bitD_adv h.1 hc).pos;have:=h.2;show (bitD c _).2.d.pos≤_;omega⟩
 ok_flat:=fun b h=>⟨(flatD_adv h.1).ok,by have:=(flatD_adv h.1).pos;have:=h.2;show (flatD _).2.d.pos≤_;omega⟩
 only:=fun h o hS=>⟨h.1,h.2.only o (fun g hg=>by
  have:=hS g hg
  rw [h.1] at this
  simp only [List.mem_cons,List.not_mem_nil,or_false,not_or] at this
  exact ⟨this.1,this.2.1,this.2.2⟩)⟩
 lt:=fun h g hg=>by
  rw [h.1] at hg
  have:=h.2.lt
  simp only [List.mem_cons,List.not_mem_nil,or_false] at hg
  rcases hg with rfl | rfl <;> omega
 base_le:=fun h=>by have:=h.2.lt;have:=h.2.hR;omega
 bit:=fun c b h ok hn hc=>(bit_any h.2 hc b (by have:=ok.2;omega)).mono (fun e w' r=>⟨r.1,[R,D],⟨rfl,r.2.1⟩,by rw [h.1];exact ⟨r.2.2,fun g hg=>.inl hg⟩⟩)
 flat:=fun b h ok hn=>(flat_any h.2 b (by have:=ok.2;omega)).mono (fun e w' r=>⟨r.1,[R,D],⟨rfl,r.2.1⟩,by rw [h.1];exact ⟨r.2.2,fun g hg=>.inl hg⟩⟩)
end Go.Proofs.YtmdobcffijnaoaaGreatDoor
