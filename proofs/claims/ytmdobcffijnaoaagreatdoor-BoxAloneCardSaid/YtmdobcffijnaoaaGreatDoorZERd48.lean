/- coef.Code by the coder that reads, out of coef.Code by any coder. Conditions: the reader stands so; the list is of zeros. -/
import Derived.Test.YtmdobcffijnaoaaGreatDoorWC
import Derived.Test.YtmdobcffijnaoaaGreatDoorZECoef8
import Derived.Test.YtmdobcffijnaoaaGreatDoorZEPcR
namespace Go.Proofs.YtmdobcffijnaoaaGreatDoor
open Go.RowKit
set_option linter.unusedVariables false
set_option linter.unusedSimpArgs false
set_option maxRecDepth 100000
set_option maxHeartbeats 16000000
theorem rep_zero (n a:Nat):(List.replicate n (0:Int)).getD a 0=0:=by
 rw [List.getD_eq_getElem?_getD,List.getElem?_replicate]
 split <;> rfl
theorem rep_lev (n:Nat):LevOk (List.replicate n (0:Int)):=fun x hx=>by rw [List.eq_of_mem_replicate hx];omega
theorem code_rd {lo hi R D:Nat} {bv:Value} {w w':World} {e:Ending} {r:Except Err (List Int)×Mod} (h:CodeP (pcRead lo hi R D bv) [R,D] w r e w'):CoefP lo hi R D bv w r e w':=by
 obtain ⟨F',⟨hF,hA⟩,hW,hm⟩:=h
 refine ⟨hW.1,hA,?_⟩
 obtain ⟨r1,r2⟩:=r
 cases r1 with
 | ok o=>obtain ⟨v,he,ho,-⟩:=hm;exact ⟨v,he,ho⟩
 | error er=>exact hm
theorem code4_any {lo hi R D lo' hi':Nat} {bv lv:Value} {w:World} {m:Mod} (h:ModAt lo hi R D bv w m) (hl:Ints .i64 lo' hi' w lv (List.replicate 16 0)) (hR:R<lo'∨hi'≤R) (hD:D<lo'∨hi'≤D) (hw:hi'≤w.heap.size) (hp:m.d.pos≤600000000) :
  Calls Tryz.prog 142 #[cv R,lv] w (CoefP lo hi R D bv w (coefD 4 m)):=by
 rw [← coefG_rd 4 (List.replicate 16 0) m]
 exact (pcode4_any (pcRead lo hi R D bv) (F:=[R,D]) (q:=600000000) (s:=m) ⟨rfl,h⟩ hl (by simp) (rep_lev _) (fun x hx=>by simp only [List.mem_cons,List.not_mem_nil,or_false] at hx;rcases hx with rfl | rfl;exact hR;exact hD) hw (fun a _ _ _ _=>rep_zero _ a) ⟨h.ok,hp⟩ (Nat.le_refl _)).mono (fun _ _=>code_rd)
theorem code8_any {lo hi R D lo' hi':Nat} {bv lv:Value} {w:World} {m:Mod} (h:ModAt lo hi R D bv w m) (hl:Ints .i64 lo' hi' w lv (List.replicate 64 0)) (hR:R<lo'∨hi'≤R) (hD:D<lo'∨hi'≤D) (hw:hi'≤w.heap.size) (hp:m.d.pos≤600000000) :
  Calls Tryz.prog 142 #[cv R,lv] w (CoefP lo hi R D bv w (coefD 8 m)):=by
 rw [← coefG_rd 8 (List.replicate 64 0) m]
 exact (pcode8_any (pcRead lo hi R D bv) (F:=[R,D]) (q:=600000000) (s:=m) ⟨rfl,h⟩ hl (by simp) (rep_lev _) (fun x hx=>by simp only [List.mem_cons,List.not_mem_nil,or_false] at hx;rcases hx with rfl | rfl;exact hR;exact hD) hw (fun a _ _ _ _=>rep_zero _ a) ⟨h.ok,hp⟩ (Nat.le_refl _)).mono (fun _ _=>code_rd)
end Go.Proofs.YtmdobcffijnaoaaGreatDoor
