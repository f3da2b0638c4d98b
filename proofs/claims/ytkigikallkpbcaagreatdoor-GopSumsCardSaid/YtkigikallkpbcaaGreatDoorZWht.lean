/- The transform as sums: each of its outputs is the sum of all inputs, each with its sign. Conditions: none. -/
import Derived.Test.YtkigikallkpbcaaGreatDoorK1
namespace Go.Proofs.YtkigikallkpbcaaGreatDoor
open Go.RowKit
set_option linter.unusedVariables false
set_option linter.unusedSimpArgs false
set_option maxRecDepth 100000
set_option maxHeartbeats 16000000
def dotD (c l:List Int):Int:=(List.zipWith (fun a b=>a*b) c l).sum
def addV (c d:List Int):List Int:=List.zipWith (fun a b=>a+b) c d
def subV (c d:List Int):List Int:=List.zipWith (fun a b=>a-b) c d
theorem dotD_add:∀ {c d l:List Int},c.length=d.length→dotD (addV c d) l=dotD c l+dotD d l
 | [],[],l,_=>by simp [dotD,addV]
 | a :: c,b :: d,[],h=>by simp [dotD,addV]
 | a :: c,b :: d,x :: l,h=>by
  have ih:=dotD_add (c:=c) (d:=d) (l:=l) (by simpa using h)
  simp only [dotD,addV,List.zipWith_cons_cons,List.sum_cons] at ih ⊢
  rw [ih,Int.add_mul];omega
 | [],_ :: _,_,h=>by cases h
 | _ :: _,[],_,h=>by cases h
theorem dotD_sub:∀ {c d l:List Int},c.length=d.length→dotD (subV c d) l=dotD c l-dotD d l
 | [],[],l,_=>by simp [dotD,subV]
 | a :: c,b :: d,[],h=>by simp [dotD,subV]
 | a :: c,b :: d,x :: l,h=>by
  have ih:=dotD_sub (c:=c) (d:=d) (l:=l) (by simpa using h)
  simp only [dotD,subV,List.zipWith_cons_cons,List.sum_cons] at ih ⊢
  rw [ih,Int.sub_mul];omega
 | [],_ :: _,_,h=>by cases h
 | _ :: _,[],_,h=>by cases h
/-- a pair of a pass, on rows of coefficients -/
def pairV (h:Nat) (F:List (List Int)) (i:Nat):List (List Int):=if i &&& h=0 then (F.set i (addV (F.getD i []) (F.getD (i ||| h) []))).set (i ||| h) (subV (F.getD i []) (F.getD (i ||| h) [])) else F
def passV (h:Nat) (F:List (List Int)):List (List Int):=(List.range F.length).foldl (pairV h) F
def turnGoV:Nat→Nat→List (List Int)→List (List Int)
 | 0,_,F=>F
 | k+1,h,F=>if h<F.length then turnGoV k (2*h) (passV h F) else F
def evalV (F:List (List Int)) (l:List Int):List Int:=F.map fun c=>dotD c l
def RowsV (n:Nat) (F:List (List Int)):Prop:=F.length=n∧∀ c∈F,c.length=n
theorem RowsV.at {n:Nat} {F:List (List Int)} (h:RowsV n F) {i:Nat} (hi:i<n):(F.getD i []).length=n:=h.2 _ (by
 rw [List.getD_eq_getElem?_getD,List.getElem?_eq_getElem (by have:=h.1;omega)]
 exact List.getElem_mem _)
theorem RowsV.set {n:Nat} {F:List (List Int)} (h:RowsV n F) (i:Nat) {c:List Int} (hc:c.length=n):RowsV n (F.set i c) :=
 ⟨by rw [List.length_set];exact h.1,fun d hd=>by
  rcases List.mem_or_eq_of_mem_set hd with hd | rfl
  ·exact h.2 d hd
  ·exact hc⟩
theorem RowsV.pair {n:Nat} {F:List (List Int)} (hF:RowsV n F) {h i:Nat} (hi:i<n) (hh:i ||| h<n):RowsV n (pairV h F i):=by
 unfold pairV
 split
 ·exact (hF.set _ (by rw [addV,List.length_zipWith,hF.at hi,hF.at hh,Nat.min_self])).set _ (by rw [subV,List.length_zipWith,hF.at hi,hF.at hh,Nat.min_self])
 ·exact hF
theorem evalV_at {n:Nat} {F:List (List Int)} (hF:RowsV n F) {i:Nat} (hi:i<n) (l:List Int):(evalV F l).getD i 0=dotD (F.getD i []) l:=by
 have h1:i<F.length:=by rw [hF.1];exact hi
 rw [List.getD_eq_getElem?_getD,List.getD_eq_getElem?_getD,evalV,List.getElem?_map,List.getElem?_eq_getElem h1]
 rfl
theorem evalV_pair {n:Nat} {F:List (List Int)} (hF:RowsV n F) {h i:Nat} (hi:i<n) (hh:i ||| h<n) (l:List Int):evalV (pairV h F i) l=pairW h (evalV F l) i:=by
 unfold pairV pairW
 split
 ·rw [evalV_at hF hi,evalV_at hF hh,← dotD_add (by rw [hF.at hi,hF.at hh]),← dotD_sub (by rw [hF.at hi,hF.at hh])]
  simp [evalV,List.map_set]
 ·rfl
theorem evalV_fold {n h:Nat} (l:List Int):∀ (ys:List Nat) {F:List (List Int)},RowsV n F→(∀ i∈ys,i<n∧i ||| h<n)→evalV (ys.foldl (pairV h) F) l=ys.foldl (pairW h) (evalV F l)∧RowsV n (ys.foldl (pairV h) F)
 | [],F,hF,_=>⟨rfl,hF⟩
 | i :: ys,F,hF,hy=>by
  obtain ⟨a,b⟩:=hy i List.mem_cons_self
  rw [List.foldl_cons,List.foldl_cons,← evalV_pair hF a b]
  exact evalV_fold l ys (hF.pair a b) (fun j hj=>hy j (List.mem_cons_of_mem _ hj))
theorem or_in {e h i:Nat} (hi:i<2 ^ e) (hh:h<2 ^ e):i ||| h<2 ^ e:=Nat.or_lt_two_pow hi hh
theorem evalV_go {e:Nat} (l:List Int):∀ (k h:Nat) {F:List (List Int)},RowsV (2 ^ e) F→evalV (turnGoV k h F) l=turnGo k h (evalV F l)
 | 0,h,F,hF=>rfl
 | k+1,h,F,hF=>by
  have hl:(evalV F l).length=F.length:=by simp [evalV]
  unfold turnGoV turnGo
  rw [hl]
  split
  ·rename_i hh
   rw [hF.1] at hh
   obtain ⟨a,b⟩:=evalV_fold (h:=h) l (List.range F.length) hF (fun i hi=>by
    rw [List.mem_range,hF.1] at hi
    exact ⟨hi,or_in hi hh⟩)
   unfold passW
   rw [hl,← a]
   exact evalV_go l k (2*h) b
  ·rfl
def unitV (n i:Nat):List Int:=(List.range n).map fun j=>if j=i then 1 else 0
def identV (n:Nat):List (List Int):=(List.range n).map (unitV n)
theorem dotD_zeros:∀ (ys:List Nat) (f:Nat→Int) (l:List Int),(∀ j∈ys,f j=0)→dotD (ys.map f) l=0
 | [],f,l,_=>by simp [dotD]
 | y :: ys,f,[],h=>by simp [dotD]
 | y :: ys,f,x :: l,h=>by
  have ih:=dotD_zeros ys f l (fun j hj=>h j (List.mem_cons_of_mem _ hj))
  have h0:=h y List.mem_cons_self
  simp only [dotD,List.map_cons,List.zipWith_cons_cons,List.sum_cons] at ih ⊢
  rw [ih,h0];simp
theorem dotD_unit:∀ (k s i:Nat) (l:List Int),s≤i→i<s+k→l.length=k→dotD ((List.range' s k).map fun j=>if j=i then 1 else 0) l=l.getD (i-s) 0
 | 0,s,i,l,h1,h2,_=>by omega
 | k+1,s,i,[],h1,h2,hl=>by cases hl
 | k+1,s,i,x :: l,h1,h2,hl=>by
  rw [List.range'_succ,List.map_cons]
  by_cases hs:s=i
  ·subst hs
   have hz:=dotD_zeros (List.range' (s+1) k) (fun j=>if j=s then (1:Int) else 0) l (fun j hj=>by
    have:=(List.mem_range'_1.1 hj).1
    exact if_neg (by omega))
   simp only [dotD,List.zipWith_cons_cons,List.sum_cons,if_true] at hz ⊢
   rw [hz];simp
  ·have ih:=dotD_unit k (s+1) i l (by omega) (by omega) (by simpa using hl)
   simp only [dotD,List.zipWith_cons_cons,List.sum_cons,if_neg hs] at ih ⊢
   rw [ih,show i-s=(i-(s+1))+1 by omega]
   simp
theorem evalV_ident {n:Nat} {l:List Int} (hl:l.length=n):evalV (identV n) l=l:=by
 apply List.ext_getElem?
 intro i
 by_cases hi:i<n
 ·have:=dotD_unit n 0 i l (Nat.zero_le _) (by omega) hl
  rw [← List.range_eq_range'] at this
  simp only [evalV,identV,List.map_map,List.getElem?_map,List.getElem?_range hi,Option.map_some,Function.comp]
  rw [show dotD (unitV n i) l=l.getD (i-0) 0 from this]
  simp [hl,hi]
 ·rw [List.getElem?_eq_none (by simp [evalV,identV];omega),List.getElem?_eq_none (by omega)]
/-- the sign of an input in an output -/
def sgnD (u x:Nat):Int:=if ((u &&& x) % 2+(u &&& x) / 2 % 2+(u &&& x) / 4 % 2) % 2=0 then 1 else -1
def sgnRow (n k:Nat):List Int:=(List.range (n*n)).map fun i=>sgnD (k % n) (i % n)*sgnD (k / n) (i / n)
def sgnV (n:Nat):List (List Int):=(List.range (n*n)).map (sgnRow n)
theorem turnV_4:turnGoV 7 1 (identV 16)=sgnV 4:=by kernel_rfl
theorem turnV_8:turnGoV 7 1 (identV 64)=sgnV 8:=by kernel_rfl
theorem identV_rows (n:Nat):RowsV n (identV n):=⟨by simp [identV],fun c hc=>by
 obtain ⟨i,_,rfl⟩:=List.mem_map.1 hc
 simp [unitV]⟩
theorem turnD_sums {n:Nat} (hn:n=4∨n=8) {l:List Int} (hl:l.length=n*n):turnD l=(List.range (n*n)).map fun k=>dotD (sgnRow n k) l:=by
 have key:turnD l=evalV (turnGoV 7 1 (identV (n*n))) l:=by
  unfold turnD
  rcases hn with rfl | rfl
  ·rw [evalV_go (e:=4) l 7 1 (identV_rows 16),evalV_ident hl]
  ·rw [evalV_go (e:=6) l 7 1 (identV_rows 64),evalV_ident hl]
 rw [key]
 rcases hn with rfl | rfl
 ·rw [show (4*4:Nat)=16 from rfl,turnV_4];simp [evalV,sgnV]
 ·rw [show (8*8:Nat)=64 from rfl,turnV_8];simp [evalV,sgnV]
end Go.Proofs.YtkigikallkpbcaaGreatDoor
