/- Squares in four parts, told by a coder of the document's: the steps, what is made. Conditions: the coder stands so. -/
import Derived.Test.YthcafdfdglfabaaGreatDoorR3
import Derived.Test.YthcafdfdglfabaaGreatDoorK6
namespace Go.Proofs.YthcafdfdglfabaaGreatDoor
open Go.RowKit
set_option linter.unusedVariables false
set_option linter.unusedSimpArgs false
set_option maxRecDepth 100000
set_option maxHeartbeats 16000000
section
variable {R:Nat} (X:KC R)
end
section
variable {σ:Type} {C:kC σ} {qm:List Int} {ql:List (List Int)} {k:Nat} {ms:List Int} {ls:List (List Int)} {m m1 m2:σ} {mo:Nat} {l:List Int} {e:Err}
theorem mP (h1:bN C (qm.getD ms.length 0) m=(mo,m1)) (h2:aT C 4 (ql.getD ls.length []) m1=(.ok l,m2)):bn C qm ql (k+1) ms ls m=bn C qm ql k (ms ++ [(mo:Int)]) (ls ++ [l]) m2:=by
 rw [bn,h1];simp only [h2]
end
section
variable {O:Nat} {F F':List Nat} {w w':World} {vq:List Value} {ls:List (List Int)}
end
theorem wZ {lo hi g cap n:Nat} {w:World} {l:List Int} (h:ah .i64 lo hi w (.slice (some ⟨g,0,none⟩) n cap) l):ah .i64 g (g+1) w (.slice (some ⟨g,0,none⟩) n cap) l:=by
 obtain ⟨⟨h1,a,c,e,h3,h4,h5⟩,h6⟩:=h;refine ⟨⟨h1,a,c,e,h3,h4,fun hp=>?_⟩,h6⟩;obtain ⟨b,off,ea,x,y,hc⟩:=h5 hp;rw [ea] at e;injection e with e1 e2 e3
 injection e1 with e1
 injection e1 with e1 e2
 exact ⟨b,off,ea,Mf,Mf,hc⟩
theorem Ad {base:Nat} {w:World} {v:Value} {l:List Int} (h:Own .i64 3 base w v l) (hl:0<l.length):∃ g cap,v=.slice (some ⟨g,0,none⟩) l.length cap/\base<=g/\g<w.heap.size/\ah .i64 g (g+1) w v l:=by
 obtain ⟨g,cap,rfl,h1,h2⟩:=h.form hl;exact ⟨g,cap,rfl,h1,h2,wZ h.ints⟩
end Go.Proofs.YthcafdfdglfabaaGreatDoor
