/- Law 32: closed lists of events,as the reference tells them. No condition. -/
import Derived.Test.YtjolgbkkocjpgaaGreatDoorTKA
import Derived.Test.YtjolgbkkocjpgaaGreatDoorTK
import Derived.Test.YtjolgbkkocjpgaaGreatDoorTW
import Derived.Test.YtjolgbkkocjpgaaGreatDoorTS
set_option linter.defProp false
set_option linter.unusedSimpArgs false
set_option linter.unusedVariables false
set_option linter.unusedSectionVars false
namespace Go.Proofs.YtjolgbkkocjpgaaGreatDoor
open Go.RowKit
set_option maxRecDepth 100000
set_option maxHeartbeats 16000000
structure ET (l:List Ev) (m q:Nat):Prop where
 form:∀k e,k <q->l[k]?=some e->dK e=true
 alike:∀k e,k <q->l[k]?=some e->e.past.length=m
 names:∀k j e x,k <q->l[k]?=some e->l[j]?=some x->k≠j->nm x≠nm e
 NL:∀k e,k <q->l[k]?=some e->C1 l e
def ET.all{l:List Ev}{m:Nat}(G:l.length<=1024)(h:ET l m l.length):ClosedP l:=by
 have u:∀e∈l,∃k,k <l.length/\l[k]?=some e:=fun e v=>by
  obtain⟨k,D⟩:=List.mem_iff_getElem?.1 v;exact⟨k,aF D,D⟩
 refine(JN G (fun e v=>?_) (fun e v x V=>?_) ?_).2 (fun e v=>?_)
 ·obtain⟨k,h1,h2⟩:=u e v;exact h.form k e h1 h2
 ·obtain⟨k,h1,h2⟩:=u e v;obtain⟨j,h3,h4⟩:=u x V;rw[h.alike k e h1 h2,h.alike j x h3 h4]
 ·rw[List.Nodup,List.pairwise_iff_getElem];intro i j I U J;rw[List.getElem_map,List.getElem_map];have z:i <l.length:=by simpa using I
  have y:j <l.length:=by simpa using U
  exact h.names j i _ _ y (List.getElem?_eq_getElem y) (List.getElem?_eq_getElem z) (by omega)
 ·obtain⟨k,h1,h2⟩:=u e v;exact h.NL k e h1 h2
def NM(l:List Ev):eu 13 (bL l)=true:=by
 unfold eu bL;simp[c9,mr,ax]
def NN{l:List Ev}(hl:l.length*120<=140737488351232):Cl ai 18 [.t (.arr (bL l))] [] (.ls 0) [.row false false 13 (bL l)]:=by
 refine Cl.ext (xs:=[.arr (bL l)]) (by kernel_rfl) rfl ?_
 have h2:Nat.ble ((bL l).length*120) 140737488351232=true:=by
  rw[nc,Nat.ble_eq];exact hl
 have h3:=NM l
 have v:jX 13 120 (bL l)=some (.ls 0,[.row false false 13 (bL l)]):=by
  unfold jX;rw[h3,h2];rfl
 have u:qF 18 [.arr (bL l)]=none:=rfl;show nX 18 [.arr (bL l)]=_
 unfold nX;rw[u];exact v
def NO{l:List Ev}(hl:l.length<=1000000):Cl ai 18 [.t (.arr (bL l))] [] (.ls 0) [.row false false 13 (bL l)]:=NN (by omega)
end Go.Proofs.YtjolgbkkocjpgaaGreatDoor
