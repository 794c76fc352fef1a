/- Law 32: closed lists of events,as the reference tells them. No condition. -/
import Derived.Test.YtgbfedgghjcdcaaGreatDoorTKA
import Derived.Test.YtgbfedgghjcdcaaGreatDoorTK
import Derived.Test.YtgbfedgghjcdcaaGreatDoorTW
import Derived.Test.YtgbfedgghjcdcaaGreatDoorTS
set_option linter.unusedSimpArgs false
set_option linter.unusedVariables false
set_option linter.unusedSectionVars false
namespace Go.Proofs.YtgbfedgghjcdcaaGreatDoor
open Go.RowKit
set_option maxRecDepth 100000
set_option maxHeartbeats 16000000
structure Cl2 (l:List Ev) (m q:Nat):Prop where
 form:∀ k e,k < q→l[k]?=some e→formB e=true
 alike:∀ k e,k < q→l[k]?=some e→e.past.length=m
 names:∀ k j e x,k < q→l[k]?=some e→l[j]?=some x→k≠j→nm x≠nm e
 good:∀ k e,k < q→l[k]?=some e→ClosedR l e
theorem Cl2.all {l:List Ev} {m:Nat} (few:l.length≤1024) (h:Cl2 l m l.length):ClosedP l:=by
 have get:∀ e∈l,∃ k,k < l.length∧l[k]?=some e:=fun e he=>by
  obtain ⟨k,hk⟩:=List.mem_iff_getElem?.1 he
  exact ⟨k,lt_of_get hk,hk⟩
 refine (closed_ref few (fun e he=>?_) (fun e he x hx=>?_) ?_).2 (fun e he=>?_)
 ·obtain ⟨k,h1,h2⟩:=get e he
  exact h.form k e h1 h2
 ·obtain ⟨k,h1,h2⟩:=get e he
  obtain ⟨j,h3,h4⟩:=get x hx
  rw [h.alike k e h1 h2,h.alike j x h3 h4]
 ·rw [List.Nodup,List.pairwise_iff_getElem]
  intro i j hi hj hij
  rw [List.getElem_map,List.getElem_map]
  have hi':i < l.length:=by simpa using hi
  have hj':j < l.length:=by simpa using hj
  exact h.names j i _ _ hj' (List.getElem?_eq_getElem hj') (List.getElem?_eq_getElem hi') (by omega)
 ·obtain ⟨k,h1,h2⟩:=get e he
  exact h.good k e h1 h2
end Go.Proofs.YtgbfedgghjcdcaaGreatDoor
namespace Go.Proofs.YtgbfedgghjcdcaaGreatDoor
open Go.RowKit
set_option maxRecDepth 100000
set_option maxHeartbeats 16000000
theorem newsE (l:List Ev):newsOk 13 (evsE l)=true:=by
 unfold newsOk evsE
 simp [evCs,oneA,intsA]
theorem eclone_c {e:Ev} {l:List Ev} (hl:l.length≤1000):Cl cfg 27 [.t (.arr (evsE (e::l)))] [] (.ls 0) [.row false false 13 (evsE (e::l))]:=by
 refine Cl.ext (xs:=[.arr (evsE (e::l))]) (by kernel_rfl) rfl ?_
 have h1:=newsE (e::l)
 have h2:Nat.ble (evsE l).length 999999=true:=by rw [evsE_len,Nat.ble_eq];omega
 show extA 27 [.arr (evCs e::evsE l)]=_
 have h3:newsOk 13 (evCs e::evsE l)=true:=h1
 have hx:cloneX (evCs e::evsE l)=some (.ls 0,[.row false false 13 (evsE (e::l))]):=by
  show (match newsOk 13 (evCs e::evsE l) && Nat.ble (evsE l).length 999999 with|true=>some (SV.ls 0,[Lb.row false false 13 (evCs e::evsE l)])|false=>none)=_
  rw [h3,h2];rfl
 have hP:extP 27 [.arr (evCs e::evsE l)]=cloneX (evCs e::evsE l):=rfl
 have hT:extT 27 [.arr (evCs e::evsE l)]=none:=rfl
 unfold extA
 rw [hT]
 show extP _ _=_
 rw [hP,hx]
end Go.Proofs.YtgbfedgghjcdcaaGreatDoor
namespace Go.Proofs.YtgbfedgghjcdcaaGreatDoor
open Go.RowKit
set_option maxRecDepth 100000
set_option maxHeartbeats 16000000
end Go.Proofs.YtgbfedgghjcdcaaGreatDoor
