/- Law 32: EventSums: helpers: lists turned around,searches. No condition. -/
import Derived.Test.YtgbfedgghjcdcaaGreatDoorOH
import Derived.Test.YtgbfedgghjcdcaaGreatDoorTK
import Derived.Test.YtgbfedgghjcdcaaGreatDoorTE
set_option linter.all false
namespace Go.Proofs.YtgbfedgghjcdcaaGreatDoor
open Go.RowKit
set_option maxRecDepth 100000
set_option maxHeartbeats 32000000
def lF(l X:List Ev)(i:Nat):Prop:=X.length=l.length/\∀k,X[k]?=if k <i\/l.length - i<=k then l.reverse[k]? else l[k]?
def lF.start(l:List Ev):lF l l 0:=⟨rfl,fun k=>by
 by_cases h:l.length<=k
 ·rw[if_pos (.inr (by simpa using h)),List.getElem?_eq_none (by simpa using h),List.getElem?_eq_none (by simpa using h)]
 ·rw[if_neg (by omega)]⟩
def lF.done{l X:List Ev}{i:Nat}(h:lF l X i)(hi:l.length<=2*i+1):X=l.reverse:=by
 apply List.ext_getElem?;intro k;rw[h.2 k];split
 ·rfl
 ·rename_i y;have u:i<=k:=by omega
  have v:k <l.length - i:=by omega
  have:k=l.length - 1 - k:=by omega
  rw[List.getElem?_reverse (by omega),<- this]
def lF.step{l X:List Ev}{i:Nat}{a b:Ev}(h:lF l X i)(hi:2*i+1 <l.length)(ha:X[i]?=some a)(hb:X[l.length - 1 - i]?=some b):lF l ((X.set i b).set (l.length - 1 - i) a) (i+1):=by
 refine⟨by simp[h.1],fun k=>?_⟩;have u:=h.2 i;have v:=h.2 (l.length - 1 - i);rw[ha,if_neg (by omega)]at u;rw[hb,if_neg (by omega)]at v;by_cases z:k=l.length - 1 - i
 ·subst z;rw[List.getElem?_set_self (by rw[List.length_set,h.1];omega),if_pos (.inr (by omega)),List.getElem?_reverse (by omega),show l.length - 1 - (l.length - 1 - i)=i by omega,<- u]
 ·rw[List.getElem?_set_ne (fun e=>z e.symm)];by_cases D:k=i
  ·subst D;rw[List.getElem?_set_self (by rw[h.1];omega),if_pos (.inl (by omega)),List.getElem?_reverse (by omega),<- v]
  ·rw[List.getElem?_set_ne (fun e=>D e.symm),h.2 k];by_cases y:k <i\/l.length - i<=k
   ·rw[if_pos y,if_pos (by omega)]
   ·rw[if_neg y];split
    ·rename_i G;omega
    ·rfl
end Go.Proofs.YtgbfedgghjcdcaaGreatDoor
