/- Law 39: lists of events turned around. No condition. -/
import Derived.Test.YtcgdbhlnkificaaGreatDoorTKA
import Derived.Test.YtcgdbhlnkificaaGreatDoorTNI
import Derived.Test.YtcgdbhlnkificaaGreatDoorTUI
import Derived.Test.YtcgdbhlnkificaaGreatDoorUK
set_option linter.all false
namespace Go.Proofs.YtcgdbhlnkificaaGreatDoor
open Go.RowKit
set_option maxRecDepth 100000
set_option maxHeartbeats 32000000
def mR(l X:List Ev)(i:Nat):Prop:=X.length=l.length/\∀k,X[k]?=if k <i\/l.length - i<=k then l.reverse[k]? else l[k]?
def mR.start(l:List Ev):mR l l 0:=⟨rfl,fun k=>by
 by_cases h:l.length<=k
 ·rw[if_pos (.inr (by simpa using h)),List.getElem?_eq_none (by simpa using h),List.getElem?_eq_none (by simpa using h)]
 ·rw[if_neg (by omega)]⟩
def mR.done{l X:List Ev}{i:Nat}(h:mR l X i)(hi:l.length<=2*i+1):X=l.reverse:=by
 apply List.ext_getElem?;intro k;rw[h.2 k];split
 ·rfl
 ·rename_i y;have u:i<=k:=by omega
  have v:k <l.length - i:=by omega
  have:k=l.length - 1 - k:=by omega
  rw[List.getElem?_reverse (by omega),<- this]
def mR.step{l X:List Ev}{i:Nat}{a b:Ev}(h:mR l X i)(hi:2*i+1 <l.length)(ha:X[i]?=some a)(hb:X[l.length - 1 - i]?=some b):mR l ((X.set i b).set (l.length - 1 - i) a) (i+1):=by
 refine⟨by simp[h.1],fun k=>?_⟩;have u:=h.2 i;have v:=h.2 (l.length - 1 - i);rw[ha,if_neg (by omega)]at u;rw[hb,if_neg (by omega)]at v;by_cases z:k=l.length - 1 - i
 ·subst z;rw[List.getElem?_set_self (by rw[List.length_set,h.1];omega),if_pos (.inr (by omega)),List.getElem?_reverse (by omega),show l.length - 1 - (l.length - 1 - i)=i by omega,<- u]
 ·rw[List.getElem?_set_ne (fun e=>z e.symm)];by_cases D:k=i
  ·subst D;rw[List.getElem?_set_self (by rw[h.1];omega),if_pos (.inl (by omega)),List.getElem?_reverse (by omega),<- v]
  ·rw[List.getElem?_set_ne (fun e=>D e.symm),h.2 k];by_cases y:k <i\/l.length - i<=k
   ·rw[if_pos y,if_pos (by omega)]
   ·rw[if_neg y];split
    ·rename_i G;omega
    ·rfl
def He{l z:aO}(h:eG l z)(hl:Rm l):Rm z:=by
 unfold eG at h;have h1:=congrArg List.length h;rw[List.length_map,List.length_map]at h1;refine⟨by have:=hl.1;omega,fun x V=>?_⟩;have I:x.map List.length∈z.map (·.map List.length):=List.mem_map.2 ⟨x,V,rfl⟩;rw[h]at I;obtain⟨J,v,G⟩:=List.mem_map.1 I;have h2:=congrArg List.length G;rw[List.length_map,List.length_map]at h2;refine⟨by have:=(hl.2 J v).1;omega,fun y Z=>?_⟩;have u:y.length∈x.map List.length:=List.mem_map.2 ⟨y,Z,rfl⟩;rw[<- G]at u;obtain⟨y',D,U⟩:=List.mem_map.1 u;have:=(hl.2 J v).2 y' D;omega
end Go.Proofs.YtcgdbhlnkificaaGreatDoor
