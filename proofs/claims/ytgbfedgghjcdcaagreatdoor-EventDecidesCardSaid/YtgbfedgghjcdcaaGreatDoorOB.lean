/- Law 32: the state of events,as a contract. No condition. -/
import Derived.Test.YtgbfedgghjcdcaaGreatDoorOA
set_option linter.all false
namespace Go.Proofs.YtgbfedgghjcdcaaGreatDoor
open Go.RowKit
set_option maxRecDepth 100000
set_option maxHeartbeats 32000000
theorem Small.delta{m:Md}(h:Small m){a:dT}(ha:a∈m.aJ){k:Nat}{c:fN}(hc:a.eff.delta[k]?=some c):0<=c.cell/\c.cell <bQ m.aq true m.tables:=by
 have h1:=h.iQ a ha;unfold fw at h1;simp only[Bool.and_eq_true]at h1;have:=List.all_eq_true.1 h1.2.1 c (List.mem_of_getElem? hc);simpa[lL]using this
def DR{e:Ev}(h:bU e=true)(hk:e.k=0):0<=e.a:=by
 unfold bU at h;rw[if_pos hk]at h;simp only[Bool.and_eq_true,mI,cD,decide_eq_true_eq]at h;omega
def IX{m:Md}{e:Ev}(h:eP m e.past.length e=true)(hk:e.k=0):∃a,m.aJ[e.a.toNat]?=some a/\0<=e.a/\e.a <m.aJ.length:=by
 unfold eP at h;simp only[Bool.and_eq_true,Bool.or_eq_true,Bool.not_eq_true',decide_eq_true_eq,decide_eq_false_iff_not]at h;have u:=DR h.1 hk;have h1:e.a <m.aJ.length:=h.2.2.resolve_left fun y=>y hk;obtain⟨a,v⟩:=av (xs:=m.aJ) (k:=e.a.toNat) (by omega);exact⟨a,v,u,h1⟩
end Go.Proofs.YtgbfedgghjcdcaaGreatDoor
