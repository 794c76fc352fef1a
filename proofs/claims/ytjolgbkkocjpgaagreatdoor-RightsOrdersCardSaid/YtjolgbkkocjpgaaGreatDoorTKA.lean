/- Law 32: events before others,clocks that contain others. No condition. -/
import Derived.Test.YtjolgbkkocjpgaaGreatDoorTD
import Derived.Test.YtjolgbkkocjpgaaGreatDoorTW
import Derived.Test.YtjolgbkkocjpgaaGreatDoorTS
set_option linter.defProp false
set_option linter.unusedSimpArgs false
set_option linter.unusedVariables false
set_option linter.unusedSectionVars false
namespace Go.Proofs.YtjolgbkkocjpgaaGreatDoor
open Go.RowKit
set_option maxRecDepth 100000
set_option maxHeartbeats 8000000
set_option maxHeartbeats 16000000
def bL(l:List Ev):List (List AV):=l.map c9
def nc(l:List Ev):(bL l).length=l.length:=List.length_map _
def qS{l:List Ev}{k:Nat}{e:Ev}(h:l[k]?=some e):(bL l)[k]?=some [.int .i64 e.r,.int .i64 e.n,.int .i64 e.t,ax e.past,.int .i64 e.k,.int .i64 e.a,.int .i64 e.gk,.int .i64 e.gi,.int .i64 e.ge,.int .i64 e.ga,.int .i64 e.to,.int .i64 e.pl,.int .i64 e.se]:=by
 unfold bL;rw[List.getElem?_map,h];rfl
def vT(l:List Ev):List SV:=l.map fun e=>.t (cV e)
def Nl(l:List Ev):vT l=(l.map cV).map .t:=by simp[vT]
def yo{σ:Nat->Option Nat}{ks:List AV}{l:List Ev}{bs u:Fr}(h:bs=u):(Lb.map false ks (SV.cN σ (vT l))::bs)=Lb.map false ks (vT l)::u:=by rw[Nl,qd,h]
def zw{α:Type}{l:List α}{q:Nat}{x:α}(h:l[q]?=some x):l.take (q+1)=l.take q++[x]:=by
 rw[List.take_add_one,h];rfl
structure sT (l:List Ev) (m q:Nat):Prop where
 form:∀e∈l.take q,dK e=true
 alike:∀e∈l.take q,e.past.length=m
 names:((l.take q).map nm).Nodup
def sT.zero(l:List Ev)(m:Nat):sT l m 0:=⟨fun e h=>by simp at h,fun e h=>by simp at h,by simp⟩
def sT.step{l:List Ev}{m q:Nat}{e:Ev}(h:sT l m q)(he:l[q]?=some e)(hf:dK e=true)(ha:e.past.length=m)(hn:∀x∈l.take q,nm x≠nm e):sT l m (q+1) where
 form:=fun x u=>by
  rw[zw he,List.mem_append,List.mem_singleton]at u;rcases u with u|rfl
  ·exact h.form x u
  ·exact hf
 alike:=fun x u=>by
  rw[zw he,List.mem_append,List.mem_singleton]at u;rcases u with u|rfl
  ·exact h.alike x u
  ·exact ha
 names:=by
  rw[zw he,List.map_append,List.nodup_append];refine⟨h.names,by simp,fun a ha b v=>?_⟩;obtain⟨x,u,rfl⟩:=List.mem_map.1 ha;simp only[List.map_cons,List.map_nil,List.mem_singleton]at v;subst v;exact hn x u
end Go.Proofs.YtjolgbkkocjpgaaGreatDoor
