/- Law 52: Parse of a clock's text. No condition. -/
import Derived.Test.YtjolgbkkocjpgaaGreatDoorTL
import Derived.Test.YtjolgbkkocjpgaaGreatDoorTS
import Derived.Test.YtjolgbkkocjpgaaGreatDoorTD
import Derived.Test.YtjolgbkkocjpgaaGreatDoorTW
import Derived.Test.YtjolgbkkocjpgaaGreatDoorTX
set_option linter.all false
namespace Go.Proofs.YtjolgbkkocjpgaaGreatDoor
open Go.RowKit
set_option maxRecDepth 100000
set_option maxHeartbeats 4000000
set_option maxHeartbeats 8000000
set_option maxHeartbeats 16000000
set_option maxHeartbeats 8000000
set_option maxHeartbeats 16000000
def cC(l:List Ev):List (List AV):=l.map b8
def oE(l:List Ev):(cC l).length=l.length:=List.length_map _
def zk{l:List Ev}{k:Nat}{e:Ev}(h:l[k]?=some e):(cC l)[k]?=some [.int .i64 e.r,.int .i64 e.n,.int .i64 e.t,ay e.past,.int .i64 e.k,.int .i64 e.a,.int .i64 e.gk,.int .i64 e.gi,.int .i64 e.ge,.int .i64 e.ga,.int .i64 e.to,.int .i64 e.pl,.int .i64 e.se]:=by
 unfold cC;rw[List.getElem?_map,h];rfl
def vJ(l:List Ev):List SV:=l.map fun e=>.t (bN e)
def Kq(l:List Ev):vJ l=(l.map bN).map .t:=by simp[vJ]
def zx{σ:Nat->Option Nat}{ks:List AV}{l:List Ev}{bs u:Fr}(h:bs=u):(Lb.map false ks (SV.cM σ (vJ l))::bs)=Lb.map false ks (vJ l)::u:=by rw[Kq,sx,h]
def Bs{α:Type}{l:List α}{q:Nat}{x:α}(h:l[q]?=some x):l.take (q+1)=l.take q++[x]:=by
 rw[List.take_add_one,h];rfl
structure sD (l:List Ev) (m q:Nat):Prop where
 form:∀e∈l.take q,cW e=true
 alike:∀e∈l.take q,e.past.length=m
 names:((l.take q).map nm).Nodup
def sD.zero(l:List Ev)(m:Nat):sD l m 0:=⟨fun e h=>by simp at h,fun e h=>by simp at h,by simp⟩
def sD.step{l:List Ev}{m q:Nat}{e:Ev}(h:sD l m q)(he:l[q]?=some e)(hf:cW e=true)(ha:e.past.length=m)(hn:∀x∈l.take q,nm x≠nm e):sD l m (q+1) where
 form:=fun x u=>by
  rw[Bs he,List.mem_append,List.mem_singleton]at u;rcases u with u|rfl
  ·exact h.form x u
  ·exact hf
 alike:=fun x u=>by
  rw[Bs he,List.mem_append,List.mem_singleton]at u;rcases u with u|rfl
  ·exact h.alike x u
  ·exact ha
 names:=by
  rw[Bs he,List.map_append,List.nodup_append];refine⟨h.names,by simp,fun a ha b v=>?_⟩;obtain⟨x,u,rfl⟩:=List.mem_map.1 ha;simp only[List.map_cons,List.map_nil,List.mem_singleton]at v;subst v;exact hn x u
set_option maxHeartbeats 32000000
def T1(l:List Ev):List Ev:=DM Ee (l.take 40)++DM Ee (l.drop 40)
set_option maxHeartbeats 16000000
structure BH (l:List Ev) (m q:Nat):Prop where
 form:∀k e,k <q->l[k]?=some e->cW e=true
 alike:∀k e,k <q->l[k]?=some e->e.past.length=m
 names:∀k j e x,k <q->l[k]?=some e->l[j]?=some x->k≠j->nm x≠nm e
 K0:∀k e,k <q->l[k]?=some e->BJ l e
def BH.all{l:List Ev}{m:Nat}(G:l.length<=1024)(h:BH l m l.length):ClosedP l:=by
 have u:∀e∈l,∃k,k <l.length/\l[k]?=some e:=fun e v=>by
  obtain⟨k,D⟩:=List.mem_iff_getElem?.1 v;exact⟨k,aC D,D⟩
 refine(Jg G (fun e v=>?_) (fun e v x V=>?_) ?_).2 (fun e v=>?_)
 ·obtain⟨k,h1,h2⟩:=u e v;exact h.form k e h1 h2
 ·obtain⟨k,h1,h2⟩:=u e v;obtain⟨j,h3,h4⟩:=u x V;rw[h.alike k e h1 h2,h.alike j x h3 h4]
 ·rw[List.Nodup,List.pairwise_iff_getElem];intro i j I U J;rw[List.getElem_map,List.getElem_map];have z:i <l.length:=by simpa using I
  have y:j <l.length:=by simpa using U
  exact h.names j i _ _ y (List.getElem?_eq_getElem y) (List.getElem?_eq_getElem z) (by omega)
 ·obtain⟨k,h1,h2⟩:=u e v;exact h.K0 k e h1 h2
def EM(l:List Ev):eP 13 (cC l)=true:=by
 unfold eP cC;simp[b8,rV,ay]
def J2{l:List Ev}(hl:l.length*120<=140737488351232):Cl ah 18 [.t (.arr (cC l))] [] (.ls 0) [.row false false 13 (cC l)]:=by
 refine Cl.ext (xs:=[.arr (cC l)]) (by kernel_rfl) rfl ?_
 have h2:Nat.ble ((cC l).length*120) 140737488351232=true:=by
  rw[oE,Nat.ble_eq];exact hl
 have h3:=EM l
 have v:kq 13 120 (cC l)=some (.ls 0,[.row false false 13 (cC l)]):=by
  unfold kq;rw[h3,h2];rfl
 have u:pY 18 [.arr (cC l)]=none:=rfl;show mG 18 [.arr (cC l)]=_
 unfold mG;rw[u];exact v
end Go.Proofs.YtjolgbkkocjpgaaGreatDoor
