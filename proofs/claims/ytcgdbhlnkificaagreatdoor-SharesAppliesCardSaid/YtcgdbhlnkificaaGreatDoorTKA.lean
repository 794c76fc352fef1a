/- Law 52: Parse of a clock's text. No condition. -/
import Derived.Test.YtcgdbhlnkificaaGreatDoorTL
import Derived.Test.YtcgdbhlnkificaaGreatDoorTS
import Derived.Test.YtcgdbhlnkificaaGreatDoorTD
import Derived.Test.YtcgdbhlnkificaaGreatDoorTW
import Derived.Test.YtcgdbhlnkificaaGreatDoorTX
set_option linter.all false
namespace Go.Proofs.YtcgdbhlnkificaaGreatDoor
open Go.RowKit
set_option maxRecDepth 100000
set_option maxHeartbeats 4000000
set_option maxHeartbeats 8000000
set_option maxHeartbeats 16000000
set_option maxHeartbeats 8000000
set_option maxHeartbeats 16000000
def b8(l:List Ev):List (List AV):=l.map cx
def pn(l:List Ev):(b8 l).length=l.length:=List.length_map _
def uZ{l:List Ev}{k:Nat}{e:Ev}(h:l[k]?=some e):(b8 l)[k]?=some [.int .i64 e.r,.int .i64 e.n,.int .i64 e.t,aD e.past,.int .i64 e.k,.int .i64 e.a,.int .i64 e.gk,.int .i64 e.gi,.int .i64 e.ge,.int .i64 e.ga,.int .i64 e.to,.int .i64 e.pl,.int .i64 e.se]:=by
 unfold b8;rw[List.getElem?_map,h];rfl
def uY(l:List Ev):List SV:=l.map fun e=>.t (c6 e)
def Jd(l:List Ev):uY l=(l.map c6).map .t:=by simp[uY]
def yu{σ:Nat->Option Nat}{ks:List AV}{l:List Ev}{bs u:Fr}(h:bs=u):(Lb.map false ks (SV.cC σ (uY l))::bs)=Lb.map false ks (uY l)::u:=by rw[Jd,rT,h]
def AB{α:Type}{l:List α}{q:Nat}{x:α}(h:l[q]?=some x):l.take (q+1)=l.take q++[x]:=by
 rw[List.take_add_one,h];rfl
structure rZ (l:List Ev) (m q:Nat):Prop where
 form:∀e∈l.take q,ew e=true
 alike:∀e∈l.take q,e.past.length=m
 names:((l.take q).map nm).Nodup
def rZ.zero(l:List Ev)(m:Nat):rZ l m 0:=⟨fun e h=>by simp at h,fun e h=>by simp at h,by simp⟩
def rZ.step{l:List Ev}{m q:Nat}{e:Ev}(h:rZ l m q)(he:l[q]?=some e)(hf:ew e=true)(ha:e.past.length=m)(hn:∀x∈l.take q,nm x≠nm e):rZ l m (q+1) where
 form:=fun x u=>by
  rw[AB he,List.mem_append,List.mem_singleton]at u;rcases u with u|rfl
  ·exact h.form x u
  ·exact hf
 alike:=fun x u=>by
  rw[AB he,List.mem_append,List.mem_singleton]at u;rcases u with u|rfl
  ·exact h.alike x u
  ·exact ha
 names:=by
  rw[AB he,List.map_append,List.nodup_append];refine⟨h.names,by simp,fun a ha b v=>?_⟩;obtain⟨x,u,rfl⟩:=List.mem_map.1 ha;simp only[List.map_cons,List.map_nil,List.mem_singleton]at v;subst v;exact hn x u
set_option maxHeartbeats 32000000
def T1(l:List Ev):List Ev:=RJ RO (l.take 40)++RJ RO (l.drop 40)
set_option maxHeartbeats 16000000
structure AR (l:List Ev) (m q:Nat):Prop where
 form:∀k e,k <q->l[k]?=some e->ew e=true
 alike:∀k e,k <q->l[k]?=some e->e.past.length=m
 names:∀k j e x,k <q->l[k]?=some e->l[j]?=some x->k≠j->nm x≠nm e
 JJ:∀k e,k <q->l[k]?=some e->AX l e
def AR.all{l:List Ev}{m:Nat}(G:l.length<=1024)(h:AR l m l.length):ClosedP l:=by
 have u:∀e∈l,∃k,k <l.length/\l[k]?=some e:=fun e v=>by
  obtain⟨k,D⟩:=List.mem_iff_getElem?.1 v;exact⟨k,aC D,D⟩
 refine(Ie G (fun e v=>?_) (fun e v x V=>?_) ?_).2 (fun e v=>?_)
 ·obtain⟨k,h1,h2⟩:=u e v;exact h.form k e h1 h2
 ·obtain⟨k,h1,h2⟩:=u e v;obtain⟨j,h3,h4⟩:=u x V;rw[h.alike k e h1 h2,h.alike j x h3 h4]
 ·rw[List.Nodup,List.pairwise_iff_getElem];intro i j I U J;rw[List.getElem_map,List.getElem_map];have z:i <l.length:=by simpa using I
  have y:j <l.length:=by simpa using U
  exact h.names j i _ _ y (List.getElem?_eq_getElem y) (List.getElem?_eq_getElem z) (by omega)
 ·obtain⟨k,h1,h2⟩:=u e v;exact h.JJ k e h1 h2
def L5(l:List Ev):fu 13 (b8 l)=true:=by
 unfold fu b8;simp[cx,rv,aD]
def IQ{l:List Ev}(hl:l.length*120<=140737488351232):Cl aj 19 [.t (.arr (b8 l))] [] (.ls 0) [.row false false 13 (b8 l)]:=by
 refine Cl.ext (xs:=[.arr (b8 l)]) (by kernel_rfl) rfl ?_
 have h2:Nat.ble ((b8 l).length*120) 140737488351232=true:=by
  rw[pn,Nat.ble_eq];exact hl
 have h3:=L5 l
 have v:mi 13 120 (b8 l)=some (.ls 0,[.row false false 13 (b8 l)]):=by
  unfold mi;rw[h3,h2];rfl
 have u:sJ 19 [.arr (b8 l)]=none:=rfl;show qN 19 [.arr (b8 l)]=_
 unfold qN;rw[u];exact v
end Go.Proofs.YtcgdbhlnkificaaGreatDoor
