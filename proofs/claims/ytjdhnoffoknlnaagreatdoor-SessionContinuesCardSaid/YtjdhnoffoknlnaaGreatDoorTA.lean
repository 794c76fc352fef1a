/- The tree evaluator,1: values as trees,slots,blocks of a call's own,and the relation to memory. No condition. -/
import Derived.Test.YtjdhnoffoknlnaaGreatDoorProg
import Derived.WalkKit
import Derived.OrdersIn
import Derived.TacticsIn
import Derived.RangeFuncCalls
import Derived.WalkSpells
import Derived.WalkLawsBesides
import Derived.Below
import Derived.Laws.OwnMore
import Derived.Deep.AppendLies
import Derived.Deep.Draws
import Derived.Deep.QuietTactic
import Derived.BigQuiet
import Derived.Lib.Hide
import Derived.Deep.LoopGhost
import Derived.Deep.Cut
import Derived.Laws.Tables
import Derived.Laws.StructEq
set_option linter.unusedSimpArgs false
set_option linter.unusedVariables false
set_option linter.unusedSectionVars false
namespace Go.Proofs.YtjdhnoffoknlnaaGreatDoor
open Go.RowKit
theorem lt_of_get {α:Type} {xs:List α} {k:Nat} {n:α} (h:xs[k]?=some n):k < xs.length:=(List.getElem?_eq_some_iff.1 h).1
theorem get_of_lt {α:Type} {xs:List α} {k:Nat} (h:k < xs.length):∃ n,xs[k]?=some n:=⟨xs[k],List.getElem?_eq_getElem h⟩
theorem own_below {w w':World} {base:Nat} {e:TypeId} {size:Nat} {v:Value} {n:Nat} {xs:List Value} (h:w.ownsRow base e size v n xs) (hb:Below w.heap.size w w'):w'.ownsRow base e size v n xs:=
 h.kept (row:=none) ⟨hb.os,hb.tape,hb.output,hb.size,fun k hk _=>hb.block k hk⟩ (by cases h:v.ownBlock <;> simp)
inductive AV where
 | int (k:IntKind) (n:Int)
 | bool (b:Bool)
 | str (s:ByteArray)
 | arr (es:List (List AV))
 | tp (cs:List AV)
 | agg (cs:List AV)
 | tup (vs:List AV)
 | fn (f:Fn) (nf:Nat) (caps:List AV)
 | mp (ks vs:List AV)
 | lit (v:Value)
 | ifn
instance:Inhabited AV:=⟨.bool false⟩
def flatV:Value→Bool
 | .bool _|.int ..|.float ..|.complex ..|.string _|.nilFunc|.nilIface=>true
 | .pointer none|.map none|.chan none=>true
 | .slice none _ _=>true
 | _=>false
inductive VR (M:Nat→Prop) (w:World):AV→Value→Prop where
 | int (k n):VR M w (.int k n) (.int k n)
 | bool (b):VR M w (.bool b) (.bool b)
 | str (s):VR M w (.str s) (.string s)
 | arr0 (A c):VR M w (.arr []) (.slice A 0 c)
 | arr (b o c sz:Nat) (es:List (List AV)) (us:Nat→Nat→Value) (hne:es≠[]) (hlen:es.length≤140737488351232) (hcap:es.length≤c) (hb:b < w.heap.size) (hM:M b) (hsz:∀ (k:Nat) (cs:List AV),es[k]?=some cs→cs.length=sz)
   (hc:∀ (k j:Nat),k < es.length→j < sz→w.cell? ⟨b,o+(k * sz+j),none⟩=some (us k j))
   (hr:∀ (k j:Nat) (cs:List AV) (x:AV),es[k]?=some cs→cs[j]?=some x→VR M w x (us k j)):VR M w (.arr es) (.slice (some ⟨b,o,none⟩) es.length c)
 | tp (b o:Nat) (cs:List AV) (us:Nat→Value) (hne:cs≠[]) (hb:b < w.heap.size) (hM:M b) (hc:∀ (j:Nat),j < cs.length→w.cell? ⟨b,o+j,none⟩=some (us j))
   (hr:∀ (j:Nat) (x:AV),cs[j]?=some x→VR M w x (us j)):VR M w (.tp cs) (.pointer (some ⟨b,o,none⟩))
 | agg (cs:List AV) (us:Array Value) (hl:us.size=cs.length) (hr:∀ (j:Nat) (x:AV) (u:Value),cs[j]?=some x→us[j]?=some u→VR M w x u):VR M w (.agg cs) (.agg us)
 | tup (cs:List AV) (us:Array Value) (hl:us.size=cs.length) (hr:∀ (j:Nat) (x:AV) (u:Value),cs[j]?=some x→us[j]?=some u→VR M w x u):VR M w (.tup cs) (.tuple us)
 | fn (f:Fn) (cs:List AV) (fs us:Array Value) (hl:(fs++us).size=cs.length) (hr:∀ (j:Nat) (x:AV) (u:Value),cs[j]?=some x→(fs++us)[j]?=some u→VR M w x u):VR M w (.fn f fs.size cs) (.func f fs us)
 | mp (r:Nat) (ks vs:List AV) (ents:Array MapEntry) (clock:Nat) (hb:r < w.heap.size) (hM:M r) (hh:w.heap[r]?=some (.map ents clock)) (hk:ents.size=ks.length) (hv:ents.size=vs.length)
   (hrk:∀ (j:Nat) (x:AV) (u:MapEntry),ks[j]?=some x→ents[j]?=some u→VR M w x u.key) (hrv:∀ (j:Nat) (x:AV) (u:MapEntry),vs[j]?=some x→ents[j]?=some u→VR M w x u.val):VR M w (.mp ks vs) (.map (some r))
 | lit (v) (h:flatV v=true):VR M w (.lit v) v
 | ifn (t:TypeId) (v:Value):VR M w .ifn (.iface t v)
theorem VR.on {M M':Nat→Prop} {w w':World} (hs:w.heap.size≤w'.heap.size) (hM:∀ b,b < w.heap.size→M b→M' b∧w'.heap[b]?=w.heap[b]?)
  {x:AV} {v:Value} (h:VR M w x v):VR M' w' x v:=by
 induction h with
 | int k n=>exact .int k n
 | bool b=>exact .bool b
 | str s=>exact .str s
 | arr0 A c=>exact .arr0 A c
 | arr b o c sz es us hne hlen hcap hb hMb hsz hc hr ih=>exact .arr b o c sz es us hne hlen hcap (Nat.lt_of_lt_of_le hb hs) (hM b hb hMb).1 hsz (fun k j hk hj=>by rw [World.cell?_of_block (w:=w) (hM b hb hMb).2];exact hc k j hk hj) ih
 | tp b o cs us hne hb hMb hc hr ih=>exact .tp b o cs us hne (Nat.lt_of_lt_of_le hb hs) (hM b hb hMb).1 (fun j hj=>by rw [World.cell?_of_block (w:=w) (hM b hb hMb).2];exact hc j hj) ih
 | agg cs us hl hr ih=>exact .agg cs us hl ih
 | tup cs us hl hr ih=>exact .tup cs us hl ih
 | fn f cs fs us hl hr ih=>exact .fn f cs fs us hl ih
 | mp r ks vs ents clock hb hMb hh hk hv hrk hrv ihk ihv=>exact .mp r ks vs ents clock (Nat.lt_of_lt_of_le hb hs) (hM r hb hMb).1 (by rw [(hM r hb hMb).2];exact hh) hk hv ihk ihv
 | lit v h=>exact .lit v h
 | ifn t v=>exact .ifn t v
theorem VR.len {M:Nat→Prop} {w:World} {es:List (List AV)} {v:Value} (h:VR M w (.arr es) v):es.length≤140737488351232:=by
 cases h with
 | arr0 A c=>simp
 | arr b o c sz es us hne hlen=>exact hlen
inductive SV where
 | t (x:AV)
 | nil
 | tc (es:List (List AV))
 | nn (es:List (List AV))
 | lp (i j:Nat)
 | ls (i:Nat)
 | lv (i sz a n:Nat)
 | le (i sz k j:Nat)
 | lm (i:Nat)
 | lo (i:Nat) (p:List Nat)
 | lr (i:Nat) (p:List Nat) (k:Nat)
 | agg (cs:List SV)
 | tup (cs:List SV)
 | fn (f:Fn) (nf:Nat) (caps:List SV)
 | yes (s:SV)
 | no
 | dead
instance:Inhabited SV:=⟨.dead⟩
inductive Lb where
 | box (ro:Bool) (T:TypeId) (cs:List SV)
 | row (ro tch:Bool) (sz:Nat) (es:List (List AV))
 | map (ro:Bool) (ks:List AV) (vs:List SV)
 | own (ro:Bool) (x:AV)
def Lb.ro:Lb→Bool
 | .box ro _ _=>ro
 | .row ro _ _ _=>ro
 | .map ro _ _=>ro
 | .own ro _=>ro
abbrev Fr:=List Lb
abbrev Env:=Nat→SV
mutual
def SV.sub (σ:Nat→Option Nat):SV→SV
 | .t x=>.t x
 | .nil=>.nil
 | .tc es=>.tc es
 | .nn es=>.nn es
 | .lp i j=>match σ i with|some k=>.lp k j|none=>.dead
 | .ls i=>match σ i with|some k=>.ls k|none=>.dead
 | .lv i sz a n=>match σ i with|some k=>.lv k sz a n|none=>.dead
 | .le i sz e j=>match σ i with|some k=>.le k sz e j|none=>.dead
 | .lm i=>match σ i with|some k=>.lm k|none=>.dead
 | .lo i p=>match σ i with|some k=>.lo k p|none=>.dead
 | .lr i p e=>match σ i with|some k=>.lr k p e|none=>.dead
 | .agg cs=>.agg (SV.subL σ cs)
 | .tup cs=>.tup (SV.subL σ cs)
 | .fn f nf cs=>.fn f nf (SV.subL σ cs)
 | .yes s=>.yes (SV.sub σ s)
 | .no=>.no
 | .dead=>.dead
def SV.subL (σ:Nat→Option Nat):List SV→List SV
 | []=>[]
 | c::cs=>SV.sub σ c::SV.subL σ cs
end
mutual
def SV.refs:SV→List Nat
 | .t _|.nil|.tc _|.nn _|.no|.dead=>[]
 | .lp i _|.ls i|.lv i _ _ _|.le i _ _ _|.lm i|.lo i _|.lr i _ _=>[i]
 | .agg cs|.tup cs|.fn _ _ cs=>SV.refsL cs
 | .yes s=>SV.refs s
def SV.refsL:List SV→List Nat
 | []=>[]
 | c::cs=>SV.refs c++SV.refsL cs
end
def Lb.sub (σ:Nat→Option Nat):Lb→Lb
 | .box ro T cs=>.box ro T (SV.subL σ cs)
 | .row ro tch sz es=>.row ro tch sz es
 | .map ro ks vs=>.map ro ks (SV.subL σ vs)
 | .own ro x=>.own ro x
def Lb.refs:Lb→List Nat
 | .box _ _ cs=>SV.refsL cs
 | .row ..=>[]
 | .map _ _ vs=>SV.refsL vs
 | .own ..=>[]
theorem SV.subL_length (σ:Nat→Option Nat):∀ cs:List SV,(SV.subL σ cs).length=cs.length
 | []=>rfl
 | c::cs=>by rw [SV.subL];simp [SV.subL_length σ cs]
theorem SV.subL_get (σ:Nat→Option Nat):∀ (cs:List SV) (j:Nat),(SV.subL σ cs)[j]?=(cs[j]?).map (SV.sub σ)
 | [],j=>by simp [SV.subL]
 | c::cs,0=>by simp [SV.subL]
 | c::cs,j+1=>by simp [SV.subL,SV.subL_get σ cs j]
def blkOf:Value→Option Nat
 | .pointer (some a)=>some a.block
 | .slice (some a) _ (_+1)=>some a.block
 | .map (some r)=>some r
 | _=>none
def plainV:Value→Bool
 | .agg _|.tuple _=>false
 | _=>true
inductive Bk:Value→Nat→Prop where
 | one {v:Value} {b:Nat} (h:blkOf v=some b):Bk v b
 | many {us:Array Value} {k:Nat} {u:Value} {b:Nat} (hu:us[k]?=some u) (h:Bk u b):Bk (.tuple us) b
theorem Bk.of {v:Value} {b:Nat} (h:Bk v b) (hp:plainV v=true):blkOf v=some b:=by
 cases h with
 | one h=>exact h
 | many=>cases hp
theorem Bk.none {v:Value} {b:Nat} (h:Bk v b) (hp:plainV v=true) (hn:blkOf v=none):False:=by
 have:=h.of hp
 rw [hn] at this
 cases this
def subAt:Value→List Nat→Option Value
 | t,[]=>some t
 | .tuple us,k::p=>match us[k+1]? with
  | some t=>subAt t p
  | none=>none
 | _,_::_=>none
def hdAt (t:Value) (p:List Nat):Option Value:=match subAt t p with
 | some (.tuple us)=>us[0]?
 | _=>none
abbrev Ls:=Nat→Option Value
def Own (fr:Fr) (L:Ls) (b:Nat):Prop:=∃ i v lb,L i=some v∧Bk v b∧fr[i]?=some lb∧lb.ro=false
def MA (M:Nat→Prop) (fr:Fr) (L:Ls) (b:Nat):Prop:=M b∧¬ Own fr L b
inductive SR (A:Nat→Prop) (L:Ls) (w:World):SV→Value→Prop where
 | t (x:AV) (v:Value) (h:VR A w x v):SR A L w (.t x) v
 | nil:SR A L w .nil (.slice none 0 0)
 | tc (es:List (List AV)) (a:Option Addr) (h:VR A w (.arr es) (.slice a es.length es.length)):SR A L w (.tc es) (.slice a es.length es.length)
 | nn (es:List (List AV)) (a:Addr) (c:Nat) (h:VR A w (.arr es) (.slice (some a) es.length c)):SR A L w (.nn es) (.slice (some a) es.length c)
 | lp (i j g:Nat) (h:L i=some (.pointer (some ⟨g,0,none⟩))):SR A L w (.lp i j) (.pointer (some ⟨g,j,none⟩))
 | ls (i:Nat) (v:Value) (h:L i=some v) (hp:plainV v=true):SR A L w (.ls i) v
 | lv (i sz a n b m c:Nat) (h:L i=some (.slice (some ⟨b,0,none⟩) m c)):SR A L w (.lv i sz a n) (.slice (some ⟨b,a * sz,none⟩) n (c - a))
 | le (i sz k j b m c:Nat) (h:L i=some (.slice (some ⟨b,0,none⟩) m c)):SR A L w (.le i sz k j) (.pointer (some ⟨b,k * sz+j,none⟩))
 | lm (i r:Nat) (h:L i=some (.map (some r))):SR A L w (.lm i) (.map (some r))
 | lo (i:Nat) (p:List Nat) (t v:Value) (h:L i=some t) (hv:hdAt t p=some v) (hp:plainV v=true):SR A L w (.lo i p) v
 | lr (i:Nat) (p:List Nat) (k b n c:Nat) (t:Value) (h:L i=some t) (hv:hdAt t p=some (.slice (some ⟨b,0,none⟩) n c)):SR A L w (.lr i p k) (.pointer (some ⟨b,k,none⟩))
 | agg (cs:List SV) (us:Array Value) (hl:us.size=cs.length) (hr:∀ (j:Nat) (x:SV) (u:Value),cs[j]?=some x→us[j]?=some u→SR A L w x u):SR A L w (.agg cs) (.agg us)
 | tup (cs:List SV) (us:Array Value) (hl:us.size=cs.length) (hr:∀ (j:Nat) (x:SV) (u:Value),cs[j]?=some x→us[j]?=some u→SR A L w x u):SR A L w (.tup cs) (.tuple us)
 | fn (f:Fn) (cs:List SV) (fs us:Array Value) (hl:(fs++us).size=cs.length) (hr:∀ (j:Nat) (x:SV) (u:Value),cs[j]?=some x→(fs++us)[j]?=some u→SR A L w x u):SR A L w (.fn f fs.size cs) (.func f fs us)
 | yes (x:SV) (v:Value) (h:SR A L w x v):SR A L w (.yes x) v
 | no:SR A L w .no undef
 | dead (v):SR A L w .dead v
section
variable {A A':Nat→Prop} {L L':Ls} {w w':World}
theorem SR.on (hs:w.heap.size≤w'.heap.size) (hA:∀ b,b < w.heap.size→A b→A' b∧w'.heap[b]?=w.heap[b]?) (hL:∀ i v,L i=some v→L' i=some v)
  {x:SV} {v:Value} (h:SR A L w x v):SR A' L' w' x v:=by
 induction h with
 | t x v h=>exact .t x v (VR.on hs hA h)
 | nil=>exact .nil
 | tc es a h=>exact .tc es a (VR.on hs hA h)
 | nn es a c h=>exact .nn es a c (VR.on hs hA h)
 | lp i j g h=>exact .lp i j g (hL i _ h)
 | ls i v h hp=>exact .ls i v (hL i _ h) hp
 | lv i sz a n b m c h=>exact .lv i sz a n b m c (hL i _ h)
 | le i sz k j b m c h=>exact .le i sz k j b m c (hL i _ h)
 | lm i r h=>exact .lm i r (hL i _ h)
 | lo i p t v h hv hp=>exact .lo i p t v (hL i _ h) hv hp
 | lr i p k b n c t h hv=>exact .lr i p k b n c t (hL i _ h) hv
 | agg cs us hl hr ih=>exact .agg cs us hl ih
 | tup cs us hl hr ih=>exact .tup cs us hl ih
 | fn f cs fs us hl hr ih=>exact .fn f cs fs us hl ih
 | yes x v h ih=>exact .yes x v ih
 | no=>exact .no
 | dead v=>exact .dead v
theorem SR.sub (σ:Nat→Option Nat) (hs:w.heap.size≤w'.heap.size) (hA:∀ b,b < w.heap.size→A b→A' b∧w'.heap[b]?=w.heap[b]?) (hL:∀ i j v,σ i=some j→L i=some v→L' j=some v)
  {x:SV} {v:Value} (h:SR A L w x v):SR A' L' w' (x.sub σ) v:=by
 induction h with
 | t x v h=>rw [SV.sub];exact .t x v (VR.on hs hA h)
 | nil=>rw [SV.sub];exact .nil
 | tc es a h=>rw [SV.sub];exact .tc es a (VR.on hs hA h)
 | nn es a c h=>rw [SV.sub];exact .nn es a c (VR.on hs hA h)
 | lp i j g h=>rw [SV.sub];cases hσ:σ i with|none=>exact .dead _|some k=>exact .lp k j g (hL i k _ hσ h)
 | ls i v h hp=>rw [SV.sub];cases hσ:σ i with|none=>exact .dead _|some k=>exact .ls k v (hL i k _ hσ h) hp
 | lv i sz a n b m c h=>rw [SV.sub];cases hσ:σ i with|none=>exact .dead _|some k=>exact .lv k sz a n b m c (hL i k _ hσ h)
 | le i sz e j b m c h=>rw [SV.sub];cases hσ:σ i with|none=>exact .dead _|some k=>exact .le k sz e j b m c (hL i k _ hσ h)
 | lm i r h=>rw [SV.sub];cases hσ:σ i with|none=>exact .dead _|some k=>exact .lm k r (hL i k _ hσ h)
 | lo i p t v h hv hp=>rw [SV.sub];cases hσ:σ i with|none=>exact .dead _|some k=>exact .lo k p t v (hL i k _ hσ h) hv hp
 | lr i p e b n c t h hv=>rw [SV.sub];cases hσ:σ i with|none=>exact .dead _|some k=>exact .lr k p e b n c t (hL i k _ hσ h) hv
 | agg cs us hl hr ih=>
  rw [SV.sub]
  refine .agg _ us (by rw [SV.subL_length];exact hl) fun j x u hx hu=>?_
  rw [SV.subL_get] at hx
  cases hc:cs[j]? with
  | none=>rw [hc] at hx;cases hx
  | some c=>rw [hc] at hx;cases hx;exact ih j c u hc hu
 | tup cs us hl hr ih=>
  rw [SV.sub]
  refine .tup _ us (by rw [SV.subL_length];exact hl) fun j x u hx hu=>?_
  rw [SV.subL_get] at hx
  cases hc:cs[j]? with
  | none=>rw [hc] at hx;cases hx
  | some c=>rw [hc] at hx;cases hx;exact ih j c u hc hu
 | fn f cs fs us hl hr ih=>
  rw [SV.sub]
  refine .fn _ _ fs us (by rw [SV.subL_length];exact hl) fun j x u hx hu=>?_
  rw [SV.subL_get] at hx
  cases hc:cs[j]? with
  | none=>rw [hc] at hx;cases hx
  | some c=>rw [hc] at hx;cases hx;exact ih j c u hc hu
 | yes x v h ih=>rw [SV.sub];exact .yes _ v ih
 | no=>rw [SV.sub];exact .no
 | dead v=>rw [SV.sub];exact .dead v
theorem SR.later (hb:Below w.heap.size w w') {x:SV} {v:Value} (h:SR A L w x v):SR A L w' x v:=SR.on hb.size (fun b hlt hm=>⟨hm,hb.block b hlt⟩) (fun _ _ h=>h) h
theorem VR.later (hb:Below w.heap.size w w') {x:AV} {v:Value} (h:VR A w x v):VR A w' x v:=VR.on hb.size (fun b hlt hm=>⟨hm,hb.block b hlt⟩) h
end
structure Glob where
 G:World→Prop
 n:Nat
 stays:∀ w w',G w→(∀ k,k < n→w'.heap[k]?=w.heap[k]?)→G w'
def RowIs (w:World) (T:TypeId) (sz:Nat) (v:Value) (n:Nat) (us:List Value):Prop:=(n=0∧us=[]∧∃ a,v=.slice a 0 0)∨w.ownsRow 0 T sz v n us
theorem RowIs.own {w:World} {T:TypeId} {sz n:Nat} {v:Value} {us:List Value} (h:RowIs w T sz v n us) (hn:0 < n):w.ownsRow 0 T sz v n us:=by
 rcases h with ⟨h,_⟩|h
 ·omega
 ·exact h
theorem RowIs.below {w w':World} {T:TypeId} {sz n:Nat} {v:Value} {us:List Value} (h:RowIs w T sz v n us) (hb:Below w.heap.size w w'):RowIs w' T sz v n us:=h.imp id fun h=>own_below h hb
theorem RowIs.same {w w':World} {T:TypeId} {sz n:Nat} {v:Value} {us:List Value} (h:RowIs w T sz v n us) (hb:∀ k,blkOf v=some k→w'.heap[k]?=w.heap[k]?):RowIs w' T sz v n us:=by
 rcases h with h|h
 ·exact .inl h
 ·rcases h.2 with ⟨rfl,h0⟩|⟨g,cap,cur,rfl,hbg,hgg,hnc,hcm,hcs,htk⟩
  ·exact .inr ⟨h.1,.inl ⟨rfl,h0⟩⟩
  ·rcases Nat.eq_zero_or_pos cap with h0|h0
   ·subst h0
    obtain rfl:n=0:=by omega
    exact .inl ⟨rfl,List.eq_nil_of_length_eq_zero (by have:=h.1;omega),_,rfl⟩
   ·obtain ⟨c,rfl⟩:∃ c,cap=c+1:=⟨cap - 1,by omega⟩
    exact .inr ⟨h.1,.inr ⟨g,c+1,cur,rfl,hbg,(hb g rfl).trans hgg,hnc,hcm,hcs,htk⟩⟩
theorem RowIs.len {w:World} {T:TypeId} {sz n:Nat} {v:Value} {us:List Value} (h:RowIs w T sz v n us):us.length=n * sz:=by
 rcases h with ⟨rfl,rfl,_⟩|h
 ·simp
 ·exact h.1
theorem RowIs.form {w:World} {T:TypeId} {sz n:Nat} {v:Value} {us:List Value} (h:RowIs w T sz v n us):∃ q c,v=.slice q n c:=by
 rcases h with ⟨rfl,rfl,a,rfl⟩|h
 ·exact ⟨a,0,rfl⟩
 ·rcases h.2 with ⟨rfl,h0⟩|⟨b,cap,cur,rfl,_⟩
  ·exact ⟨none,0,by rw [h0]⟩
  ·exact ⟨_,cap,rfl⟩
structure Ctx where
 M:Nat→Prop
 X:Nat→Prop
 H:Nat→Prop
 W:World
 L:Ls
def Lb.tch:Lb→Bool
 | .box ..=>false
 | .map ..=>false
 | .row _ tch _ _=>tch
 | .own ..=>false
structure Stamps (ents:Array MapEntry) (clock:Nat):Prop where
 up:(ents.toList.map (·.born)).Pairwise (· < ·)
 lt:∀ e∈ents.toList,e.born < clock
theorem Stamps.nil (c:Nat):Stamps #[] c:=⟨List.Pairwise.nil,fun e h=>by simp at h⟩
theorem Stamps.push {ents:Array MapEntry} {clock:Nat} (h:Stamps ents clock) (k v:Value):Stamps (ents.push { key:=k,val:=v,born:=clock }) (clock+1) where
 up:=by
  rw [Array.toList_push,List.map_append,List.pairwise_append]
  refine ⟨h.up,by simp,fun a ha b hb=>?_⟩
  obtain ⟨e,he,rfl⟩:=List.mem_map.1 ha
  simp at hb
  rw [hb]
  exact h.lt e he
 lt:=fun e he=>by
  rw [Array.toList_push] at he
  rcases List.mem_append.1 he with he|he
  ·exact Nat.lt_succ_of_lt (h.lt e he)
  ·simp at he
   rw [he]
   exact Nat.lt_succ_self _
theorem born_modify (ents:Array MapEntry) (j:Nat) (k v:Value):(ents.modify j fun e=>{ e with key:=k,val:=v }).toList.map (·.born)=ents.toList.map (·.born):=by
 apply List.ext_getElem?
 intro i
 rw [List.getElem?_map,List.getElem?_map,Array.getElem?_toList,Array.getElem?_toList,Array.getElem?_modify]
 split
 ·rename_i h
  subst h
  cases ents[j]? <;> rfl
 ·rfl
theorem Stamps.modify {ents:Array MapEntry} {clock:Nat} (h:Stamps ents clock) (j:Nat) (k v:Value):Stamps (ents.modify j fun e=>{ e with key:=k,val:=v }) clock where
 up:=by rw [born_modify];exact h.up
 lt:=fun e he=>by
  have:e.born∈(ents.modify j fun e=>{ e with key:=k,val:=v }).toList.map (·.born):=List.mem_map.2 ⟨e,he,rfl⟩
  rw [born_modify] at this
  obtain ⟨e',he',hb⟩:=List.mem_map.1 this
  rw [← hb]
  exact h.lt e' he'
inductive OV (w:World):AV→Value→Value→Prop where
 | int (k n):OV w (.int k n) (.int k n) (.tuple #[])
 | arr0 (a:Option Addr):OV w (.arr []) (.slice a 0 0) (.tuple #[.slice a 0 0])
 | arr (b c:Nat) (T:TypeId) (cs:Array Value) (es:List AV) (fs:List (List AV)) (us:Nat→Value) (ts:List Value) (he:fs=es.map fun x=>[x]) (hg:w.heap[b]?=some (.cells cs T (0,0))) (hl:ts.length=es.length) (hn:es.length≤140737488351232) (hc:es.length≤c+1)
   (hu:∀ k,k < es.length→cs[k]?=some (us k)) (hr:∀ (k:Nat) (x:AV) (t:Value),es[k]?=some x→ts[k]?=some t→OV w x (us k) t) (hb:∀ (k:Nat) (t:Value),ts[k]?=some t→¬ Bk t b) (hd:∀ (k k':Nat) (t t':Value) (b':Nat),ts[k]?=some t→ts[k']?=some t'→Bk t b'→Bk t' b'→k=k'):OV w (.arr fs) (.slice (some ⟨b,0,none⟩) es.length (c+1)) (.tuple (.slice (some ⟨b,0,none⟩) es.length (c+1)::ts).toArray)
theorem bk_top {b n c:Nat} {ts:List Value}:Bk (.tuple (.slice (some ⟨b,0,none⟩) n (c+1)::ts).toArray) b:=.many (k:=0) (u:=.slice (some ⟨b,0,none⟩) n (c+1)) (by simp) (.one rfl)
theorem bk_sub {v:Value} {ts:List Value} {k b:Nat} {t:Value} (ht:ts[k]?=some t) (h:Bk t b):Bk (.tuple (v::ts).toArray) b:=.many (k:=k+1) (by simpa using ht) h
theorem bk_inv {b b' n c:Nat} {ts:List Value} (h:Bk (.tuple (.slice (some ⟨b,0,none⟩) n (c+1)::ts).toArray) b'):b'=b∨∃ (k:Nat) (t:Value),ts[k]?=some t∧Bk t b':=by
 cases h with
 | one h=>cases h
 | @many _ k u _ hu hb=>
  cases k with
  | zero=>
   obtain rfl:Value.slice (some ⟨b,0,none⟩) n (c+1)=u:=by simpa using hu
   have:=hb.of rfl
   cases this
   exact .inl rfl
  | succ k=>exact .inr ⟨k,u,by simpa using hu,hb⟩
theorem bk_no {b:Nat} (h:Bk (.tuple #[]) b):False:=by
 cases h with
 | one h=>cases h
 | many hu _=>simp at hu
theorem bk_nil {a:Option Addr} {b:Nat} (h:Bk (.tuple #[.slice a 0 0]) b):False:=by
 cases h with
 | one h=>cases h
 | @many _ k u _ hu hb=>
  cases k with
  | zero=>
   obtain rfl:Value.slice a 0 0=u:=by simpa using hu
   exact hb.none rfl (by cases a <;> rfl)
  | succ k=>simp at hu
theorem OV.same {w w':World} {x:AV} {v t:Value} (h:OV w x v t) (hb:∀ b,Bk t b→w'.heap[b]?=w.heap[b]?):OV w' x v t:=by
 induction h with
 | int k n=>exact .int k n
 | arr0 a=>exact .arr0 a
 | arr b c T cs es fs us ts he hg hl hn hc hu hr h1 h2 ih=>exact .arr b c T cs es fs us ts he ((hb b bk_top).trans hg) hl hn hc hu (fun k x t hx ht=>ih k x t hx ht fun b' hb'=>hb b' (bk_sub ht hb')) h1 h2
theorem OV.lt {w:World} {x:AV} {v t:Value} (h:OV w x v t):∀ b,Bk t b→b < w.heap.size∧∃ cs T,w.heap[b]?=some (.cells cs T (0,0)):=by
 induction h with
 | int k n=>exact fun b hb=>(bk_no hb).elim
 | arr0 a=>exact fun b hb=>(bk_nil hb).elim
 | arr b c T cs es fs us ts he hg hl hn hc hu hr h1 h2 ih=>
  intro b' hb'
  rcases bk_inv hb' with rfl|⟨k,t,hk,h3⟩
  ·exact ⟨(Array.getElem?_eq_some_iff.1 hg).1,cs,T,hg⟩
  ·have hlt:=lt_of_get hk
   exact ih k es[k] t (List.getElem?_eq_getElem (by omega)) hk b' h3
theorem OV.plain {w:World} {x:AV} {v t:Value} (h:OV w x v t):plainV v=true:=by cases h <;> rfl
theorem map1_get {es:List AV} {k:Nat} {cs:List AV} (h:(es.map fun x=>[x])[k]?=some cs):∃ y,es[k]?=some y∧cs=[y]:=by
 rw [List.getElem?_map] at h
 cases he:es[k]? with
 | none=>rw [he] at h;cases h
 | some y=>rw [he] at h;cases h;exact ⟨y,rfl,rfl⟩
theorem OV.vr {w:World} {A:Nat→Prop} {x:AV} {v t:Value} (h:OV w x v t) (hA:∀ b,Bk t b→A b):VR A w x v:=by
 induction h with
 | int k n=>exact .int k n
 | arr0 a=>exact .arr0 a 0
 | arr b c T cs es fs us ts he hg hl hn hc hu hr h1 h2 ih=>
  subst he
  cases es with
  | nil=>exact .arr0 _ _
  | cons e es=>
   have hlen:((e::es).map fun x=>[x]).length=(e::es).length:=List.length_map ..
   have:=VR.arr (M:=A) (w:=w) b 0 (c+1) 1 ((e::es).map fun x=>[x]) (fun k _=>us k) (by simp) (by rw [hlen];exact hn) (by rw [hlen];exact hc) (Array.getElem?_eq_some_iff.1 hg).1 (hA b bk_top) (fun k cs hk=>by
     obtain ⟨y,_,rfl⟩:=map1_get hk
     rfl) (fun k j hk hj=>by
     obtain rfl:j=0:=by omega
     rw [hlen] at hk
     have h1:=hu k hk
     simp only [Nat.mul_one,Nat.add_zero,Nat.zero_add]
     simp [World.cell?,hg,h1]) (fun k j cs x hk hj=>by
     obtain ⟨y,hy,rfl⟩:=map1_get hk
     obtain rfl:j=0:=by have:=lt_of_get hj;simpa using this
     cases hj
     have hkb:k < ts.length:=by rw [hl];exact lt_of_get hy
     exact ih k _ _ hy (List.getElem?_eq_getElem hkb) fun b' hb'=>hA b' (bk_sub (List.getElem?_eq_getElem hkb) hb'))
   rw [hlen] at this
   exact this
def LbOk (A:Nat→Prop) (L:Ls) (w:World) (i:Nat):Lb→Prop
 | .box _ T cs=>∃ (g:Nat) (us:Array Value),L i=some (.pointer (some ⟨g,0,none⟩))∧w.heap[g]?=some (.cells us T (0,0))∧us.size=cs.length∧∀ (j:Nat) (x:SV) (u:Value),cs[j]?=some x→us[j]?=some u→SR A L w x u
 | .row _ _ sz es=>∃ (T:TypeId) (v:Value) (us:List Value),L i=some v∧RowIs w T sz v es.length us∧es.length≤140737488351232∧(∀ (k:Nat) (cs:List AV),es[k]?=some cs→cs.length=sz)∧∀ (k j:Nat) (cs:List AV) (x:AV),es[k]?=some cs→cs[j]?=some x→∃ u,us[k * sz+j]?=some u∧VR A w x u
 | .map _ ks vs=>∃ (r:Nat) (ents:Array MapEntry) (clock:Nat),L i=some (.map (some r))∧w.heap[r]?=some (.map ents clock)∧ents.size=ks.length∧ents.size=vs.length∧(∀ (j:Nat) (x:AV) (u:MapEntry),ks[j]?=some x→ents[j]?=some u→VR A w x u.key)∧(∀ (j:Nat) (x:SV) (u:MapEntry),vs[j]?=some x→ents[j]?=some u→SR A L w x u.val)∧Stamps ents clock
 | .own _ x=>∃ (v t:Value),L i=some t∧OV w x v t
structure Core (γ:Glob) (κ:Ctx) (fr:Fr) (L:Ls) (w:World):Prop where
 glob:γ.G w
 gn:γ.n≤κ.W.heap.size
 gx:∀ b,κ.X b→γ.n≤b∧b < κ.W.heap.size
 fresh:∀ b,κ.W.heap.size≤b→κ.M b
 os:w.os=κ.W.os
 tape:w.tape=κ.W.tape
 output:w.output=κ.W.output
 size:κ.W.heap.size≤w.heap.size
 kept:∀ k,k < κ.W.heap.size→¬ κ.X k→w.heap[k]?=κ.W.heap[k]?
 lim:∀ i v,L i=some v→i < fr.length
 new:∀ i v b lb,L i=some v→Bk v b→fr[i]?=some lb→b < w.heap.size∧κ.M b∧(κ.W.heap.size≤b∨κ.H b)∧(lb.ro=false→κ.W.heap.size≤b∨κ.X b)
 dis:∀ i j v v' b,L i=some v→L j=some v'→Bk v b→Bk v' b→i=j
 hand:∀ j v,κ.L j=some v→∃ lb,fr[j]?=some lb∧(lb.tch=false→L j=some v)
 blk:∀ i lb,fr[i]?=some lb→LbOk (MA κ.M fr L) L w i lb
section
variable {γ:Glob} {κ:Ctx} {fr:Fr} {L:Ls} {w w':World}
theorem Core.later (h:Core γ κ fr L w) (hb:Below w.heap.size w w'):Core γ κ fr L w' where
 glob:=γ.stays _ _ h.glob fun k hk=>hb.block k (Nat.lt_of_lt_of_le hk (Nat.le_trans h.gn h.size))
 gn:=h.gn
 gx:=h.gx
 fresh:=h.fresh
 os:=hb.os.trans h.os
 tape:=hb.tape.trans h.tape
 output:=hb.output.trans h.output
 size:=Nat.le_trans h.size hb.size
 kept:=fun k hk hx=>(hb.block k (Nat.lt_of_lt_of_le hk h.size)).trans (h.kept k hk hx)
 lim:=h.lim
 new:=fun i v b lb h1 h2 h3=>⟨Nat.lt_of_lt_of_le (h.new i v b lb h1 h2 h3).1 hb.size,(h.new i v b lb h1 h2 h3).2⟩
 dis:=h.dis
 hand:=h.hand
 blk:=fun i lb hi=>by
  have h1:=h.blk i lb hi
  have hn:∀ v b,L i=some v→Bk v b→w'.heap[b]?=w.heap[b]?:=fun v b hv hvb=>hb.block b (h.new i v b lb hv hvb hi).1
  cases lb with
  | box ro T cs=>
   obtain ⟨g,us,h1,h2,h3,h4⟩:=h1
   exact ⟨g,us,h1,(hn _ g h1 (.one rfl)).trans h2,h3,fun j x u hx hu=>(h4 j x u hx hu).later hb⟩
  | row ro tch sz es=>
   obtain ⟨T,v,us,h1,h2,h2',h3,h4⟩:=h1
   refine ⟨T,v,us,h1,h2.below hb,h2',h3,fun k j cs x hk hj=>?_⟩
   obtain ⟨u,h5,h6⟩:=h4 k j cs x hk hj
   exact ⟨u,h5,h6.later hb⟩
  | map ro ks vs=>
   obtain ⟨r,ents,clock,h1,h2,h3,h4,h5,h6,h7⟩:=h1
   exact ⟨r,ents,clock,h1,(hn _ r h1 (.one rfl)).trans h2,h3,h4,fun j x u hx hu=>(h5 j x u hx hu).later hb,fun j x u hx hu=>(h6 j x u hx hu).later hb,h7⟩
  | own ro x=>
   obtain ⟨v,t,h1,h2⟩:=h1
   exact ⟨v,t,h1,h2.same fun b hb=>hn _ b h1 hb⟩
theorem Core.box (h:Core γ κ fr L w) (i:Nat) (ro:Bool) (T:TypeId) (cs:List SV) (hi:fr[i]?=some (.box ro T cs)):∃ (g:Nat) (us:Array Value),L i=some (.pointer (some ⟨g,0,none⟩))∧w.heap[g]?=some (.cells us T (0,0))∧us.size=cs.length∧∀ (j:Nat) (x:SV) (u:Value),cs[j]?=some x→us[j]?=some u→SR (MA κ.M fr L) L w x u:=h.blk i _ hi
theorem Core.row (h:Core γ κ fr L w) (i:Nat) (ro tch:Bool) (sz:Nat) (es:List (List AV)) (hi:fr[i]?=some (.row ro tch sz es)):∃ (T:TypeId) (v:Value) (us:List Value),L i=some v∧RowIs w T sz v es.length us∧es.length≤140737488351232∧(∀ (k:Nat) (cs:List AV),es[k]?=some cs→cs.length=sz)∧∀ (k j:Nat) (cs:List AV) (x:AV),es[k]?=some cs→cs[j]?=some x→∃ u,us[k * sz+j]?=some u∧VR (MA κ.M fr L) w x u:=h.blk i _ hi
theorem Core.own (h:Core γ κ fr L w) {b:Nat} (hb:Own fr L b):b < w.heap.size∧κ.M b∧(κ.W.heap.size≤b∨κ.X b):=by
 obtain ⟨i,v,lb,h1,h2,h3,h4⟩:=hb
 obtain ⟨a,b,_,c⟩:=h.new i v _ lb h1 h2 h3
 exact ⟨a,b,c h4⟩
theorem Core.new_ok (h:Core γ κ fr L w):MA κ.M fr L w.heap.size:=⟨h.fresh _ h.size,fun ho=>absurd (h.own ho).1 (Nat.lt_irrefl _)⟩
end
end Go.Proofs.YtjdhnoffoknlnaaGreatDoor
namespace Go.Proofs.YtjdhnoffoknlnaaGreatDoor
open Go.RowKit
def fieldOff (P:Program) (s f:Nat):Option Nat:=match P.underlying s with
 | some (.struct fs)=>match fs[f]? with
  | some fl=>match P.info? fl.type with
   | some i=>if i.size=0 then none else some fl.offset
   | none=>none
  | none=>none
 | _=>none
def fieldTy (P:Program) (s f:Nat):Option (Nat×Nat):=match P.underlying s with
 | some (.struct fs)=>match fs[f]? with
  | some fl=>some (fl.offset,fl.type)
  | none=>none
 | _=>none
def sizeT (P:Program) (t:Nat):Option (Bool×Nat):=match P.underlying t with
 | some (.struct _)|some (.array _ _)=>(P.info? t).map fun i=>(true,i.size)
 | some _=>(P.info? t).map fun i=>(false,i.size)
 | none=>none
def elemT (P:Program) (t:Nat):Option (Nat×Nat):=match P.underlying t with
 | some (.slice e)=>(P.info? e).map fun i=>(e,i.size)
 | _=>none
def arrT (P:Program) (t:Nat):Option (Nat×Nat):=match P.underlying t with
 | some (.array n e)=>(P.info? e).map fun i=>(n,i.size)
 | _=>none
def rowT (P:Program) (t:Nat):Option (Nat×Nat×Nat):=match P.underlying t with
 | some (.slice e)=>match P.info? e with
  | some i=>match i.zero with
   | some z=>if z.cells.size=i.size∧0 < i.size then some (e,i.size,i.bytes) else none
   | none=>none
  | none=>none
 | _=>none
def isSlT (P:Program) (t:Nat):Bool:=match P.underlying t with|some (.slice _)=>true|_=>false
def isStrT (P:Program) (t:Nat):Bool:=match P.underlying t with|some .string=>true|_=>false
def cv:Value→SV
 | .bool b=>.t (.bool b)
 | .int k n=>.t (.int k n)
 | .string s=>.t (.str s)
 | .slice none 0 0=>.nil
 | v=>match flatV v with
  | true=>.t (.lit v)
  | false=>.dead
def evE (env:Env):Operand→SV
 | .tmp t=>env t
 | .const v=>cv v
 | .func f=>.t (.fn (.func f) 0 [])
 | .global _=>.dead
def un:SV→SV
 | .yes s=>s
 | s=>s
def rd (env:Env) (y:Operand):SV:=un (evE env y)
def upd (e:Env) (d:Nat) (v:SV):Env:=fun t=>match Nat.beq t d with|true=>v|false=>e t
def updO (e:Env) (d:Option Nat) (v:SV):Env:=match d with|some d=>upd e d v|none=>e
def cndv (W:Bool) (s:SV):SV:=match W with|true=>.yes s|false=>.no
def gSlot (want:Bool):SV→Option Bool
 | .t (.bool b)=>some (b == want)
 | .yes (.t (.bool b))=>some (b == want)
 | .no=>some false
 | _=>none
def gOf (ops:Array Oper) (env:Env) (j:Nat) (want:Bool):Option Bool:=
 match (ops[j]?).bind (·.dst) with
 | some d=>gSlot want (env d)
 | none=>none
def purs:List SV→Option (List AV)
 | []=>some []
 | .t x::r=>match purs r with
  | some xs=>some (x::xs)
  | none=>none
 | _::_=>none
def pursN:List SV→Option (List AV)
 | []=>some []
 | .t x::r=>match pursN r with
  | some xs=>some (x::xs)
  | none=>none
 | .nil::r=>match pursN r with
  | some xs=>some (.arr []::xs)
  | none=>none
 | .tc es::r=>match pursN r with
  | some xs=>some (.arr es::xs)
  | none=>none
 | .nn es::r=>match pursN r with
  | some xs=>some (.arr es::xs)
  | none=>none
 | _::_=>none
def aggS (cs:List SV):SV:=match purs cs with
 | some xs=>.t (.agg xs)
 | none=>.agg cs
def fnS (f:Fn) (nf:Nat) (cs:List SV):SV:=match pursN cs with
 | some xs=>.t (.fn f nf xs)
 | none=>.fn f nf cs
def lvOf (fr:Fr) (i sz a n:Nat):Option (List (List AV)):=match fr[i]? with
 | some (.row _ _ sz' es)=>match Nat.beq sz sz' && Nat.ble (a+n) es.length with
  | true=>some ((es.drop a).take n)
  | false=>none
 | _=>none
def slOf (fr:Fr):SV→Option (List (List AV))
 | .t (.arr es)=>some es
 | .nil=>some []
 | .tc es=>some es
 | .nn es=>some es
 | .ls i=>match fr[i]? with
  | some (.row _ _ _ es)=>some es
  | _=>none
 | .lv i sz a n=>lvOf fr i sz a n
 | _=>none
def treeAt:AV→List Nat→Option AV
 | x,[]=>some x
 | .arr fs,k::p=>match fs[k]? with
  | some [y]=>treeAt y p
  | _=>none
 | _,_::_=>none
def ownAt (fr:Fr) (i:Nat) (p:List Nat):Option (List (List AV)):=match fr[i]? with
 | some (.own _ x)=>match treeAt x p with
  | some (.arr fs)=>some fs
  | _=>none
 | _=>none
def setAt:AV→List Nat→Nat→AV→AV
 | .arr fs,[],k,y=>.arr (fs.set k [y])
 | .arr fs,q::p,k,y=>match fs[q]? with
  | some [z]=>.arr (fs.set q [setAt z p k y])
  | _=>.arr fs
 | x,_,_,_=>x
mutual
def toAV (fr:Fr):Nat→SV→Option AV
 | 0,_=>none
 | n+1,s=>match s with
  | .t x=>some x
  | .nil=>some (.arr [])
  | .tc es=>some (.arr es)
  | .nn es=>some (.arr es)
  | .ls i=>match fr[i]? with
   | some (.row _ _ _ es)=>some (.arr es)
   | _=>none
  | .lv i sz a k=>match lvOf fr i sz a k with
   | some es=>some (.arr es)
   | none=>none
  | .lp i j=>match fr[i]? with
   | some (.box _ _ cs)=>match toAVL fr n (cs.drop j) with
    | some (x::xs)=>some (.tp (x::xs))
    | _=>none
   | _=>none
  | .agg cs=>match toAVL fr n cs with
   | some xs=>some (.agg xs)
   | none=>none
  | .tup cs=>match toAVL fr n cs with
   | some xs=>some (.tup xs)
   | none=>none
  | .fn f nf cs=>match toAVL fr n cs with
   | some xs=>some (.fn f nf xs)
   | none=>none
  | .lm i=>match fr[i]? with
   | some (.map _ ks vs)=>match toAVL fr n vs with
    | some xs=>some (.mp ks xs)
    | none=>none
   | _=>none
  | .lo i p=>match fr[i]? with
   | some (.own _ x)=>treeAt x p
   | _=>none
  | _=>none
def toAVL (fr:Fr):Nat→List SV→Option (List AV)
 | 0,_=>none
 | _+1,[]=>some []
 | n+1,c::cs=>match toAV fr n c,toAVL fr n cs with
  | some x,some xs=>some (x::xs)
  | _,_=>none
end
def eqF (step:Nat→List AV→List AV→Option Bool) (P:Program) (xs ys:List AV):List Field→Option Bool
 | []=>some true
 | f :: fs => match f.name == "_" with
  | true=>none
  | false=>match sizeT P f.type with
   | none=>none
   | some (ag,n)=>match Nat.ble (f.offset+n) xs.length && Nat.ble (f.offset+n) ys.length && (ag || Nat.beq n 1) with
    | false=>none
    | true=>match step f.type ((xs.drop f.offset).take n) ((ys.drop f.offset).take n),eqF step P xs ys fs with
     | some r,some q=>some (r && q)
     | _,_=>none
def eqLeaf:TypeDesc→List AV→List AV→Option Bool
 | .int _,[.int k a],[.int k' b]=>if k=k' then some (decide (a=b)) else none
 | .bool,[.bool a],[.bool b]=>some (a == b)
 | .string,[.str a],[.str b]=>some (a == b)
 | _,_,_=>none
def eqC (P:Program):Nat→Nat→List AV→List AV→Option Bool
 | 0,_,_,_=>none
 | d+1,t,xs,ys=>match P.underlying t with
  | some (.struct fs)=>match P.stoodInHeld t with
   | false=>eqF (eqC P d) P xs ys fs.toList
   | true=>none
  | some u=>eqLeaf u xs ys
  | none=>none
def intS (b:BinOp) (k:IntKind) (m n:Int):Option AV:=match b with
 | .lss=>some (.bool (decide (m < n)))
 | .leq=>some (.bool (decide (m≤n)))
 | .gtr=>some (.bool (decide (n < m)))
 | .geq=>some (.bool (decide (n≤m)))
 | .eql=>some (.bool (decide (m=n)))
 | .neq=>some (.bool (!decide (m=n)))
 | .add=>some (.int k (k.wrap (m+n)))
 | .sub=>some (.int k (k.wrap (m - n)))
 | .mul=>some (.int k (k.wrap (m * n)))
 | .quo=>if n=0 then none else some (.int k (k.wrap (m.tdiv n)))
 | .rem=>if n=0 then none else some (.int k (m.tmod n))
 | .shr=>if n=1 then some (.int k (m.fdiv 2)) else none
 | _=>none
def strS (b:BinOp) (x y:ByteArray):Option AV:=match b with
 | .eql=>some (.bool (decide (x=y)))
 | .neq=>some (.bool (!decide (x=y)))
 | .add=>if x.size+y.size≤9223372036854775807 then some (.str (x++y)) else none
 | _=>none
def boolS (b:BinOp) (x y:Bool):Option AV:=match b with
 | .eql=>some (.bool (x == y))
 | .neq=>some (.bool (!(x == y)))
 | _=>none
def sameS (b:BinOp) (same:Bool):Option AV:=match b with
 | .eql=>some (.bool same)
 | .neq=>some (.bool (!same))
 | _=>none
def aggEq (P:Program) (b:BinOp) (t:Nat) (cs ds:List AV):Option AV:=match P.eqGuardType P.depth t with
 | true=>none
 | false=>match sizeT P t with
  | some (true,_)=>match eqC P 20 t cs ds with
   | some r=>sameS b r
   | none=>none
  | _=>none
def isBoolT (P:Program) (t:Nat):Bool:=match P.underlying t with|some .bool=>true|_=>false
def ptrT (P:Program) (t:Nat):Bool:=match P.underlying t with|some (.pointer _)=>true|_=>false
def ifT (P:Program) (t:Nat):Bool:=match P.underlying t with|some (.interface _)=>true|_=>false
def isK:Operand→Bool
 | .const _=>true
 | _=>false
def binS (P:Program) (b:BinOp) (xt:Nat) (k:Bool):SV→SV→Option AV
 | .t (.int k m),.t (.int k' n)=>if k=k' then intS b k m n else none
 | .t (.bool x),.t (.bool y)=>match isBoolT P xt with|true=>boolS b x y|false=>none
 | .t (.str x),.t (.str y)=>strS b x y
 | .t (.agg cs),.t (.agg ds)=>aggEq P b xt cs ds
 | .t (.tp _),.t (.lit (.pointer none))=>match ptrT P xt with|true=>sameS b false|false=>none
 | .lp _ _,.t (.lit (.pointer none))=>match ptrT P xt with|true=>sameS b false|false=>none
 | .le _ _ _ _,.t (.lit (.pointer none))=>match ptrT P xt with|true=>sameS b false|false=>none
 | .t (.lit (.pointer none)),.t (.lit (.pointer none))=>match ptrT P xt with|true=>sameS b true|false=>none
 | .t (.lit .nilIface),.t (.lit .nilIface)=>match ifT P xt && k with|true=>sameS b true|false=>none
 | .t .ifn,.t (.lit .nilIface)=>match ifT P xt with|true=>sameS b false|false=>none
 | .nil,.nil=>match isSlT P xt with|true=>sameS b true|false=>none
 | .t (.arr (_::_)),.nil=>match isSlT P xt with|true=>sameS b false|false=>none
 | .nn _,.nil=>match isSlT P xt with|true=>sameS b false|false=>none
 | .tc (_::_),.nil=>match isSlT P xt with|true=>sameS b false|false=>none
 | _,_=>none
def binO (P:Program) (fr:Fr) (b:BinOp) (xt:Nat):SV→SV→Option AV
 | .ls i,.nil=>match isSlT P xt with
  | true=>match fr[i]? with
   | some (.row _ _ _ (_::_))=>sameS b false
   | _=>none
  | false=>none
 | .lv _ _ _ (_+1),.nil=>match isSlT P xt with|true=>sameS b false|false=>none
 | _,_=>none
def loadS (P:Program) (fr:Fr) (t:Nat) (x:SV):Option SV:=match sizeT P t with
 | none=>none
 | some (ag,n)=>match x with
  | .t (.tp cs)=>match ag with
   | false=>match cs[0]? with
    | some c=>some (.t c)
    | none=>none
   | true=>match Nat.beq n cs.length with
    | true=>some (.t (.agg cs))
    | false=>match Nat.ble n cs.length with
     | true=>some (.t (.agg (cs.take n)))
     | false=>none
  | .lp i j=>match fr[i]? with
   | some (.box _ _ cs)=>match ag with
    | false=>cs[j]?
    | true=>match Nat.ble (j+n) cs.length with
     | true=>some (aggS ((cs.drop j).take n))
     | false=>none
   | _=>none
  | .le i sz k j=>match fr[i]? with
   | some (.row _ _ sz' es)=>match Nat.beq sz sz' with
    | true=>match es[k]? with
     | some cs=>match ag with
      | false=>match cs[j]? with
       | some c=>some (.t c)
       | none=>none
      | true=>match Nat.ble (j+n) cs.length with
       | true=>some (.t (.agg ((cs.drop j).take n)))
       | false=>none
     | none=>none
    | false=>none
   | _=>none
  | .lr i p k=>match ownAt fr i p with
   | some fs=>match ag,fs[k]? with
    | false,some [.arr _]=>some (.lo i (p++[k]))
    | false,some [.int kk m]=>some (.t (.int kk m))
    | _,_=>none
   | none=>none
  | _=>none
def fieldAddrS (P:Program) (st f:Nat) (x:SV):Option SV:=match fieldOff P st f with
 | none=>none
 | some off=>match x with
  | .t (.tp cs)=>match cs.drop off with
   | c::r=>some (.t (.tp (c::r)))
   | []=>none
  | .lp i j=>some (.lp i (j+off))
  | .le i sz k j=>some (.le i sz k (j+off))
  | _=>none
def fieldS (P:Program) (st f:Nat) (x:SV):Option SV:=match fieldTy P st f with
 | none=>none
 | some (off,ft)=>match sizeT P ft with
  | none=>none
  | some (ag,n)=>match x with
   | .t (.agg cs)=>match ag with
    | false=>match cs[off]? with
     | some c=>some (.t c)
     | none=>none
    | true=>match Nat.ble (off+n) cs.length with
     | true=>some (.t (.agg ((cs.drop off).take n)))
     | false=>none
   | .agg cs=>match ag with
    | false=>cs[off]?
    | true=>match Nat.ble (off+n) cs.length with
     | true=>some (aggS ((cs.drop off).take n))
     | false=>none
   | _=>none
def inB (m:Int) (n:Nat):Bool:=decide (0≤m) && Nat.blt m.toNat n
def elemAt (sz:Nat) (es:List (List AV)) (m:Int):Option SV:=match decide (0≤m) with
 | false=>none
 | true=>match es[m.toNat]? with
  | some (c::cs)=>match Nat.beq sz (cs.length+1) with
   | true=>some (.t (.tp (c::cs)))
   | false=>none
  | _=>none
def indexAddrS (P:Program) (fr:Fr) (t:Nat) (x i:SV):Option SV:=match elemT P t with
 | some (_,sz)=>match i with
  | .t (.int _ m)=>match x with
   | .t (.arr es)=>elemAt sz es m
   | .tc es=>elemAt sz es m
   | .nn es=>elemAt sz es m
   | .ls r=>match fr[r]? with
    | some (.row _ _ sz' es)=>match Nat.beq sz sz' with
     | true=>match inB m es.length with
      | true=>some (.le r sz m.toNat 0)
      | false=>none
     | false=>none
    | _=>none
   | .lv r sz' a n=>match lvOf fr r sz' a n with
    | some _=>match Nat.beq sz sz' && inB m n with
     | true=>some (.le r sz (a+m.toNat) 0)
     | false=>none
    | none=>none
   | .lo r p=>match ownAt fr r p with
    | some fs=>match Nat.beq sz 1 && inB m fs.length with
     | true=>some (.lr r p m.toNat)
     | false=>none
    | none=>none
   | _=>none
  | _=>none
 | none=>match arrT P t with
  | some (n,sz)=>match i with
   | .t (.int _ m)=>match inB m n with
    | false=>none
    | true=>match x with
     | .t (.tp cs)=>match cs.drop (m.toNat * sz) with
      | c::r=>some (.t (.tp (c::r)))
      | []=>none
     | .lp b j=>some (.lp b (j+m.toNat * sz))
     | _=>none
   | _=>none
  | none=>none
def indexS (P:Program) (t:Nat) (x i:SV):Option SV:=match x,i with
 | .t (.str s),.t (.int _ m)=>match isStrT P t with
  | true=>match decide (0≤m) with
   | true=>match s[m.toNat]? with
    | some b=>some (.t (.int .u8 b.toNat))
    | none=>none
   | false=>none
  | false=>none
 | _,_=>none
def leafD:TypeDesc→Bool
 | .int _=>true
 | .bool=>true
 | .string=>true
 | _=>false
def mapT (P:Program) (t:Nat):Option (Nat×TypeDesc):=match P.underlying t with
 | some (.map k e)=>match P.underlying k with
  | some d=>match leafD d with
   | true=>some (e,d)
   | false=>none
  | none=>none
 | _=>none
def findA (d:TypeDesc) (k:AV):List AV→Nat→Option (Option Nat)
 | [],_=>some none
 | e::es,i=>match eqLeaf d [k] [e] with
  | some true=>some (some i)
  | some false=>findA d k es (i+1)
  | none=>none
def zvS:Value→SV
 | .agg us=>aggS (us.toList.map cv)
 | z=>cv z
def zeroS (P:Program) (e:Nat):Option SV:=match P.info? e with
 | some i=>match i.zero with
  | some z=>some (zvS z)
  | none=>none
 | none=>none
def mapOf (fr:Fr):SV→Option (List AV×List SV)
 | .t (.mp ks vs)=>some (ks,vs.map .t)
 | .lm i=>match fr[i]? with
  | some (.map _ ks vs)=>some (ks,vs)
  | _=>none
 | .t (.lit (.map none))=>some ([],[])
 | _=>none
def okS (ok:Bool) (x:SV) (b:Bool):SV:=match ok with
 | true=>.tup [x,.t (.bool b)]
 | false=>x
def flatFs (P:Program) (n:Nat):List Field→Bool
 | []=>true
 | f :: fs => match f.name == "_" with
  | true=>false
  | false=>match P.underlying f.type,sizeT P f.type with
   | some d,some (false,1)=>match leafD d && Nat.ble (f.offset+1) n with
    | true=>flatFs P n fs
    | false=>false
   | _,_=>false
def mapTS (P:Program) (t:Nat):Option (Nat×Nat×Nat):=match P.underlying t with
 | some (.map k e)=>match P.underlying k with
  | some (.struct fs)=>match sizeT P k with
   | some (true,n)=>match flatFs P n fs.toList with
    | true=>some (e,k,n)
    | false=>none
   | _=>none
  | _=>none
 | _=>none
def findS (P:Program) (kt:Nat) (cs:List AV):List AV→Nat→Option (Option Nat)
 | [],_=>some none
 | e::es,i=>match e with
  | .agg ds=>match eqC P 20 kt cs ds with
   | some true=>some (some i)
   | some false=>findS P kt cs es (i+1)
   | none=>none
  | _=>none
def lookupA (P:Program) (fr:Fr) (t:Nat) (x key:SV) (ok:Bool):Option SV:=match mapTS P t with
 | none=>none
 | some (e,kt,n)=>match key with
  | .t (.agg cs)=>match Nat.beq cs.length n with
   | false=>none
   | true=>match mapOf fr x with
    | none=>none
    | some (ks,vs)=>match findS P kt cs ks 0 with
     | none=>none
     | some (some i)=>match vs[i]? with
      | some v=>some (okS ok v true)
      | none=>none
     | some none=>match zeroS P e with
      | some z=>some (okS ok z false)
      | none=>none
  | _=>none
def lookupS (P:Program) (fr:Fr) (t:Nat) (x key:SV) (ok:Bool):Option SV:=match mapT P t with
 | none=>lookupA P fr t x key ok
 | some (e,d)=>match key with
  | .t ka=>match mapOf fr x with
   | none=>none
   | some (ks,vs)=>match findA d ka ks 0 with
    | none=>none
    | some (some i)=>match vs[i]? with
     | some v=>some (okS ok v true)
     | none=>none
    | some none=>match zeroS P e with
     | some z=>some (okS ok z false)
     | none=>none
  | _=>none
def boundS (x:Option SV) (d y:Nat):Option Nat:=match x with
 | none=>some d
 | some (.t (.int _ m))=>match decide (0≤m) && Nat.ble m.toNat y with
  | true=>some m.toNat
  | false=>none
 | _=>none
def treeSl:SV→Option (List (List AV))
 | .t (.arr es)=>some es
 | .tc es=>some es
 | .nn es=>some es
 | .nil=>some []
 | _=>none
def cutS (lo hi:Option SV) (n:Nat):Option (Nat×Nat):=match boundS hi n n with
 | none=>none
 | some h=>match boundS lo 0 h with
  | none=>none
  | some l=>some (l,h)
def okSz (sz:Nat):List (List AV)→Bool
 | []=>true
 | e::_=>Nat.beq e.length sz
def sliceS (P:Program) (t:Nat) (x:SV) (lo hi mx:Option SV):Option SV:=match mx with
 | some _=>none
 | none=>match x with
  | .t (.str s)=>match isStrT P t with
   | false=>none
   | true=>match cutS lo hi s.size with
    | some (l,h)=>some (.t (.str (s.extract l h)))
    | none=>none
  | x=>match elemT P t with
   | none=>none
   | some (_,sz)=>match treeSl x with
    | none=>none
    | some es=>match okSz sz es with
     | false=>none
     | true=>match cutS lo hi es.length with
      | some (l,h)=>some (.t (.arr ((es.take h).drop l)))
      | none=>none
def viewS (r sz a n len:Nat) (lo hi:Option SV):Option SV:=match cutS lo hi n with
 | some (l,h)=>match Nat.beq (a+l) 0 && Nat.beq h len with
  | true=>some (.ls r)
  | false=>match Nat.beq (h - l) 0 && Nat.blt 0 (a+l) with
   | true=>some (.t (.arr []))
   | false=>some (.lv r sz (a+l) (h - l))
 | none=>none
def sliceO (P:Program) (fr:Fr) (t:Nat) (x:SV) (lo hi mx:Option SV):Option SV:=match mx with
 | some m=>match elemT P t with
  | none=>none
  | some (_,sz)=>match x,lo,hi,m with
   | .ls r,some (.t (.int _ l)),some (.t (.int _ h)),.t (.int _ m)=>match fr[r]? with
    | some (.row _ _ sz' es)=>match Nat.beq sz sz' && (decide (0≤l) && (decide (l≤h) && (decide (h≤m) && decide (m≤(es.length:Int))))) with
     | true=>some .dead
     | false=>none
    | _=>none
   | _,_,_,_=>none
 | none=>match elemT P t with
  | none=>none
  | some (_,sz)=>match x with
   | .ls r=>match fr[r]? with
    | some (.row _ _ sz' es)=>match Nat.beq sz sz' with
     | true=>viewS r sz 0 es.length es.length lo hi
     | false=>none
    | _=>none
   | .lv r sz1 a n=>match fr[r]? with
    | some (.row _ _ sz' es)=>match Nat.beq sz sz' && (Nat.beq sz1 sz && Nat.ble (a+n) es.length) with
     | true=>viewS r sz a n es.length lo hi
     | false=>none
    | _=>none
   | _=>none
def extractS (x:SV) (i:Nat):Option SV:=match x with
 | .tup cs=>cs[i]?
 | .t (.tup xs)=>match xs[i]? with
  | some x=>some (.t x)
  | none=>none
 | _=>none
def isMpT (P:Program) (t:Nat):Bool:=match P.underlying t with
 | some (.map _ _)=>true
 | _=>false
def mapLen (P:Program) (fr:Fr) (t:Nat):SV→Option SV
 | .lm i=>match isMpT P t,fr[i]? with
  | true,some (.map _ ks _)=>some (.t (.int .i64 ks.length))
  | _,_=>none
 | _=>none
def lenS (P:Program) (fr:Fr) (t:Option Nat) (x:SV):Option SV:=match t with
 | none=>none
 | some t=>match x with
  | .t (.str s)=>match isStrT P t with
   | true=>some (.t (.int .i64 s.size))
   | false=>none
  | x=>match isSlT P t with
   | true=>match slOf fr x with
    | some es=>some (.t (.int .i64 es.length))
    | none=>none
   | false=>mapLen P fr t x
def nilCheckS:SV→Option SV
 | .t (.tp cs)=>some (.t (.tp cs))
 | .lp i j=>some (.lp i j)
 | .le i sz k j=>some (.le i sz k j)
 | .lr i p k=>some (.lr i p k)
 | _=>none
def unS (b:UnOp):SV→Option SV
 | .t (.bool x)=>match b with|.not=>some (.t (.bool (!x)))|_=>none
 | .t (.int k n)=>match b with|.neg=>some (.t (.int k (k.wrap (0 - n))))|_=>none
 | _=>none
def cellsS:SV→List SV
 | .agg cs=>cs
 | .t (.agg cs)=>cs.map .t
 | x=>[x]
def oneS:SV→Bool
 | .t (.agg _)|.t (.tup _)|.agg _|.tup _|.yes _|.no|.dead=>false
 | _=>true
def putS (cs:List SV) (j:Nat):List SV→List SV
 | []=>cs
 | x::xs=>putS (cs.set j x) (j+1) xs
def zeroT (P:Program) (T:Nat):Option (List SV):=((P.info? T).bind (·.zero)).map fun z=>z.cells.toList.map cv
def fillS (place:Nat→Option (Nat×Nat)) (cells:List SV):List (Nat×SV)→Option (List SV)
 | []=>some cells
 | (i,x)::rest=>
  match place i with
  | none=>none
  | some (off,size)=>if (cellsS x).length=size∧off+size≤cells.length then fillS place (putS cells off (cellsS x)) rest else none
def builtS (P:Program) (t:TypeId) (parts:List (Nat×SV)):Option (List SV):=
 match zeroT P t,P.underlying t with
 | some z,some (.struct fields)=>
  match fields.toList.mapM (fun f=>(P.info? f.type).map fun i=>(f.offset,i.size)) with
  | some places=>fillS (places.toArray[·]?) z parts
  | none=>none
 | some z,some (.array _ e)=>
  match P.info? e with
  | some ie=>fillS (fun i=>some (i * ie.size,ie.size)) z parts
  | none=>none
 | _,_=>none
def chunk (sz:Nat):Nat→List SV→Option (List (List AV))
 | 0,[]=>some []
 | 0,_::_=>none
 | n+1,cs=>match pursN (cs.take sz) with
  | some xs=>if xs.length=sz then (chunk sz n (cs.drop sz)).map (xs::·) else none
  | none=>none
def builtSl (P:Program) (t len:Nat) (parts:List (Nat×SV)):Option (List (List AV)):=
 match P.underlying t with
 | some (.slice e)=>match P.info? e with
  | some i=>match i.zero with
   | some z=>if z.cells.size=i.size∧0 < i.size∧len * i.size≤16777216 then
     (fillS (fun k=>some (k * i.size,i.size)) ((List.range (len * i.size)).map fun q=>cv (z.cells.getD (q % i.size) undef)) parts).bind (chunk i.size len)
    else none
   | none=>none
  | none=>none
 | _=>none
def builtinP (P:Program) (fr:Fr) (env:Env):Callee→List Operand→Array TypeId→Option SV
 | .builtin b,[y],tys=>match b with
  | .len=>lenS P fr tys[0]? (rd env y)
  | _=>none
 | .builtin b,[x,y],_=>match rd env x,rd env y with
  | .t (.int .i64 m),.t (.int .i64 n)=>match b with
   | .max=>some (.t (.int .i64 (max m n)))
   | .min=>some (.t (.int .i64 (min m n)))
   | _=>none
  | _,_=>none
 | _,_,_=>none
def convS (P:Program) (s d:Nat):SV→Option SV
 | .t (.int _ n)=>match P.underlying s,P.underlying d with
  | some _,some (.int k)=>some (.t (.int k (k.wrap n)))
  | _,_=>none
 | .t (.str x)=>match P.underlying s,P.underlying d with
  | some _,some .string=>some (.t (.str x))
  | _,_=>none
 | _=>none
def evP (P:Program) (fr:Fr) (env:Env):Op→Option SV
 | .move x=>some (rd env x)
 | .assign x=>some (rd env x)
 | .pick c a b=>match rd env c with
  | .t (.bool true)=>some (rd env a)
  | .t (.bool false)=>some (rd env b)
  | _=>none
 | .load t y=>loadS P fr t (rd env y)
 | .nilCheck y=>nilCheckS (rd env y)
 | .binOp b xt x y _=>match binS P b xt (isK x || isK y) (rd env x) (rd env y) with
  | some r=>some (.t r)
  | none=>match binO P fr b xt (rd env x) (rd env y) with
   | some r=>some (.t r)
   | none=>none
 | .unOp b _ x=>unS b (rd env x)
 | .fieldAddr st y f=>fieldAddrS P st f (rd env y)
 | .field st y f=>fieldS P st f (rd env y)
 | .indexAddr t x i=>indexAddrS P fr t (rd env x) (rd env i)
 | .index t x i=>indexS P t (rd env x) (rd env i)
 | .extract x i=>extractS (rd env x) i
 | .lookup t x k ok=>lookupS P fr t (rd env x) (rd env k) ok
 | .slice t x lo hi mx=>match sliceS P t (rd env x) (lo.map (rd env)) (hi.map (rd env)) (mx.map (rd env)) with
  | some y=>some y
  | none=>sliceO P fr t (rd env x) (lo.map (rd env)) (hi.map (rd env)) (mx.map (rd env))
 | .makeFunc f first caps=>match ((first++caps).toList.map (rd env)).all oneS with
  | true=>some (fnS f first.size ((first++caps).toList.map (rd env)))
  | false=>none
 | .build t parts=>match (parts.toList.all fun p=>(cellsS (rd env p.2)).all oneS) with
  | true=>match builtS P t (parts.toList.map fun p=>(p.1,rd env p.2)) with
   | some cs=>some (aggS cs)
   | none=>none
  | false=>none
 | .buildSlice t len parts=>match (parts.toList.all fun p=>(cellsS (rd env p.2)).all oneS) with
  | true=>match builtSl P t len (parts.toList.map fun p=>(p.1,rd env p.2)) with
   | some es=>some (.tc es)
   | none=>none
  | false=>none
 | .call c=>builtinP P fr env c.callee c.args.toList c.argTypes
 | .convert s d x=>convS P s d (rd env x)
 | _=>none
end Go.Proofs.YtjdhnoffoknlnaaGreatDoor
namespace Go.Proofs.YtjdhnoffoknlnaaGreatDoor
open Go.RowKit
def OpTo (P:Program) (o:Oper) (a:Act) (w:World) (R:Value→World→Prop):Prop:=
 match (execOp a.eval o).run P w with
 | .ok (.value v) w'=>R v w'
 | .ok .skip w'=>R undef w'
 | .ok (.enter f args) w'=>Calls P f args w' fun e w''=>∃ v,e=.returned v∧R v w''
 | _=>False
def Fw (rd:Option Nat):Fence:={ Fence.wide with round:=rd }
theorem callsIn_fw {rd:Option Nat} {n:Nat} {P:Program} {f:FuncId} {args:Array Value} {w:World} {R:Ending→World→Prop} (h:Calls P f args w R):CallsIn (Fw rd) n P f args w R:=by
 have h1:CallsIn Fence.wide n P f args w R:=callsIn_wide.2 h
 cases rd with
 | none=>exact h1
 | some l=>exact h1.inRound l
theorem OpTo.wpIn {P:Program} {o:Oper} {a:Act} {w:World} {R:Value→World→Prop} {K:Act→World→Prop} {Q:Exit→Act→World→Prop} {rd:Option Nat} {dn:Nat} (h:OpTo P o a w R) (hK:∀ v w',R v w'→K (a.put o.dst v) w'):o.wpIn (Fw rd) dn P a w K Q:=by
 refine ⟨fun _ _=>trivial,?_⟩
 have e:o.semAt (Fw rd).round a.eval=execOp a.eval o:=by
  refine Oper.semAt_eq _ _ _ fun c hc=>?_
  unfold OpTo at h
  have:(execOp a.eval o).run P w=(execOp a.eval o).run P w:=rfl
  revert h
  unfold execOp
  rw [hc]
  simp only
  cases hx:(resolve a.eval c o.type).run P w <;> simp [Sem.run_bind,hx,pure,Sem.run]
 rw [e]
 unfold OpTo at h
 generalize (execOp a.eval o).run P w=r at *
 cases r with
 | ok n w'=>
  cases n <;> simp only [Oper.uponIn] at h ⊢
  case value v=>exact hK _ _ h
  case skip=>exact hK _ _ h
  case enter f args=>exact ⟨fun hd=>(by cases rd <;> cases hd),callsIn_fw (Calls.mono h fun e w'' ⟨v,he,hr⟩=>by subst he;exact hK _ _ hr)⟩
 | halt x w'=>exact h.elim
theorem OpTo.mono {P:Program} {o:Oper} {a:Act} {w:World} {R R':Value→World→Prop} (h:OpTo P o a w R) (hR:∀ v w',R v w'→R' v w'):OpTo P o a w R':=by
 unfold OpTo at *
 generalize (execOp a.eval o).run P w=r at *
 cases r with
 | ok n w'=>
  cases n <;> simp only at h ⊢
  case value v=>exact hR _ _ h
  case skip=>exact hR _ _ h
  case enter f args=>exact Calls.mono h fun e w'' ⟨v,he,hr⟩=>⟨v,he,hR _ _ hr⟩
 | halt x w'=>exact h.elim
section
variable {P:Program} {A:Nat→Prop} {L:Ls} {w:World} {o:Oper} {a:Act}
theorem OpTo.value {v:Value} {R:Value→World→Prop} (h:(execOp a.eval o).run P w=.ok (.value v) w) (hR:R v w):OpTo P o a w R:=by
 unfold OpTo;rw [h];exact hR
theorem OpTo.value' {w':World} {v:Value} {R:Value→World→Prop} (h:(execOp a.eval o).run P w=.ok (.value v) w') (hR:R v w'):OpTo P o a w R:=by
 unfold OpTo;rw [h];exact hR
theorem OpTo.enter {f:FuncId} {args:Array Value} {R:Value→World→Prop} (h:(execOp a.eval o).run P w=.ok (.enter f args) w) (hR:Calls P f args w fun e w''=>∃ v,e=.returned v∧R v w''):OpTo P o a w R:=by
 unfold OpTo;rw [h];exact hR
theorem cv_ok (v:Value):SR A L w (cv v) v:=by
 unfold cv
 split
 ·exact .t _ _ (.bool _)
 ·exact .t _ _ (.int _ _)
 ·exact .t _ _ (.str _)
 ·exact .nil
 ·split
  ·rename_i h;exact .t _ _ (.lit _ h)
  ·exact .dead _
theorem evE_ok {env:Env} {a:Act} (h:∀ t,SR A L w (env t) (a.tmps.getD t undef)) (x:Operand):SR A L w (evE env x) (a.eval x):=by
 cases x with
 | tmp t=>exact h t
 | const v=>exact cv_ok v
 | global g=>exact .dead _
 | func f=>exact .t _ _ (.fn _ [] #[] #[] rfl (fun j x u hx _=>by simp at hx))
theorem un_ok {s:SV} {v:Value} (h:SR A L w s v):SR A L w (un s) v:=by
 unfold un
 split
 ·cases h with|yes _ _ h=>exact h
 ·exact h
theorem rd_ok {env:Env} {y:Operand} {v:Value} (h:SR A L w (evE env y) v):SR A L w (rd env y) v:=un_ok h
theorem inv_int {k:IntKind} {n:Int} {v:Value} (h:SR A L w (.t (.int k n)) v):v=.int k n:=by cases h with|t _ _ h=>cases h;rfl
theorem inv_bool {b:Bool} {v:Value} (h:SR A L w (.t (.bool b)) v):v=.bool b:=by cases h with|t _ _ h=>cases h;rfl
theorem inv_str {s:ByteArray} {v:Value} (h:SR A L w (.t (.str s)) v):v=.string s:=by cases h with|t _ _ h=>cases h;rfl
theorem inv_lit {u v:Value} (h:SR A L w (.t (.lit u)) v):v=u:=by cases h with|t _ _ h=>cases h;rfl
theorem inv_tp {cs:List AV} {v:Value} (h:SR A L w (.t (.tp cs)) v):∃ (b o:Nat) (us:Nat→Value),v=.pointer (some ⟨b,o,none⟩)∧cs≠[]∧b < w.heap.size∧A b∧(∀ (j:Nat),j < cs.length→w.cell? ⟨b,o+j,none⟩=some (us j))∧∀ (j:Nat) (x:AV),cs[j]?=some x→VR A w x (us j):=by
 cases h with
 | t _ _ h=>cases h with|tp b o cs us h1 h2 h3 h4 h5=>exact ⟨b,o,us,rfl,h1,h2,h3,h4,h5⟩
theorem inv_lp {i j:Nat} {v:Value} (h:SR A L w (.lp i j) v):∃ g,L i=some (.pointer (some ⟨g,0,none⟩))∧v=.pointer (some ⟨g,j,none⟩):=by cases h with|lp _ _ g h=>exact ⟨g,h,rfl⟩
theorem inv_ls {i:Nat} {v:Value} (h:SR A L w (.ls i) v):L i=some v∧plainV v=true:=by cases h with|ls _ _ h hp=>exact ⟨h,hp⟩
theorem inv_le {i sz k j:Nat} {v:Value} (h:SR A L w (.le i sz k j) v):∃ b m c,L i=some (.slice (some ⟨b,0,none⟩) m c)∧v=.pointer (some ⟨b,k * sz+j,none⟩):=by cases h with|le _ _ _ _ b m c h=>exact ⟨b,m,c,h,rfl⟩
theorem inv_lv {i sz a n:Nat} {v:Value} (h:SR A L w (.lv i sz a n) v):∃ b m c,L i=some (.slice (some ⟨b,0,none⟩) m c)∧v=.slice (some ⟨b,a * sz,none⟩) n (c - a):=by cases h with|lv _ _ _ _ b m c h=>exact ⟨b,m,c,h,rfl⟩
theorem subAt_nil (t:Value):subAt t []=some t:=by cases t <;> rfl
theorem subAt_app:∀ (p q:List Nat) (t:Value),subAt t (p++q)=(subAt t p).bind fun t'=>subAt t' q
 | [],q,t=>by rw [subAt_nil];rfl
 | k::p,q,t=>by
  cases t with
  | tuple us=>
   rw [List.cons_append,subAt,subAt]
   cases us[k+1]? with
   | none=>rfl
   | some t=>exact subAt_app p q t
  | _=>rfl
theorem treeAt_nil (x:AV):treeAt x []=some x:=by cases x <;> rfl
theorem OV.at_ {x:AV} {v t:Value} (h:OV w x v t) {p:List Nat} {y:AV} (hy:treeAt x p=some y):∃ v' t',subAt t p=some t'∧OV w y v' t'∧∀ b,Bk t' b→Bk t b:=by
 induction p generalizing x v t with
 | nil=>
  rw [treeAt_nil] at hy
  cases hy
  exact ⟨v,t,subAt_nil t,h,fun _ h=>h⟩
 | cons k p ih=>
  cases h with
  | int=>cases hy
  | arr0=>simp [treeAt] at hy
  | arr b c T cs es fs us ts he hg hl hn hc hu hr h1 h2=>
   rw [treeAt] at hy
   split at hy
   ·rename_i z hz
    rw [he] at hz
    obtain ⟨z',hz',e⟩:=map1_get hz
    cases e
    have hk:k < ts.length:=by rw [hl];exact lt_of_get hz'
    obtain ⟨v',t',e1,e2,e3⟩:=ih (hr k z _ hz' (List.getElem?_eq_getElem hk)) hy
    refine ⟨v',t',?_,e2,fun b hb=>bk_sub (List.getElem?_eq_getElem hk) (e3 b hb)⟩
    rw [subAt]
    simp only [List.getElem?_toArray,List.getElem?_cons_succ,List.getElem?_eq_getElem hk]
    exact e1
   ·cases hy
theorem OV.head {fs:List (List AV)} {v t:Value} (h:OV w (.arr fs) v t):∃ us,t=.tuple us∧us[0]?=some v:=by
 cases h with
 | arr0 a=>exact ⟨_,rfl,rfl⟩
 | arr b c T cs es fs us ts=>exact ⟨_,rfl,by simp⟩
theorem OV.hd {y:AV} {v v' t t':Value} {p:List Nat} (h:OV w y v' t') (hs:subAt t p=some t') (hv:hdAt t p=some v):v=v':=by
 unfold hdAt at hv
 rw [hs] at hv
 cases h with
 | int=>simp at hv
 | arr0 a=>simpa using hv.symm
 | arr b c T cs es fs us ts=>simpa using hv.symm
theorem OV.elem {fs:List (List AV)} {v t:Value} (h:OV w (.arr fs) v t) {k:Nat} {y:AV} (hk:fs[k]?=some [y]):∃ b n c u t',v=.slice (some ⟨b,0,none⟩) n (c+1)∧Bk t b∧w.cell? ⟨b,k,none⟩=some u∧OV w y u t'∧subAt t [k]=some t':=by
 cases h with
 | arr0 a=>simp at hk
 | arr b c T cs es fs us ts he hg hl hn hc hu hr h1 h2=>
  rw [he] at hk
  obtain ⟨z,hz,e⟩:=map1_get hk
  cases e
  have hlt:k < ts.length:=by rw [hl];exact lt_of_get hz
  refine ⟨b,_,c,us k,ts[k],rfl,bk_top,by simp [World.cell?,hg,hu k (lt_of_get hz)],hr k y _ hz (List.getElem?_eq_getElem hlt),?_⟩
  rw [subAt]
  simp only [List.getElem?_toArray,List.getElem?_cons_succ,List.getElem?_eq_getElem hlt]
  exact subAt_nil _
theorem OV.put {w':World} {b k n c:Nat} {kk:IntKind} {m0 m:Int} {fs:List (List AV)} (hoth:∀ b',b'≠b→w'.heap[b']?=w.heap[b']?) (hat:∀ cs T,w.heap[b]?=some (.cells cs T (0,0))→w'.heap[b]?=some (.cells (cs.setIfInBounds k (.int kk m)) T (0,0))):∀ {p:List Nat} {x:AV} {v t:Value},OV w x v t→treeAt x p=some (.arr fs)→fs[k]?=some [.int kk m0]→hdAt t p=some (.slice (some ⟨b,0,none⟩) n c)→OV w' (setAt x p k (.int kk m)) v t
 | [],x,v,t,h,hy,hk,hv=>by
  rw [treeAt_nil] at hy
  cases hy
  have hbk:¬ ∃ a,v=.slice a 0 0∧fs=[]:=fun ⟨_,_,e⟩=>by rw [e] at hk;simp at hk
  have hvv:=(OV.hd h (subAt_nil t) hv).symm
  cases h with
  | arr0 a=>simp at hk
  | arr b0 c0 T cs es fs us ts he hg hl hn hc hu hr h1 h2=>
   cases hvv
   rw [he] at hk ⊢
   obtain ⟨z,hz,e⟩:=map1_get hk
   cases e
   have hlt:=lt_of_get hz
   have:=OV.arr (w:=w') b c0 T (cs.setIfInBounds k (.int kk m)) (es.set k (.int kk m)) ((es.map fun x=>[x]).set k [.int kk m]) (fun q=>if q=k then .int kk m else us q) ts (by rw [List.map_set]) (hat cs T hg) (by rw [List.length_set];exact hl) (by rw [List.length_set];exact hn) (by rw [List.length_set];exact hc) (fun q hq=>by
     rw [List.length_set] at hq
     rw [Array.getElem?_setIfInBounds]
     have hin:=(Array.getElem?_eq_some_iff.1 (hu k hlt)).1
     by_cases e:k=q
     ·subst e;simp [hin]
     ·rw [if_neg e,if_neg (Ne.symm e)];exact hu q hq) (fun q x t hx ht=>by
     by_cases e:q=k
     ·subst e
      rw [List.getElem?_set_self hlt] at hx
      cases hx
      have:=hr q _ t hz ht
      rw [if_pos rfl]
      generalize us q=u at this
      cases this
      exact .int _ _
     ·rw [List.getElem?_set_ne (Ne.symm e)] at hx
      rw [if_neg e]
      exact (hr q x t hx ht).same fun b' hb'=>hoth b' fun e'=>h1 q t ht (e' ▸ hb')) h1 h2
   rw [List.length_set] at this
   exact this
 | q::p,x,v,t,h,hy,hk,hv=>by
  cases h with
  | int=>cases hy
  | arr0=>simp [treeAt] at hy
  | arr b0 c0 T cs es fs0 us ts he hg hl hn hc hu hr h1 h2=>
   rw [treeAt] at hy
   split at hy
   ·rename_i z hz
    rw [setAt]
    simp only [hz]
    rw [he] at hz ⊢
    obtain ⟨z',hz',e⟩:=map1_get hz
    cases e
    have hlt:=lt_of_get hz'
    have htq:q < ts.length:=by omega
    have hv':hdAt ts[q] p=some (.slice (some ⟨b,0,none⟩) n c):=by
     unfold hdAt at hv ⊢
     rw [subAt] at hv
     simp only [List.getElem?_toArray,List.getElem?_cons_succ,List.getElem?_eq_getElem htq] at hv
     exact hv
    have hz0:=hr q z _ hz' (List.getElem?_eq_getElem htq)
    have hbq:Bk ts[q] b:=by
     obtain ⟨v',t',e1,e2,e3⟩:=hz0.at_ hy
     obtain ⟨b',n',c',u,t2,e4,e5,_⟩:=e2.elem hk
     have:=e2.hd e1 hv'
     rw [e4] at this
     cases this
     exact e3 b e5
    have ih:=OV.put hoth hat hz0 hy hk hv'
    have:=OV.arr (w:=w') b0 c0 T cs (es.set q (setAt z p k (.int kk m))) ((es.map fun x=>[x]).set q [setAt z p k (.int kk m)]) us ts (by rw [List.map_set]) ((hoth b0 fun e=>h1 q _ (List.getElem?_eq_getElem htq) (e ▸ hbq)).trans hg) (by rw [List.length_set];exact hl) (by rw [List.length_set];exact hn) (by rw [List.length_set];exact hc) (fun q hq=>by rw [List.length_set] at hq;exact hu q hq) (fun q' x t hx ht=>by
      by_cases e:q'=q
      ·subst e
       rw [List.getElem?_set_self hlt] at hx
       cases hx
       rw [List.getElem?_eq_getElem htq] at ht
       cases ht
       exact ih
      ·rw [List.getElem?_set_ne (Ne.symm e)] at hx
       exact (hr q' x t hx ht).same fun b' hb'=>hoth b' fun e'=>e (h2 q' q t _ b ht (List.getElem?_eq_getElem htq) (e' ▸ hb') hbq)) h1 h2
    rw [List.length_set] at this
    exact this
   ·cases hy
theorem ownAt_spec {fr:Fr} {i:Nat} {p:List Nat} {fs:List (List AV)} (h:ownAt fr i p=some fs):∃ ro x,fr[i]?=some (.own ro x)∧treeAt x p=some (.arr fs):=by
 unfold ownAt at h
 split at h
 ·rename_i ro x hb
  split at h
  ·rename_i fs' hx
   cases h
   exact ⟨ro,x,hb,hx⟩
  ·cases h
 ·cases h
theorem inv_lo {i:Nat} {p:List Nat} {v:Value} (h:SR A L w (.lo i p) v):∃ t,L i=some t∧hdAt t p=some v∧plainV v=true:=by cases h with|lo _ _ t _ h hv hp=>exact ⟨t,h,hv,hp⟩
theorem inv_lq {i:Nat} {p:List Nat} {k:Nat} {v:Value} (h:SR A L w (.lr i p k) v):∃ t b n c,L i=some t∧hdAt t p=some (.slice (some ⟨b,0,none⟩) n c)∧v=.pointer (some ⟨b,k,none⟩):=by cases h with|lr _ _ _ b n c t h hv=>exact ⟨t,b,n,c,h,hv,rfl⟩
theorem lvOf_spec {fr:Fr} {i sz a n:Nat} {es:List (List AV)} (h:lvOf fr i sz a n=some es):∃ ro tch es0,fr[i]?=some (.row ro tch sz es0)∧a+n≤es0.length∧es=(es0.drop a).take n:=by
 unfold lvOf at h
 split at h
 ·rename_i ro tch sz' es0 hb
  split at h
  ·rename_i hc
   rw [Bool.and_eq_true,Nat.ble_eq] at hc
   obtain rfl:sz=sz':=by simpa using hc.1
   cases h
   exact ⟨ro,tch,es0,hb,hc.2,rfl⟩
  ·cases h
 ·cases h
theorem lvOf_len {fr:Fr} {i sz a n:Nat} {es:List (List AV)} (h:lvOf fr i sz a n=some es):es.length=n:=by
 obtain ⟨_,_,es0,_,h1,rfl⟩:=lvOf_spec h
 rw [List.length_take,List.length_drop];omega
theorem sl_tree {s:SV} {es:List (List AV)} {v:Value} (h:SR A L w s v) (hs:s=.t (.arr es)∨s=.tc es∨s=.nn es∨(s=.nil∧es=[])):VR A w (.arr es) v:=by
 rcases hs with rfl|rfl|rfl|⟨rfl,rfl⟩
 ·cases h with|t _ _ h=>exact h
 ·cases h with|tc _ a h=>exact h
 ·cases h with|nn _ a c h=>exact h
 ·cases h;exact .arr0 _ _
theorem vr_slice {es:List (List AV)} {v:Value} (h:VR A w (.arr es) v):∃ q c,v=.slice q es.length c:=by
 cases h with
 | arr0 q c=>exact ⟨q,c,rfl⟩
 | arr b o c=>exact ⟨_,c,rfl⟩
theorem addr_add (b o k:Nat):(⟨b,o,none⟩:Addr).add k=⟨b,o+k,none⟩:=by
 unfold Addr.add
 split
 ·rename_i h;subst h;rfl
 ·rfl
theorem run_info {t:Nat} {i:TypeInfo} (h:P.info? t=some i) (w:World):(typeInfo t).run P w=.ok i w:=by simp [typeInfo,program,Sem.run,Sem.run_bind,h,pure]
theorem run_size {t:Nat} {i:TypeInfo} (h:P.info? t=some i) (w:World):(sizeOf t).run P w=.ok i.size w:=by simp [sizeOf,Sem.run_bind,run_info h,pure,Sem.run]
theorem run_zero {T:Nat} {i:TypeInfo} {z:Value} (hi:P.info? T=some i) (hz:i.zero=some z) (w:World):(zeroValue T).run P w=.ok z w:=by simp [zeroValue,Sem.run_bind,run_info hi,hz,pure,Sem.run]
theorem run_isAgg {t n:Nat} {b:Bool} (h:sizeT P t=some (b,n)) (w:World):(isAgg t).run P w=.ok b w∧(sizeOf t).run P w=.ok n w:=by
 unfold sizeT at h
 split at h
 ·rename_i fs hu
  cases hi:P.info? t with
  | none=>rw [hi] at h;cases h
  | some i=>
   rw [hi] at h;cases h
   exact ⟨by simp [isAgg,Sem.run_bind,run_underlying hu,pure,Sem.run],run_size hi w⟩
 ·rename_i n' e hu
  cases hi:P.info? t with
  | none=>rw [hi] at h;cases h
  | some i=>
   rw [hi] at h;cases h
   exact ⟨by simp [isAgg,Sem.run_bind,run_underlying hu,pure,Sem.run],run_size hi w⟩
 ·rename_i d h1 h2 hu
  cases hi:P.info? t with
  | none=>rw [hi] at h;cases h
  | some i=>
   rw [hi] at h;cases h
   refine ⟨?_,run_size hi w⟩
   unfold isAgg
   simp only [Sem.run_bind,run_underlying hu,Result.andThen_ok]
   cases d <;> first|exact absurd rfl (h1 _)|exact absurd rfl (h2 _ _)|rfl
 ·cases h
theorem pursN_ok:∀ {cs:List SV} {xs:List AV},pursN cs=some xs→cs.length=xs.length∧∀ (j:Nat) (s:SV) (x:AV) (v:Value),cs[j]?=some s→xs[j]?=some x→SR A L w s v→VR A w x v
 | [],xs,h=>by cases h;exact ⟨rfl,fun j s x v hs=>by simp at hs⟩
 | c::r,xs,h=>by
  have key:∀ {y:AV},(∀ v,SR A L w c v→VR A w y v)→(match pursN r with|some xs=>some (y::xs)|none=>none)=some xs→(c::r).length=xs.length∧∀ (j:Nat) (s:SV) (x:AV) (v:Value),(c::r)[j]?=some s→xs[j]?=some x→SR A L w s v→VR A w x v:=fun {y} hy h=>by
   cases hr:pursN r with
   | none=>rw [hr] at h;cases h
   | some ys=>
    rw [hr] at h
    cases h
    obtain ⟨h1,h2⟩:=pursN_ok hr
    refine ⟨by simp [h1],fun j s x v hs hx hv=>?_⟩
    cases j with
    | zero=>cases hs;cases hx;exact hy v hv
    | succ j=>exact h2 j s x v (by simpa using hs) (by simpa using hx) hv
  cases c with
  | t x=>exact key (fun v hv=>by cases hv with|t _ _ h=>exact h) h
  | nil=>exact key (fun v hv=>by cases hv;exact .arr0 _ _) h
  | tc es=>exact key (fun v hv=>by cases hv with|tc _ a h=>exact h) h
  | nn es=>exact key (fun v hv=>by cases hv with|nn _ a c h=>exact h) h
  | _=>cases h
theorem purs_ok:∀ {cs:List SV} {xs:List AV},purs cs=some xs→cs.length=xs.length∧∀ (j:Nat) (s:SV) (x:AV) (v:Value),cs[j]?=some s→xs[j]?=some x→SR A L w s v→VR A w x v
 | [],xs,h=>by cases h;exact ⟨rfl,fun j s x v hs=>by simp at hs⟩
 | c::r,xs,h=>by
  have key:∀ {y:AV},(∀ v,SR A L w c v→VR A w y v)→(match purs r with|some xs=>some (y::xs)|none=>none)=some xs→(c::r).length=xs.length∧∀ (j:Nat) (s:SV) (x:AV) (v:Value),(c::r)[j]?=some s→xs[j]?=some x→SR A L w s v→VR A w x v:=fun {y} hy h=>by
   cases hr:purs r with
   | none=>rw [hr] at h;cases h
   | some ys=>
    rw [hr] at h
    cases h
    obtain ⟨h1,h2⟩:=purs_ok hr
    refine ⟨by simp [h1],fun j s x v hs hx hv=>?_⟩
    cases j with
    | zero=>cases hs;cases hx;exact hy v hv
    | succ j=>exact h2 j s x v (by simpa using hs) (by simpa using hx) hv
  cases c with
  | t x=>exact key (fun v hv=>by cases hv with|t _ _ h=>exact h) h
  | _=>cases h
theorem aggS_ok {cs:List SV} {v:Value} (h:SR A L w (.agg cs) v):SR A L w (aggS cs) v:=by
 unfold aggS
 split
 ·rename_i xs hx
  cases h with
  | agg _ us hl hr=>
   obtain ⟨h1,h2⟩:=purs_ok (A:=A) (L:=L) (w:=w) hx
   refine .t _ _ (.agg _ us (by rw [hl,h1]) fun j x u hxj hu=>?_)
   obtain ⟨s,hs⟩:=get_of_lt (xs:=cs) (k:=j) (by rw [h1];exact lt_of_get hxj)
   exact h2 j s x u hs hxj (hr j s u hs hu)
 ·exact h
theorem fnS_ok {f:Fn} {nf:Nat} {cs:List SV} {v:Value} (h:SR A L w (.fn f nf cs) v):SR A L w (fnS f nf cs) v:=by
 unfold fnS
 split
 ·rename_i xs hx
  cases h with
  | fn _ _ fs us hl hr=>
   obtain ⟨h1,h2⟩:=pursN_ok (A:=A) (L:=L) (w:=w) hx
   refine .t _ _ (.fn _ _ fs us (by rw [hl,h1]) fun j x u hxj hu=>?_)
   obtain ⟨s,hs⟩:=get_of_lt (xs:=cs) (k:=j) (by rw [h1];exact lt_of_get hxj)
   exact h2 j s x u hs hxj (hr j s u hs hu)
 ·exact h
theorem run_fieldAt {st f off b o:Nat} (hf:fieldOff P st f=some off):(Instr.fieldAt st (.pointer (some ⟨b,o,none⟩)) f).run P w=.ok (.pointer (some ⟨b,o+off,none⟩)) w:=by
 unfold fieldOff at hf
 split at hf
 ·rename_i fs hu
  split at hf
  ·rename_i fl hfl
   split at hf
   ·rename_i i hi
    split at hf
    ·cases hf
    ·rename_i h0
     cases hf
     simp [Instr.fieldAt,Instr.sureAddr,Sem.run_bind,run_underlying hu,hfl,fieldPlace,run_size hi,h0,pure,Sem.run,addr_add]
   ·cases hf
  ·cases hf
 ·cases hf
theorem tp_drop {b o n:Nat} {cs:List AV} {c:AV} {r:List AV} {us:Nat→Value} (hd:cs.drop n=c::r) (hb:b < w.heap.size) (hA:A b) (hc:∀ (j:Nat),j < cs.length→w.cell? ⟨b,o+j,none⟩=some (us j)) (hr:∀ (j:Nat) (x:AV),cs[j]?=some x→VR A w x (us j)):VR A w (.tp (c::r)) (.pointer (some ⟨b,o+n,none⟩)):=by
 rw [← hd]
 have hlen:(cs.drop n).length=cs.length - n:=List.length_drop
 refine .tp b (o+n) _ (fun j=>us (n+j)) (by rw [hd];simp) hb hA (fun j hj=>?_) fun j x hx=>?_
 ·have:=hc (n+j) (by omega)
  rwa [← Nat.add_assoc] at this
 ·rw [List.getElem?_drop] at hx
  exact hr _ _ hx
theorem fieldAddrS_ok {st f:Nat} {s x:SV} {v:Value} (h:fieldAddrS P st f s=some x) (hs:SR A L w s v):∃ u,(Instr.fieldAt st v f).run P w=.ok u w∧SR A L w x u:=by
 unfold fieldAddrS at h
 split at h
 ·cases h
 ·rename_i off hf
  split at h
  ·rename_i cs
   obtain ⟨b,o,us,rfl,h1,h2,h3,h4,h5⟩:=inv_tp hs
   split at h
   ·rename_i c r hd
    cases h
    exact ⟨_,run_fieldAt hf,.t _ _ (tp_drop hd h2 h3 h4 h5)⟩
   ·cases h
  ·rename_i i j
   cases h
   obtain ⟨g,hL,rfl⟩:=inv_lp hs
   exact ⟨_,run_fieldAt hf,.lp i (j+off) g hL⟩
  ·rename_i i sz k j
   cases h
   obtain ⟨b,m,c,hL,rfl⟩:=inv_le hs
   refine ⟨_,run_fieldAt hf,?_⟩
   rw [Nat.add_assoc]
   exact .le i sz k (j+off) b m c hL
  ·cases h
theorem run_part {t n off:Nat} {us:Array Value} {ag:Bool} (ht:sizeT P t=some (ag,n)):(ag=true→(part t us off).run P w=.ok (.agg (us.extract off (off+n))) w)∧(ag=false→∀ u,us[off]?=some u→(part t us off).run P w=.ok u w):=by
 have hr:=run_isAgg ht w
 unfold part
 refine ⟨fun h=>?_,fun h u hu=>?_⟩
 ·subst h;simp [Sem.run_bind,hr.1,hr.2,pure,Sem.run]
 ·subst h;simp [Sem.run_bind,hr.1,hu,pure,Sem.run]
theorem fieldS_ok {st f:Nat} {s x:SV} {v:Value} (h:fieldS P st f s=some x) (hs:SR A L w s v):∃ u,(Instr.field st v f).run P w=.ok u w∧SR A L w x u:=by
 unfold fieldS at h
 split at h
 ·cases h
 ·rename_i off ft hft
  have hfl:∃ fs fl,P.underlying st=some (.struct fs)∧fs[f]?=some fl∧fl.offset=off∧fl.type=ft:=by
   unfold fieldTy at hft
   split at hft
   ·rename_i fs hu
    split at hft
    ·rename_i fl hfl;cases hft;exact ⟨fs,fl,hu,hfl,rfl,rfl⟩
    ·cases hft
   ·cases hft
  obtain ⟨fs,fl,hu,hfl,rfl,rfl⟩:=hfl
  split at h
  ·cases h
  ·rename_i ag n ht
   have run:∀ {us:Array Value} {u:Value},(part fl.type us fl.offset).run P w=.ok u w→(Instr.field st (.agg us) f).run P w=.ok u w:=fun {us u} hp=>by
    simp [Instr.field,Sem.run_bind,run_underlying hu,hfl,asAgg,pure,Sem.run,hp]
   split at h
   ·rename_i cs
    cases hs with
    | t _ _ hs=>
     cases hs with
     | agg _ us hl hr=>
      cases ag with
      | false=>
       simp only at h
       split at h
       ·rename_i c hc
        cases h
        have hj:fl.offset < us.size:=by rw [hl];exact lt_of_get hc
        exact ⟨us[fl.offset],run ((run_part ht).2 rfl _ (Array.getElem?_eq_getElem hj)),.t _ _ (hr _ c _ hc (Array.getElem?_eq_getElem hj))⟩
       ·cases h
      | true=>
       simp only at h
       split at h
       ·rename_i hb
        cases h
        rw [Nat.ble_eq] at hb
        refine ⟨_,run ((run_part ht).1 rfl),.t _ _ (.agg _ _ (by rw [Array.size_extract,List.length_take,List.length_drop];omega) fun j y u hy hu=>?_)⟩
        rw [List.getElem?_take] at hy
        split at hy
        ·rename_i hj
         rw [List.getElem?_drop] at hy
         rw [Array.getElem?_extract] at hu
         split at hu
         ·exact hr _ y u hy hu
         ·cases hu
        ·cases hy
       ·cases h
   ·rename_i cs
    cases hs with
    | agg _ us hl hr=>
     cases ag with
     | false=>
      simp only at h
      have hj:fl.offset < us.size:=by rw [hl];exact lt_of_get h
      exact ⟨us[fl.offset],run ((run_part ht).2 rfl _ (Array.getElem?_eq_getElem hj)),hr _ x _ h (Array.getElem?_eq_getElem hj)⟩
     | true=>
      simp only at h
      split at h
      ·rename_i hb
       cases h
       rw [Nat.ble_eq] at hb
       refine ⟨_,run ((run_part ht).1 rfl),aggS_ok (.agg _ _ (by rw [Array.size_extract,List.length_take,List.length_drop];omega) fun j y u hy hu=>?_)⟩
       rw [List.getElem?_take] at hy
       split at hy
       ·rename_i hj
        rw [List.getElem?_drop] at hy
        rw [Array.getElem?_extract] at hu
        split at hu
        ·exact hr _ y u hy hu
        ·cases hu
       ·cases hy
      ·cases h
   ·cases h
theorem extractS_ok {i:Nat} {s x:SV} {v:Value} (h:extractS s i=some x) (hs:SR A L w s v):∃ u,(Instr.extract v i).run P w=.ok u w∧SR A L w x u:=by
 unfold extractS at h
 split at h
 ·cases hs with
  | tup _ us hl hr=>
   have hi:i < us.size:=by rw [hl];exact lt_of_get h
   exact ⟨us[i],by simp [Instr.extract,hi,pure,Sem.run],hr i x us[i] h (Array.getElem?_eq_getElem hi)⟩
 ·split at h
  ·rename_i y hy
   cases h
   cases hs with
   | t _ _ hs=>
    cases hs with
    | tup _ us hl hr=>
     have hi:i < us.size:=by rw [hl];exact lt_of_get hy
     exact ⟨us[i],by simp [Instr.extract,hi,pure,Sem.run],.t _ _ (hr i y us[i] hy (Array.getElem?_eq_getElem hi))⟩
  ·cases h
 ·cases h
theorem nilCheckS_ok {s x:SV} {v:Value} (h:nilCheckS s=some x) (hs:SR A L w s v):(∃ q,v=.pointer (some q))∧SR A L w x v:=by
 unfold nilCheckS at h
 split at h
 ·cases h;obtain ⟨b,o,us,rfl,_⟩:=inv_tp hs;exact ⟨⟨_,rfl⟩,hs⟩
 ·cases h;obtain ⟨g,_,rfl⟩:=inv_lp hs;exact ⟨⟨_,rfl⟩,hs⟩
 ·cases h;obtain ⟨b,m,c,_,rfl⟩:=inv_le hs;exact ⟨⟨_,rfl⟩,hs⟩
 ·cases h;obtain ⟨t,b,n,c,_,_,rfl⟩:=inv_lq hs;exact ⟨⟨_,rfl⟩,hs⟩
 ·cases h
theorem unS_ok {b:UnOp} {s x:SV} {v:Value} (h:unS b s=some x) (hs:SR A L w s v):∃ u,(Op.unary b v).run P w=.ok u w∧SR A L w x u:=by
 unfold unS at h
 split at h
 ·rename_i y
  obtain rfl:=inv_bool hs
  cases b <;> simp only at h <;> first|(cases h;done)|skip
  cases h
  exact ⟨.bool (!y),by simp [Op.unary,pure,Sem.run],.t _ _ (.bool _)⟩
 ·rename_i k n
  obtain rfl:=inv_int hs
  cases b <;> simp only at h <;> first|(cases h;done)|skip
  cases h
  exact ⟨.int k (k.wrap (0 - n)),by simp [Op.unary,Op.intArith,pure,Sem.run],.t _ _ (.int _ _)⟩
 ·cases h
theorem indexS_ok {t:Nat} {s i x:SV} {v u:Value} (h:indexS P t s i=some x) (hs:SR A L w s v) (hi:SR A L w i u):∃ y,(Instr.index t v u).run P w=.ok y w∧SR A L w x y:=by
 unfold indexS at h
 split at h
 ·rename_i str k m
  obtain rfl:=inv_str hs
  obtain rfl:=inv_int hi
  split at h
  ·rename_i ht
   unfold isStrT at ht
   split at ht
   ·rename_i hu
    split at h
    ·rename_i h0
     split at h
     ·rename_i b hb
      cases h
      have h0':0≤m:=of_decide_eq_true h0
      refine ⟨.int .u8 b.toNat,?_,.t _ _ (.int _ _)⟩
      simp [Instr.index,asIntOf,Sem.run_bind,run_underlying hu,h0',hb,pure,Sem.run]
     ·cases h
    ·cases h
   ·cases ht
  ·cases h
 ·cases h
end
end Go.Proofs.YtjdhnoffoknlnaaGreatDoor
namespace Go.Proofs.YtjdhnoffoknlnaaGreatDoor
open Go.RowKit
section
variable {P:Program} {γ:Glob} {κ:Ctx} {fr:Fr} {L:Ls} {w:World} {A:Nat→Prop}
theorem box_cell (hC:Core γ κ fr L w) {i j b:Nat} {ro:Bool} {T:TypeId} {cs:List SV} {x:SV} (hb:fr[i]?=some (.box ro T cs)) (hL:L i=some (.pointer (some ⟨b,0,none⟩))) (hx:cs[j]?=some x):∃ u,w.cell? ⟨b,j,none⟩=some u∧SR (MA κ.M fr L) L w x u:=by
 obtain ⟨b',us,h1,h2,h3,h4⟩:=hC.box i ro T cs hb
 rw [hL] at h1
 cases h1
 have hj:j < us.size:=by rw [h3];exact lt_of_get hx
 exact ⟨us[j],by simp [World.cell?,h2],h4 j x us[j] hx (Array.getElem?_eq_getElem hj)⟩
theorem row_form (hC:Core γ κ fr L w) {i sz:Nat} {ro tch:Bool} {es:List (List AV)} {v:Value} (hb:fr[i]?=some (.row ro tch sz es)) (hL:L i=some v):∃ T us,RowIs w T sz v es.length us∧es.length≤140737488351232∧(∃ q c,v=.slice q es.length c)∧(∀ (k:Nat) (cs:List AV),es[k]?=some cs→cs.length=sz)∧∀ (k j:Nat) (cs:List AV) (x:AV),es[k]?=some cs→cs[j]?=some x→∃ u,us[k * sz+j]?=some u∧VR (MA κ.M fr L) w x u:=by
 obtain ⟨T,v',us,h1,h2,h3,h4,h5⟩:=hC.row i _ _ _ _ hb
 rw [hL] at h1
 cases h1
 exact ⟨T,us,h2,h3,h2.form,h4,h5⟩
theorem own_cell {w:World} {T:TypeId} {sz b n c q:Nat} {us:List Value} {u:Value} (h:w.ownsRow 0 T sz (.slice (some ⟨b,0,none⟩) n c) n us) (hq:us[q]?=some u):w.cell? ⟨b,q,none⟩=some u:=by
 have:=h.cells (g:=b) rfl q u hq
 rwa [addr_add,Nat.zero_add] at this
theorem row_cell (hC:Core γ κ fr L w) {i sz b m c k j:Nat} {ro tch:Bool} {es:List (List AV)} {cs:List AV} {x:AV} (hb:fr[i]?=some (.row ro tch sz es)) (hL:L i=some (.slice (some ⟨b,0,none⟩) m c)) (hk:es[k]?=some cs) (hj:cs[j]?=some x) :
  ∃ u,w.cell? ⟨b,k * sz+j,none⟩=some u∧VR (MA κ.M fr L) w x u:=by
 obtain ⟨T,us,how,_,⟨q,c',e⟩,hes,hr⟩:=row_form hC hb hL
 cases e
 obtain ⟨u,h1,h2⟩:=hr k j cs x hk hj
 exact ⟨u,own_cell (how.own (Nat.lt_of_le_of_lt (Nat.zero_le _) (lt_of_get hk))) h1,h2⟩
theorem own_at (hC:Core γ κ fr L w) {i:Nat} {p:List Nat} {ro:Bool} {x y:AV} {t:Value} (hb:fr[i]?=some (.own ro x)) (hL:L i=some t) (hx:treeAt x p=some y):∃ v' t',subAt t p=some t'∧OV w y v' t'∧∀ b,Bk t' b→Bk t b:=by
 obtain ⟨v0,t0,h1,h2⟩:=hC.blk i _ hb
 rw [hL] at h1
 cases h1
 exact h2.at_ hx
theorem run_loadCells {b o:Nat} {us:Nat→Value} {w:World}:∀ (n i:Nat) (acc:Array Value),(∀ j,j < n→w.cell? ⟨b,o+(i+j),none⟩=some (us (i+j)))→(loadCellsFrom ⟨b,o,none⟩ i n acc).run P w=.ok (acc++((List.range' i n).map us).toArray) w
 | 0,i,acc,_=>by simp [loadCellsFrom,pure,Sem.run]
 | n+1,i,acc,h=>by
  have h0:=h 0 (by omega)
  rw [Nat.add_zero] at h0
  unfold loadCellsFrom
  simp only [Sem.run_bind,load,Sem.run,addr_add,h0,Result.andThen_ok]
  rw [run_loadCells n (i+1) (acc.push (us i)) fun j hj=>by have:=h (j+1) (by omega);rwa [show i+1+j=i+(j+1) by omega]]
  rw [List.range'_succ,List.map_cons]
  congr 1
  simp
theorem run_loadAt_one {t n b o:Nat} {u:Value} (ht:sizeT P t=some (false,n)) (hc:w.cell? ⟨b,o,none⟩=some u):(Instr.loadAt t (.pointer (some ⟨b,o,none⟩))).run P w=.ok u w:=by
 simp [Instr.loadAt,Instr.sureAddr,loadVar,Sem.run_bind,(run_isAgg ht w).1,load,hc,pure,Sem.run]
theorem run_loadAt_agg {t n b o:Nat} {us:Nat→Value} (ht:sizeT P t=some (true,n)) (hc:∀ j,j < n→w.cell? ⟨b,o+j,none⟩=some (us j)):(Instr.loadAt t (.pointer (some ⟨b,o,none⟩))).run P w=.ok (.agg ((List.range' 0 n).map us).toArray) w:=by
 have:=run_loadCells (P:=P) (b:=b) (o:=o) (us:=us) (w:=w) n 0 #[] fun j hj=>by rw [Nat.zero_add];exact hc j hj
 simp [Instr.loadAt,Instr.sureAddr,loadVar,Sem.run_bind,(run_isAgg ht w).1,(run_isAgg ht w).2,loadCells,this,pure,Sem.run]
theorem agg_of {cs:List SV} {us:Nat→Value} (h:∀ (j:Nat) (x:SV),cs[j]?=some x→SR A L w x (us j)):SR A L w (.agg cs) (.agg ((List.range' 0 cs.length).map us).toArray):=by
 refine .agg _ _ (by simp) fun j x u hx hu=>?_
 have hj:j < cs.length:=lt_of_get hx
 have:u=us j:=by simp [List.getElem?_range',hj] at hu;exact hu.symm
 rw [this]
 exact h j x hx
theorem agg_of_t {cs:List AV} {us:Nat→Value} (h:∀ (j:Nat) (x:AV),cs[j]?=some x→VR A w x (us j)):VR A w (.agg cs) (.agg ((List.range' 0 cs.length).map us).toArray):=by
 refine .agg _ _ (by simp) fun j x u hx hu=>?_
 have hj:j < cs.length:=lt_of_get hx
 have:u=us j:=by simp [List.getElem?_range',hj] at hu;exact hu.symm
 rw [this]
 exact h j x hx
theorem loadS_ok {t:Nat} {s x:SV} {v:Value} (hC:Core γ κ fr L w) (h:loadS P fr t s=some x) (hs:SR (MA κ.M fr L) L w s v):∃ u,(Instr.loadAt t v).run P w=.ok u w∧SR (MA κ.M fr L) L w x u:=by
 unfold loadS at h
 split at h
 ·cases h
 ·rename_i ag n ht
  split at h
  ·rename_i cs
   obtain ⟨b,o,us,rfl,h1,h2,h3,h4,h5⟩:=inv_tp hs
   cases ag with
   | false=>
    simp only at h
    split at h
    ·rename_i c hc
     cases h
     exact ⟨us 0,run_loadAt_one ht (by have:=h4 0 (lt_of_get hc);rwa [Nat.add_zero] at this),.t _ _ (h5 0 c hc)⟩
    ·cases h
   | true=>
    simp only at h
    split at h
    ·rename_i hn
     cases h
     obtain rfl:n=cs.length:=by simpa using hn
     exact ⟨_,run_loadAt_agg ht fun j hj=>h4 j hj,.t _ _ (agg_of_t fun j x hx=>h5 j x hx)⟩
    ·split at h
     ·rename_i hn
      cases h
      rw [Nat.ble_eq] at hn
      have hl:(cs.take n).length=n:=by rw [List.length_take];omega
      have:=agg_of_t (A:=MA κ.M fr L) (w:=w) (cs:=cs.take n) (us:=us) fun j x hx=>by
       rw [List.getElem?_take] at hx
       split at hx
       ·exact h5 j x hx
       ·cases hx
      rw [hl] at this
      exact ⟨_,run_loadAt_agg ht fun j hj=>h4 j (by omega),.t _ _ this⟩
     ·cases h
  ·rename_i i j
   obtain ⟨b,hL,rfl⟩:=inv_lp hs
   split at h
   ·rename_i ro T cs hb
    cases ag with
    | false=>
     simp only at h
     obtain ⟨u,hu,hr⟩:=box_cell hC hb hL h
     exact ⟨u,run_loadAt_one ht hu,hr⟩
    | true=>
     simp only at h
     split at h
     ·rename_i hn
      cases h
      rw [Nat.ble_eq] at hn
      have hus:∀ k,k < n→w.cell? ⟨b,j+k,none⟩=some ((w.cell? ⟨b,j+k,none⟩).getD undef)∧∀ y,cs[j+k]?=some y→SR (MA κ.M fr L) L w y ((w.cell? ⟨b,j+k,none⟩).getD undef):=fun k hk=>by
       obtain ⟨y,hy⟩:=get_of_lt (xs:=cs) (k:=j+k) (by omega)
       obtain ⟨u,h1,h2⟩:=box_cell hC hb hL hy
       rw [h1]
       exact ⟨rfl,fun z hz=>by rw [hy] at hz;cases hz;exact h2⟩
      have hl:((cs.drop j).take n).length=n:=by rw [List.length_take,List.length_drop];omega
      have:=agg_of (A:=MA κ.M fr L) (L:=L) (w:=w) (cs:=(cs.drop j).take n) (us:=fun k=>(w.cell? ⟨b,j+k,none⟩).getD undef) fun k y hy=>by
       rw [List.getElem?_take] at hy
       split at hy
       ·rename_i hk
        rw [List.getElem?_drop] at hy
        exact (hus k hk).2 y hy
       ·cases hy
      rw [hl] at this
      exact ⟨_,run_loadAt_agg ht fun k hk=>(hus k hk).1,aggS_ok this⟩
     ·cases h
   ·cases h
  ·rename_i i sz k j
   obtain ⟨b,m,c,hL,rfl⟩:=inv_le hs
   split at h
   ·rename_i ro tch sz' es hb
    split at h
    ·rename_i hz
     obtain rfl:sz=sz':=by simpa using hz
     split at h
     ·rename_i cs hk
      cases ag with
      | false=>
       simp only at h
       split at h
       ·rename_i y hy
        cases h
        obtain ⟨u,hu,hr⟩:=row_cell hC hb hL hk hy
        exact ⟨u,run_loadAt_one ht hu,.t _ _ hr⟩
       ·cases h
      | true=>
       simp only at h
       split at h
       ·rename_i hn
        cases h
        rw [Nat.ble_eq] at hn
        have hus:∀ q,q < n→w.cell? ⟨b,k * sz+j+q,none⟩=some ((w.cell? ⟨b,k * sz+j+q,none⟩).getD undef)∧∀ y,cs[j+q]?=some y→VR (MA κ.M fr L) w y ((w.cell? ⟨b,k * sz+j+q,none⟩).getD undef):=fun q hq=>by
         obtain ⟨y,hy⟩:=get_of_lt (xs:=cs) (k:=j+q) (by omega)
         obtain ⟨u,h1,h2⟩:=row_cell hC hb hL hk hy
         rw [← Nat.add_assoc] at h1
         rw [h1]
         exact ⟨rfl,fun z hz=>by rw [hy] at hz;cases hz;exact h2⟩
        have hl:((cs.drop j).take n).length=n:=by rw [List.length_take,List.length_drop];omega
        have:=agg_of_t (A:=MA κ.M fr L) (w:=w) (cs:=(cs.drop j).take n) (us:=fun q=>(w.cell? ⟨b,k * sz+j+q,none⟩).getD undef) fun q y hy=>by
         rw [List.getElem?_take] at hy
         split at hy
         ·rename_i hq
          rw [List.getElem?_drop] at hy
          exact (hus q hq).2 y hy
         ·cases hy
        rw [hl] at this
        exact ⟨_,run_loadAt_agg ht fun q hq=>(hus q hq).1,.t _ _ this⟩
       ·cases h
     ·cases h
    ·cases h
   ·cases h
  ·rename_i i p k
   obtain ⟨t0,b,m,c,hL,hv,rfl⟩:=inv_lq hs
   split at h
   ·rename_i fs hfs
    obtain ⟨ro,x0,hb,hx0⟩:=ownAt_spec hfs
    obtain ⟨v',t',e1,e2,e3⟩:=own_at hC hb hL hx0
    have key:∀ {y:AV},fs[k]?=some [y]→∃ u t2,w.cell? ⟨b,k,none⟩=some u∧OV w y u t2∧subAt t0 (p++[k])=some t2:=fun {y} hy=>by
     obtain ⟨b',n',c',u,t2,f1,_,f3,f4,f5⟩:=e2.elem hy
     have:=e2.hd e1 hv
     rw [f1] at this
     cases this
     exact ⟨u,t2,f3,f4,by rw [subAt_app,e1];exact f5⟩
    split at h
    ·rename_i fs' hk
     cases h
     obtain ⟨u,t2,f1,f2,f3⟩:=key hk
     obtain ⟨us,rfl,f4⟩:=f2.head
     exact ⟨u,run_loadAt_one ht f1,.lo _ _ t0 u hL (by unfold hdAt;rw [f3];exact f4) f2.plain⟩
    ·rename_i kk n' hk
     cases h
     obtain ⟨u,t2,f1,f2,f3⟩:=key hk
     cases f2
     exact ⟨_,run_loadAt_one ht f1,.t _ _ (.int _ _)⟩
    ·cases h
   ·cases h
  ·cases h
theorem elemT_spec {t e sz:Nat} (h:elemT P t=some (e,sz)):∃ i,P.underlying t=some (.slice e)∧P.info? e=some i∧i.size=sz:=by
 unfold elemT at h
 split at h
 ·rename_i e' hu
  cases hi:P.info? e' with
  | none=>rw [hi] at h;cases h
  | some i=>rw [hi] at h;cases h;exact ⟨i,hu,hi,rfl⟩
 ·cases h
theorem run_indexAt {t e sz b o n c:Nat} {k:IntKind} {m:Int} (ht:elemT P t=some (e,sz)) (h0:0≤m) (h1:m.toNat < n):(Instr.indexAt t (.slice (some ⟨b,o,none⟩) n c) (.int k m)).run P w=.ok (.pointer (some ⟨b,o+m.toNat * sz,none⟩)) w:=by
 obtain ⟨i,hu,hi,rfl⟩:=elemT_spec ht
 have h2:m < (n:Int):=by omega
 simp [Instr.indexAt,asIntOf,Sem.run_bind,run_underlying hu,run_size hi,h0,h2,pure,Sem.run,addr_add]
theorem elemAt_ok {t e sz:Nat} {k:IntKind} {m:Int} {es:List (List AV)} {x:SV} {v:Value} (ht:elemT P t=some (e,sz)) (h:elemAt sz es m=some x) (hv:VR A w (.arr es) v):∃ u,(Instr.indexAt t v (.int k m)).run P w=.ok u w∧SR A L w x u:=by
 unfold elemAt at h
 split at h
 ·cases h
 ·rename_i h0
  have h0:0≤m:=of_decide_eq_true h0
  split at h
  ·rename_i c cs hc
   split at h
   ·rename_i hz
    cases h
    obtain rfl:sz=cs.length+1:=by simpa using hz
    have hlt:=lt_of_get hc
    cases hv with
    | arr0=>simp at hlt
    | arr b o cp sz' _ us hne hlen hcap hb hM hsz hcell hr=>
     have hs:sz'=cs.length+1:=(hsz _ _ hc).symm
     subst hs
     refine ⟨_,run_indexAt ht h0 hlt,.t _ _ (.tp b _ _ (us m.toNat) (by simp) hb hM (fun j hj=>?_) fun j y hy=>hr _ _ _ _ hc hy)⟩
     have:=hcell m.toNat j hlt (by simpa using hj)
     rwa [← Nat.add_assoc] at this
   ·cases h
  ·cases h
theorem arrT_spec {t n sz:Nat} (h:arrT P t=some (n,sz)):∃ e i,P.underlying t=some (.array n e)∧P.info? e=some i∧i.size=sz:=by
 unfold arrT at h
 split at h
 ·rename_i n' e hu
  cases hi:P.info? e with
  | none=>rw [hi] at h;cases h
  | some i=>rw [hi] at h;cases h;exact ⟨e,i,hu,hi,rfl⟩
 ·cases h
theorem inB_spec {m:Int} {n:Nat} (h:inB m n=true):0≤m∧m.toNat < n:=by
 unfold inB at h
 rw [Bool.and_eq_true,Nat.blt_eq] at h
 exact ⟨of_decide_eq_true h.1,h.2⟩
theorem run_indexAt_arr {t sz b o n:Nat} {k:IntKind} {m:Int} (ht:arrT P t=some (n,sz)) (h:inB m n=true):(Instr.indexAt t (.pointer (some ⟨b,o,none⟩)) (.int k m)).run P w=.ok (.pointer (some ⟨b,o+m.toNat * sz,none⟩)) w:=by
 obtain ⟨e,i,hu,hi,rfl⟩:=arrT_spec ht
 obtain ⟨h0,h1⟩:=inB_spec h
 have h2:m < (n:Int):=by omega
 simp [Instr.indexAt,Instr.sureAddr,asIntOf,Sem.run_bind,run_underlying hu,run_size hi,h0,h2,pure,Sem.run,addr_add]
theorem indexAddrS_ok {t:Nat} {s i x:SV} {v u:Value} (hC:Core γ κ fr L w) (h:indexAddrS P fr t s i=some x) (hs:SR (MA κ.M fr L) L w s v) (hi:SR (MA κ.M fr L) L w i u):∃ y,(Instr.indexAt t v u).run P w=.ok y w∧SR (MA κ.M fr L) L w x y:=by
 unfold indexAddrS at h
 split at h
 ·rename_i e sz ht
  split at h
  ·rename_i k m
   obtain rfl:=inv_int hi
   split at h
   ·exact elemAt_ok ht h (sl_tree hs (.inl rfl))
   ·exact elemAt_ok ht h (sl_tree hs (.inr (.inl rfl)))
   ·exact elemAt_ok ht h (sl_tree hs (.inr (.inr (.inl rfl))))
   ·rename_i r
    split at h
    ·rename_i ro tch sz' es hb
     split at h
     ·rename_i hz
      obtain rfl:sz=sz':=by simpa using hz
      split at h
      ·rename_i hin
       cases h
       obtain ⟨h0,h1⟩:=inB_spec hin
       obtain ⟨hL,_⟩:=inv_ls hs
       obtain ⟨T,us,how,_,⟨q,c,rfl⟩,_⟩:=row_form hC hb hL
       rcases (how.own (by omega)).2 with ⟨e,hz⟩|⟨b,cap,cur,e,_⟩
       ·omega
       ·cases e
        refine ⟨_,run_indexAt ht h0 h1,?_⟩
        rw [Nat.zero_add]
        exact .le r sz m.toNat 0 b _ _ hL
      ·cases h
     ·cases h
    ·cases h
   ·rename_i r sz' a n
    split at h
    ·rename_i es hes
     split at h
     ·rename_i hc
      rw [Bool.and_eq_true] at hc
      obtain rfl:sz=sz':=by simpa using hc.1
      cases h
      obtain ⟨h0,h1⟩:=inB_spec hc.2
      obtain ⟨b,m',c,hL,rfl⟩:=inv_lv hs
      refine ⟨_,run_indexAt ht h0 h1,?_⟩
      rw [← Nat.add_mul]
      exact .le r sz (a+m.toNat) 0 b _ _ hL
     ·cases h
    ·cases h
   ·rename_i r p
    split at h
    ·rename_i fs hfs
     obtain ⟨ro,x0,hb,hx0⟩:=ownAt_spec hfs
     split at h
     ·rename_i hc
      rw [Bool.and_eq_true] at hc
      obtain rfl:sz=1:=by simpa using hc.1
      cases h
      obtain ⟨h0,h1⟩:=inB_spec hc.2
      obtain ⟨t0,hL,hv,hp⟩:=inv_lo hs
      obtain ⟨v',t',e1,e2,e3⟩:=own_at hC hb hL hx0
      obtain rfl:=e2.hd e1 hv
      cases e2 with
      | arr0 a=>simp at h1
      | arr b c T cs es fs us ts he=>
       have hlen:fs.length=es.length:=by rw [he,List.length_map]
       refine ⟨_,run_indexAt ht h0 (by omega),?_⟩
       rw [Nat.zero_add,Nat.mul_one]
       exact .lr r p m.toNat b _ _ t0 hL hv
     ·cases h
    ·cases h
   ·cases h
  ·cases h
 ·split at h
  ·rename_i n sz ht
   split at h
   ·rename_i k m
    obtain rfl:=inv_int hi
    split at h
    ·cases h
    ·rename_i hin
     split at h
     ·rename_i cs
      obtain ⟨b,o,us,rfl,h1,h2,h3,h4,h5⟩:=inv_tp hs
      split at h
      ·rename_i c r hd
       cases h
       exact ⟨_,run_indexAt_arr ht hin,.t _ _ (tp_drop hd h2 h3 h4 h5)⟩
      ·cases h
     ·rename_i b j
      cases h
      obtain ⟨g,hL,rfl⟩:=inv_lp hs
      exact ⟨_,run_indexAt_arr ht hin,.lp b _ g hL⟩
     ·cases h
   ·cases h
  ·cases h
theorem slOf_len {s:SV} {es:List (List AV)} {v:Value} (hC:Core γ κ fr L w) (h:slOf fr s=some es) (hs:SR (MA κ.M fr L) L w s v):∃ q c,v=.slice q es.length c:=by
 unfold slOf at h
 split at h
 ·cases h;exact vr_slice (sl_tree hs (.inl rfl))
 ·cases h;exact vr_slice (sl_tree hs (.inr (.inr (.inr ⟨rfl,rfl⟩))))
 ·cases h;exact vr_slice (sl_tree hs (.inr (.inl rfl)))
 ·cases h;exact vr_slice (sl_tree hs (.inr (.inr (.inl rfl))))
 ·split at h
  ·rename_i ro tch sz es' hb
   cases h
   obtain ⟨T,us,_,_,hq,_⟩:=row_form hC hb (inv_ls hs).1
   exact hq
  ·cases h
 ·obtain ⟨b,m,c,_,rfl⟩:=inv_lv hs
  rw [lvOf_len h]
  exact ⟨_,_,rfl⟩
 ·cases h
theorem lenS_ok {ty:TypeId} {t:Option Nat} {tys:Array TypeId} {s x:SV} {v:Value} (hC:Core γ κ fr L w) (ht:tys[0]?=t) (h:lenS P fr t s=some x) (hs:SR (MA κ.M fr L) L w s v):∃ u,(Builtin.len_ tys ty #[v]).run P w=.ok u w∧SR (MA κ.M fr L) L w x u:=by
 unfold lenS at h
 split at h
 ·cases h
 ·rename_i t
  split at h
  ·rename_i str
   obtain rfl:=inv_str hs
   split at h
   ·rename_i hst
    cases h
    unfold isStrT at hst
    split at hst
    ·rename_i hu
     exact ⟨.int .i64 str.size,by simp [Builtin.len_,ht,run_underlying hu,Sem.run_bind,goInt,pure,Sem.run],.t _ _ (.int _ _)⟩
    ·cases hst
   ·cases h
  ·split at h
   ·rename_i hsl
    split at h
    ·rename_i es he
     cases h
     obtain ⟨q,c,rfl⟩:=slOf_len hC he hs
     unfold isSlT at hsl
     split at hsl
     ·rename_i e hu
      exact ⟨.int .i64 es.length,by simp [Builtin.len_,ht,run_underlying hu,Sem.run_bind,goInt,pure,Sem.run],.t _ _ (.int _ _)⟩
     ·cases hsl
    ·cases h
   ·unfold mapLen at h
    split at h
    ·rename_i i hno
     split at h
     ·rename_i ro ks vs hmp hi
      cases h
      obtain ⟨r,ents,clock,h1,h2,h3,_⟩:=hC.blk i _ hi
      cases hs with
      | lm _ r' hL=>
       rw [h1] at hL
       cases hL
       unfold isMpT at hmp
       split at hmp
       ·rename_i k e hu
        exact ⟨.int .i64 ks.length,by simp [Builtin.len_,ht,run_underlying hu,Sem.run_bind,getObj,h2,goInt,pure,Sem.run,h3],.t _ _ (.int _ _)⟩
       ·cases hmp
     ·cases h
    ·cases h
end
end Go.Proofs.YtjdhnoffoknlnaaGreatDoor
namespace Go.Proofs.YtjdhnoffoknlnaaGreatDoor
open Go.RowKit
def TRs (M:Nat→Prop) (w:World) (xs:List AV) (us:Array Value):Prop:=us.size=xs.length∧∀ (j:Nat) (x:AV) (u:Value),xs[j]?=some x→us[j]?=some u→VR M w x u
def VC (M:Nat→Prop) (w:World) (ag:Bool) (xs:List AV) (v:Value):Prop:=match ag with
 | true=>∃ us,v=.agg us∧TRs M w xs us
 | false=>∃ x,xs=[x]∧VR M w x v
section
variable {P:Program} {M:Nat→Prop} {w:World}
theorem run_part_c {t n off:Nat} {ag:Bool} {xs:List AV} {us:Array Value} (ht:sizeT P t=some (ag,n)) (h:TRs M w xs us) (hl:off+n≤xs.length) (h1:ag=false→n=1):∃ v,(part t us off).run P w=.ok v w∧VC M w ag ((xs.drop off).take n) v:=by
 cases ag with
 | true=>
  refine ⟨_,(run_part ht).1 rfl,_,rfl,by rw [Array.size_extract,List.length_take,List.length_drop,h.1];omega,fun j x u hx hu=>?_⟩
  rw [List.getElem?_take] at hx
  split at hx
  ·rename_i hj
   rw [List.getElem?_drop] at hx
   rw [Array.getElem?_extract] at hu
   split at hu
   ·exact h.2 _ x u hx hu
   ·cases hu
  ·cases hx
 | false=>
  obtain rfl:=h1 rfl
  have hlt:off < us.size:=by rw [h.1];omega
  have hx:off < xs.length:=by omega
  refine ⟨us[off],(run_part ht).2 rfl _ (Array.getElem?_eq_getElem hlt),xs[off],?_,h.2 off _ _ (List.getElem?_eq_getElem hx) (Array.getElem?_eq_getElem hlt)⟩
  rw [List.drop_eq_getElem_cons hx]
  rfl
theorem run_eqLeaf {d t:Nat} {u:TypeDesc} {xs ys:List AV} {r:Bool} {a b:Value} (hu:P.underlying t=some u) (h:eqLeaf u xs ys=some r) (ha:∃ x,xs=[x]∧VR M w x a) (hb:∃ x,ys=[x]∧VR M w x b):(Op.equalIn (d+1) t a b).run P w=.ok r w:=by
 obtain ⟨x,rfl,ha⟩:=ha
 obtain ⟨y,rfl,hb⟩:=hb
 unfold eqLeaf at h
 split at h
 ·rename_i e1 e2
  cases e1;cases e2;cases ha;cases hb
  split at h
  ·rename_i e;subst e;cases h
   simp [Op.equalIn,run_underlying hu,Sem.run_bind,pure,Sem.run]
   rfl
  ·cases h
 ·rename_i e1 e2
  cases e1;cases e2;cases ha;cases hb;cases h
  simp [Op.equalIn,run_underlying hu,Sem.run_bind,pure,Sem.run]
 ·rename_i e1 e2
  cases e1;cases e2;cases ha;cases hb;cases h
  simp [Op.equalIn,run_underlying hu,Sem.run_bind,pure,Sem.run]
 ·cases h
theorem run_eqF {step:Nat→List AV→List AV→Option Bool} {e:Nat} {xs ys:List AV} {us vs:Array Value} (hs:∀ (t:Nat) (ag:Bool) (n:Nat) (xs ys:List AV) (r:Bool) (a b:Value),sizeT P t=some (ag,n)→step t xs ys=some r→VC M w ag xs a→VC M w ag ys b→(Op.equalIn e t a b).run P w=.ok r w) (hx:TRs M w xs us) (hy:TRs M w ys vs) :
  ∀ (fs:List Field) (r:Bool),eqF step P xs ys fs=some r→(Op.eqFields e us vs fs).run P w=.ok r w
 | [],r,h=>by cases h;simp [Op.eqFields]
 | f::fs,r,h=>by
  unfold eqF at h
  split at h
  ·cases h
  ·rename_i hn
   split at h
   ·cases h
   ·rename_i ag n ht
    split at h
    ·cases h
    ·rename_i hc
     split at h
     ·rename_i r1 q h1 h2
      cases h
      simp only [Bool.and_eq_true,Bool.or_eq_true,Nat.ble_eq,Nat.beq_eq] at hc
      have hnag:ag=false→n=1:=fun e=>by
       rcases hc.2 with h|h
       ·rw [e] at h;cases h
       ·exact h
      obtain ⟨a,ea,va⟩:=run_part_c ht hx hc.1.1 hnag
      obtain ⟨b,eb,vb⟩:=run_part_c ht hy hc.1.2 hnag
      have er:=hs _ _ _ _ _ _ a b ht h1 va vb
      have ih:=run_eqF hs hx hy fs q h2
      have hne : f.name ≠ "_" := by simpa using hn
      unfold Op.eqFields
      rw [if_pos hne]
      simp only [Sem.run_bind,ea,eb,er,Result.andThen_ok]
      cases r1 with
      | true=>simpa using ih
      | false=>simp [pure,Sem.run]
     ·cases h
theorem run_eqC:∀ (d e t:Nat) (ag:Bool) (n:Nat) (xs ys:List AV) (r:Bool) (a b:Value),d≤e→sizeT P t=some (ag,n)→eqC P d t xs ys=some r→VC M w ag xs a→VC M w ag ys b→(Op.equalIn e t a b).run P w=.ok r w
 | 0,_,_,_,_,_,_,_,_,_,_,_,h,_,_=>by cases h
 | d+1,e,t,ag,n,xs,ys,r,a,b,he,ht,h,ha,hb=>by
  obtain ⟨e,rfl⟩:∃ e',e=e'+1:=⟨e - 1,by omega⟩
  unfold eqC at h
  split at h
  ·rename_i fs hu
   split at h
   ·rename_i hst
    have hag:ag=true:=by
     unfold sizeT at ht
     rw [hu] at ht
     simp only at ht
     cases hi:P.info? t with
     | none=>rw [hi] at ht;cases ht
     | some i=>rw [hi] at ht;cases ht;rfl
    subst hag
    obtain ⟨us,rfl,hus⟩:=ha
    obtain ⟨vs,rfl,hvs⟩:=hb
    have hf:P.fieldsOf t=fs:=by unfold Program.fieldsOf;rw [hu]
    rw [run_equalIn_struct w e t us vs (by rw [hf];exact hu) hst,hf]
    exact run_eqF (fun t ag n xs ys r a b h1 h2 h3 h4=>run_eqC d e t ag n xs ys r a b (by omega) h1 h2 h3 h4) hus hvs _ _ h
   ·cases h
  ·rename_i u hns hu
   have hag:ag=false:=by
    cases ag with
    | false=>rfl
    | true=>
     unfold eqLeaf at h
     unfold sizeT at ht
     rw [hu] at ht
     split at h <;> first|(cases h;done)|(simp only at ht;cases hi:P.info? t <;> rw [hi] at ht <;> cases ht)
   subst hag
   exact run_eqLeaf hu h ha hb
  ·cases h
theorem run_same {b:BinOp} {t:Nat} {x y:Value} {r:Bool} {z:AV} (hs:sameS b r=some z) (he:(Op.equal t x y).run P w=.ok r w) (hx:∀ k n,x≠.int k n) (hf:∀ k n,x≠.float k n) (hc:∀ k n m,x≠.complex k n m) (hst:∀ s,x≠.string s):∃ u,(binOp b t x y).run P w=.ok u w∧VR M w z u:=by
 cases b <;> simp only [sameS] at hs <;> first|(cases hs;done)|skip
 ·cases hs
  refine ⟨.bool r,?_,.bool _⟩
  cases x <;> first|exact absurd rfl (hx _ _)|exact absurd rfl (hf _ _)|exact absurd rfl (hc _ _ _)|exact absurd rfl (hst _)|(simp only [binOp,Sem.run_bind,he,Result.andThen_ok];rfl)
 ·cases hs
  refine ⟨.bool (!r),?_,.bool _⟩
  cases x <;> first|exact absurd rfl (hx _ _)|exact absurd rfl (hf _ _)|exact absurd rfl (hc _ _ _)|exact absurd rfl (hst _)|(simp only [binOp,Sem.run_bind,he,Result.andThen_ok];rfl)
theorem run_guard {b:BinOp} {t:Nat} {x y:Operand} {u v:Value} (h:∀ us vs,u=.agg us→v=.agg vs→False) (hn:u=.nilIface→v=.nilIface→(isK x || isK y)=true):(eqGuard b t x y u v).run P w=.ok () w:=by
 unfold eqGuard
 cases b <;> first|rfl|skip
 all_goals
  cases u <;> first|rfl|skip
  ·cases v <;> first|rfl|skip
   have:=hn rfl rfl
   unfold isK at this
   cases x <;> cases y <;> first|(simp at this;done)|rfl
  ·cases v <;> first|rfl|exact (h _ _ rfl rfl).elim
end
section
variable {P:Program} {w:World} {t e:TypeId} {d:Nat}
theorem eqn_ptr (hu:P.underlying t=some (.pointer e)) (q:Addr):(Op.equal t (.pointer (some q)) (.pointer none)).run P w=.ok false w:=by
 have:∀ d,(Op.equalIn (d+1) t (.pointer (some q)) (.pointer none)).run P w=.ok false w:=fun d=>by simp [Op.equalIn,Sem.run_bind,run_underlying hu,pure,Sem.run]
 exact this 9999
theorem eqn_ptr0 (hu:P.underlying t=some (.pointer e)):(Op.equal t (.pointer none) (.pointer none)).run P w=.ok true w:=by
 have:∀ d,(Op.equalIn (d+1) t (.pointer none) (.pointer none)).run P w=.ok true w:=fun d=>by simp [Op.equalIn,Sem.run_bind,run_underlying hu,pure,Sem.run]
 exact this 9999
theorem eqn_if0 {ms:Array (String×TypeId)} (hu:P.underlying t=some (.interface ms)):(Op.equal t .nilIface .nilIface).run P w=.ok true w:=by
 have:∀ d,(Op.equalIn (d+1) t .nilIface .nilIface).run P w=.ok true w:=fun d=>by simp [Op.equalIn,Sem.run_bind,run_underlying hu,pure,Sem.run]
 exact this 9999
theorem eqn_if {ms:Array (String×TypeId)} (hu:P.underlying t=some (.interface ms)) (q:TypeId) (v:Value):(Op.equal t (.iface q v) .nilIface).run P w=.ok false w:=by
 have:∀ d,(Op.equalIn (d+1) t (.iface q v) .nilIface).run P w=.ok false w:=fun d=>by simp [Op.equalIn,Sem.run_bind,run_underlying hu,pure,Sem.run]
 exact this 9999
theorem eqn_sl0 (hu:P.underlying t=some (.slice e)):(Op.equal t (.slice none 0 0) (.slice none 0 0)).run P w=.ok true w:=by
 have:∀ d,(Op.equalIn (d+1) t (.slice none 0 0) (.slice none 0 0)).run P w=.ok true w:=fun d=>by simp [Op.equalIn,Sem.run_bind,run_underlying hu,pure,Sem.run]
 exact this 9999
theorem eqn_sl (hu:P.underlying t=some (.slice e)) (q:Addr) (n c:Nat):(Op.equal t (.slice (some q) n c) (.slice none 0 0)).run P w=.ok false w:=by
 have:∀ d,(Op.equalIn (d+1) t (.slice (some q) n c) (.slice none 0 0)).run P w=.ok false w:=fun d=>by simp [Op.equalIn,Sem.run_bind,run_underlying hu,pure,Sem.run]
 exact this 9999
end
section
variable {P:Program} {L:Ls} {w:World} {A:Nat→Prop}
theorem intS_ok {b:BinOp} {t:Nat} {k:IntKind} {m n:Int} {z:AV} (h:intS b k m n=some z):∃ u,(binOp b t (.int k m) (.int k n)).run P w=.ok u w∧VR A w z u:=by
 cases b <;> simp only [intS] at h <;> first|(cases h;done)|skip
 case add=>cases h;exact ⟨.int k (k.wrap (m+n)),by simp [binOp,Op.intArith,pure,Sem.run],.int _ _⟩
 case sub=>cases h;exact ⟨.int k (k.wrap (m - n)),by simp [binOp,Op.intArith,pure,Sem.run],.int _ _⟩
 case mul=>cases h;exact ⟨.int k (k.wrap (m * n)),by simp [binOp,Op.intArith,pure,Sem.run],.int _ _⟩
 case quo=>
  split at h
  ·cases h
  ·rename_i hn;cases h;exact ⟨.int k (k.wrap (m.tdiv n)),by simp [binOp,Op.intDiv,hn,pure,Sem.run],.int _ _⟩
 case rem=>
  split at h
  ·cases h
  ·rename_i hn;cases h;exact ⟨.int k (m.tmod n),by simp [binOp,Op.intDiv,hn,pure,Sem.run],.int _ _⟩
 case shr=>
  split at h
  ·rename_i hn
   cases h
   subst hn
   refine ⟨.int k (m.fdiv 2),?_,.int _ _⟩
   cases k <;> rfl
  ·cases h
 case eql=>cases h;exact ⟨.bool (decide (m=n)),by simp [binOp,Op.intCmp,pure,Sem.run];try rfl,.bool _⟩
 case neq=>cases h;exact ⟨.bool (!decide (m=n)),by simp [binOp,Op.intCmp,pure,Sem.run];try rfl,.bool _⟩
 case lss=>cases h;exact ⟨.bool (decide (m < n)),by simp [binOp,Op.intCmp,pure,Sem.run],.bool _⟩
 case leq=>cases h;exact ⟨.bool (decide (m≤n)),by simp [binOp,Op.intCmp,pure,Sem.run],.bool _⟩
 case gtr=>cases h;exact ⟨.bool (decide (n < m)),by simp [binOp,Op.intCmp,pure,Sem.run],.bool _⟩
 case geq=>cases h;exact ⟨.bool (decide (n≤m)),by simp [binOp,Op.intCmp,pure,Sem.run],.bool _⟩
theorem bytes_eq (x y:ByteArray):(x.toList == y.toList)=decide (x=y):=by
 have h:(x.toList=y.toList)↔x=y:=⟨fun h=>by
  rw [ByteArray.toList_eq,ByteArray.toList_eq] at h
  cases x;cases y
  congr
  exact Array.ext' h,fun h=>by rw [h]⟩
 rw [Bool.eq_iff_iff,decide_eq_true_iff,← h,beq_iff_eq]
theorem strS_ok {b:BinOp} {t:Nat} {x y:ByteArray} {z:AV} (h:strS b x y=some z):∃ u,(binOp b t (.string x) (.string y)).run P w=.ok u w∧VR A w z u:=by
 cases b <;> simp only [strS] at h <;> first|(cases h;done)|skip
 case eql=>cases h;exact ⟨.bool (decide (x=y)),by simp only [binOp,Op.stringOp,bytes_eq];rfl,.bool _⟩
 case neq=>cases h;exact ⟨.bool (!decide (x=y)),by simp only [binOp,Op.stringOp,bytes_eq];rfl,.bool _⟩
 case add=>
  split at h
  ·rename_i hl
   cases h
   refine ⟨.string (x++y),?_,.str _⟩
   have:¬ (((x.size+y.size:Nat):Int) > IntKind.i64.max):=by
    have:IntKind.i64.max=9223372036854775807:=by decide
    rw [this];omega
   simp only [binOp,Op.stringOp,if_neg this]
   rfl
  ·cases h
theorem aggEq_ok {b:BinOp} {t:Nat} {x y:Operand} {cs ds:List AV} {z:AV} {u v:Value} (h:aggEq P b t cs ds=some z) (hx:VR A w (.agg cs) u) (hy:VR A w (.agg ds) v):∃ r,(do eqGuard b t x y u v;binOp b t u v).run P w=.ok r w∧VR A w z r:=by
 unfold aggEq at h
 split at h
 ·cases h
 ·rename_i hg
  split at h
  ·rename_i n ht
   split at h
   ·rename_i r hr
    cases hx with
    | agg _ us hl1 hr1=>
     cases hy with
     | agg _ vs hl2 hr2=>
      have he:=run_eqC (M:=A) (w:=w) 20 10000 t true n cs ds r _ _ (by decide) ht hr ⟨us,rfl,hl1,hr1⟩ ⟨vs,rfl,hl2,hr2⟩
      obtain ⟨q,h1,h2⟩:=run_same (M:=A) (w:=w) (t:=t) h (x:=.agg us) (y:=.agg vs) he (fun _ _ h=>by cases h) (fun _ _ h=>by cases h) (fun _ _ _ h=>by cases h) (fun _ h=>by cases h)
      exact ⟨q,by simp only [Sem.run_bind,run_eqGuard_agg w b t x y us vs hg,Result.andThen_ok,h1],h2⟩
   ·cases h
  ·cases h
theorem ptrT_spec {t:Nat} (h:ptrT P t=true):∃ e,P.underlying t=some (.pointer e):=by
 unfold ptrT at h
 split at h
 ·rename_i e hu;exact ⟨e,hu⟩
 ·cases h
theorem ifT_spec {t:Nat} (h:ifT P t=true):∃ e,P.underlying t=some (.interface e):=by
 unfold ifT at h
 split at h
 ·rename_i e hu;exact ⟨e,hu⟩
 ·cases h
theorem isSlT_spec {t:Nat} (h:isSlT P t=true):∃ e,P.underlying t=some (.slice e):=by
 unfold isSlT at h
 split at h
 ·rename_i e hu;exact ⟨e,hu⟩
 ·cases h
theorem binS_ok {b:BinOp} {t:Nat} {x y:Operand} {s s':SV} {z:AV} {u v:Value} (h:binS P b t (isK x || isK y) s s'=some z) (hs:SR A L w s u) (hs':SR A L w s' v):∃ r,(do eqGuard b t x y u v;binOp b t u v).run P w=.ok r w∧VR A w z r:=by
 have plain:∀ {u v:Value},(∀ us vs,u=.agg us→v=.agg vs→False)→(u=.nilIface→v=.nilIface→(isK x || isK y)=true)→(∃ r,(binOp b t u v).run P w=.ok r w∧VR A w z r)→∃ r,(do eqGuard b t x y u v;binOp b t u v).run P w=.ok r w∧VR A w z r:=fun {u v} h1 h2 ⟨r,h3,h4⟩=>
  ⟨r,by simp only [Sem.run_bind,run_guard h1 h2,Result.andThen_ok,h3],h4⟩
 unfold binS at h
 split at h
 ·split at h
  ·rename_i e
   subst e
   obtain rfl:=inv_int hs
   obtain rfl:=inv_int hs'
   exact plain (fun _ _ h=>by cases h) (fun h=>by cases h) (intS_ok h)
  ·cases h
 ·rename_i p q
  obtain rfl:=inv_bool hs
  obtain rfl:=inv_bool hs'
  refine plain (fun _ _ h=>by cases h) (fun h=>by cases h) ?_
  split at h
  ·rename_i hb
   unfold isBoolT at hb
   split at hb
   ·rename_i hu
    cases b <;> simp only [boolS] at h <;> first|(cases h;done)|skip
    ·cases h;exact ⟨.bool (p == q),run_eql_bool w t p q hu,.bool _⟩
    ·cases h
     refine ⟨.bool (!(p == q)),?_,.bool _⟩
     simp only [binOp,Sem.run_bind,run_equal_bool w t p q hu,Result.andThen_ok];rfl
   ·cases hb
  ·cases h
 ·obtain rfl:=inv_str hs
  obtain rfl:=inv_str hs'
  exact plain (fun _ _ h=>by cases h) (fun h=>by cases h) (strS_ok h)
 ·cases hs with
  | t _ _ hs=>cases hs' with|t _ _ hs'=>exact aggEq_ok h hs hs'
 ·obtain ⟨b',o,us,rfl,_⟩:=inv_tp hs
  obtain rfl:=inv_lit hs'
  split at h
  ·rename_i hp
   obtain ⟨e,hu⟩:=ptrT_spec hp
   exact plain (fun _ _ h=>by cases h) (fun h=>by cases h) (run_same h (eqn_ptr hu _) (fun _ _ h=>by cases h) (fun _ _ h=>by cases h) (fun _ _ _ h=>by cases h) (fun _ h=>by cases h))
  ·cases h
 ·obtain ⟨g,_,rfl⟩:=inv_lp hs
  obtain rfl:=inv_lit hs'
  split at h
  ·rename_i hp
   obtain ⟨e,hu⟩:=ptrT_spec hp
   exact plain (fun _ _ h=>by cases h) (fun h=>by cases h) (run_same h (eqn_ptr hu _) (fun _ _ h=>by cases h) (fun _ _ h=>by cases h) (fun _ _ _ h=>by cases h) (fun _ h=>by cases h))
  ·cases h
 ·obtain ⟨b',m,c,_,rfl⟩:=inv_le hs
  obtain rfl:=inv_lit hs'
  split at h
  ·rename_i hp
   obtain ⟨e,hu⟩:=ptrT_spec hp
   exact plain (fun _ _ h=>by cases h) (fun h=>by cases h) (run_same h (eqn_ptr hu _) (fun _ _ h=>by cases h) (fun _ _ h=>by cases h) (fun _ _ _ h=>by cases h) (fun _ h=>by cases h))
  ·cases h
 ·obtain rfl:=inv_lit hs
  obtain rfl:=inv_lit hs'
  split at h
  ·rename_i hp
   obtain ⟨e,hu⟩:=ptrT_spec hp
   exact plain (fun _ _ h=>by cases h) (fun h=>by cases h) (run_same h (eqn_ptr0 hu) (fun _ _ h=>by cases h) (fun _ _ h=>by cases h) (fun _ _ _ h=>by cases h) (fun _ h=>by cases h))
  ·cases h
 ·obtain rfl:=inv_lit hs
  obtain rfl:=inv_lit hs'
  split at h
  ·rename_i hp
   rw [Bool.and_eq_true] at hp
   obtain ⟨e,hu⟩:=ifT_spec hp.1
   exact plain (fun _ _ h=>by cases h) (fun _ _=>hp.2) (run_same h (eqn_if0 hu) (fun _ _ h=>by cases h) (fun _ _ h=>by cases h) (fun _ _ _ h=>by cases h) (fun _ h=>by cases h))
  ·cases h
 ·obtain rfl:=inv_lit hs'
  cases hs with
  | t _ _ hs=>
   cases hs with
   | ifn tt vv=>
    split at h
    ·rename_i hp
     obtain ⟨e,hu⟩:=ifT_spec hp
     exact plain (fun _ _ h=>by cases h) (fun h=>by cases h) (run_same h (eqn_if hu _ _) (fun _ _ h=>by cases h) (fun _ _ h=>by cases h) (fun _ _ _ h=>by cases h) (fun _ h=>by cases h))
    ·cases h
 ·cases hs
  cases hs'
  split at h
  ·rename_i hp
   obtain ⟨e,hu⟩:=isSlT_spec hp
   exact plain (fun _ _ h=>by cases h) (fun h=>by cases h) (run_same h (eqn_sl0 hu) (fun _ _ h=>by cases h) (fun _ _ h=>by cases h) (fun _ _ _ h=>by cases h) (fun _ h=>by cases h))
  ·cases h
 ·cases hs'
  cases hs with
  | t _ _ hs=>
   split at h
   ·rename_i hp
    obtain ⟨e,hu⟩:=isSlT_spec hp
    cases hs with
    | arr b' o c=>
     exact plain (fun _ _ h=>by cases h) (fun h=>by cases h) (run_same h (eqn_sl hu _ _ _) (fun _ _ h=>by cases h) (fun _ _ h=>by cases h) (fun _ _ _ h=>by cases h) (fun _ h=>by cases h))
   ·cases h
 ·cases hs'
  cases hs with
  | nn _ q c hs=>
   split at h
   ·rename_i hp
    obtain ⟨e,hu⟩:=isSlT_spec hp
    exact plain (fun _ _ h=>by cases h) (fun h=>by cases h) (run_same h (eqn_sl hu _ _ _) (fun _ _ h=>by cases h) (fun _ _ h=>by cases h) (fun _ _ _ h=>by cases h) (fun _ h=>by cases h))
   ·cases h
 ·cases hs'
  cases hs with
  | tc _ q hs=>
   split at h
   ·rename_i hp
    obtain ⟨e,hu⟩:=isSlT_spec hp
    generalize hn:(List.length (_::_))=n at hs
    cases hs with
    | arr b' o c=>
     exact plain (fun _ _ h=>by cases h) (fun h=>by cases h) (run_same h (eqn_sl hu _ _ _) (fun _ _ h=>by cases h) (fun _ _ h=>by cases h) (fun _ _ _ h=>by cases h) (fun _ h=>by cases h))
   ·cases h
 ·cases h
end
end Go.Proofs.YtjdhnoffoknlnaaGreatDoor
namespace Go.Proofs.YtjdhnoffoknlnaaGreatDoor
open Go.RowKit
section
variable {P:Program} {L:Ls} {w:World} {A:Nat→Prop}
theorem oneS_plain {x:SV} {v:Value} (hx:oneS x=true) (h:SR A L w x v):plainV v=true:=by
 cases h with
 | t y v h=>cases h <;> first|rfl|(simp [oneS] at hx;done)|(rename_i h;cases v <;> first|rfl|cases h)
 | nil=>rfl
 | tc=>rfl
 | nn=>rfl
 | lp=>rfl
 | ls i v h hp=>exact hp
 | lv=>rfl
 | le=>rfl
 | lm=>rfl
 | lo i p t v h hv hp=>exact hp
 | lr=>rfl
 | agg=>simp [oneS] at hx
 | tup=>simp [oneS] at hx
 | fn=>rfl
 | yes=>simp [oneS] at hx
 | no=>simp [oneS] at hx
 | dead=>simp [oneS] at hx
theorem plain_cells {v:Value} (h:plainV v=true):v.cells=#[v]:=by cases v <;> first|rfl|cases h
theorem cellsS_ok {x:SV} {v:Value} (h:SR A L w x v) (hp:∀ y∈cellsS x,oneS y=true):(cellsS x).length=v.cells.size∧∀ (k:Nat) (y:SV) (u:Value),(cellsS x)[k]?=some y→v.cells[k]?=some u→SR A L w y u:=by
 have one:cellsS x=[x]→(cellsS x).length=v.cells.size∧∀ (k:Nat) (y:SV) (u:Value),(cellsS x)[k]?=some y→v.cells[k]?=some u→SR A L w y u:=fun hx=>by
  have hv:=plain_cells (oneS_plain (hp x (by rw [hx];simp)) h)
  rw [hx,hv]
  refine ⟨rfl,fun k y u hy hu=>?_⟩
  match k,hy,hu with
  | 0,hy,hu=>cases hy;cases hu;exact h
 cases x with
 | agg cs=>cases h with|agg _ us hl hr=>exact ⟨by simp [cellsS,Value.cells,hl],fun k y u hy hu=>hr k y u hy hu⟩
 | t y=>
  cases y with
  | agg cs=>
   cases h with
   | t _ _ h=>
    cases h with
    | agg _ us hl hr=>
     refine ⟨by simp [cellsS,Value.cells,hl],fun k y u hy hu=>?_⟩
     simp only [cellsS,List.getElem?_map] at hy
     cases hc:cs[k]? with
     | none=>rw [hc] at hy;cases hy
     | some c=>rw [hc] at hy;cases hy;exact .t _ _ (hr k c u hc hu)
  | _=>exact one rfl
 | _=>exact one rfl
theorem cells_plain {x:SV} {v:Value} (h:SR A L w x v) (hp:∀ y∈cellsS x,oneS y=true):∀ u∈v.cells.toList,plainV u=true:=fun u hu=>by
 obtain ⟨hl,hr⟩:=cellsS_ok h hp
 obtain ⟨k,hk,rfl⟩:=List.mem_iff_getElem.1 hu
 have hk':k < v.cells.size:=by simpa using hk
 obtain ⟨y,hy⟩:=get_of_lt (xs:=cellsS x) (k:=k) (by omega)
 exact oneS_plain (hp y (List.mem_of_getElem? hy)) (hr k y _ hy (by simp [hk']))
def putL (us:Array Value) (o:Nat):List Value→Array Value
 | []=>us
 | v::vs=>putL (us.setIfInBounds o v) (o+1) vs
theorem putL_size:∀ (vs:List Value) (us:Array Value) (o:Nat),(putL us o vs).size=us.size
 | [],_,_=>rfl
 | v::vs,us,o=>by rw [putL,putL_size vs];simp
theorem putS_len:∀ (xs:List SV) (cs:List SV) (j:Nat),(putS cs j xs).length=cs.length
 | [],_,_=>rfl
 | x::xs,cs,j=>by rw [putS,putS_len xs];simp
theorem put_rel2:∀ (xs:List SV) (vs:List Value) (cs:List SV) (us:Array Value) (j:Nat),xs.length=vs.length→us.size=cs.length→(∀ (k:Nat) (x:SV) (u:Value),cs[k]?=some x→us[k]?=some u→SR A L w x u)→(∀ (k:Nat) (x:SV) (u:Value),xs[k]?=some x→vs[k]?=some u→SR A L w x u)→
  ∀ (k:Nat) (x:SV) (u:Value),(putS cs j xs)[k]?=some x→(putL us j vs)[k]?=some u→SR A L w x u
 | [],[],cs,us,j,_,_,h,_=>h
 | x::xs,v::vs,cs,us,j,hl,hu,h,hx=>by
  refine put_rel2 xs vs (cs.set j x) (us.setIfInBounds j v) (j+1) (by simpa using hl) (by simp [hu]) (fun k y u hy hku=>?_) fun k y u hy hku=>hx (k+1) y u (by simpa using hy) (by simpa using hku)
  by_cases hk:j=k
  ·subst hk
   have hj:j < cs.length:=by have:=lt_of_get hy;simpa using this
   rw [List.getElem?_set_self hj] at hy
   rw [Array.getElem?_setIfInBounds_self_of_lt (by omega)] at hku
   cases hy;cases hku
   exact hx 0 _ _ rfl rfl
  ·rw [List.getElem?_set_ne hk] at hy
   rw [Array.getElem?_setIfInBounds_ne hk] at hku
   exact h k y u hy hku
 | [],_::_,_,_,_,hl,_,_,_=>by simp at hl
 | _::_,[],_,_,_,hl,_,_,_=>by simp at hl
theorem foldl_put:∀ (l:List Value) (us:Array Value) (off n:Nat),(l.zipIdx n).foldl (fun cs (p:Value×Nat)=>cs.setIfInBounds (off+p.2) p.1) us=putL us (off+n) l
 | [],_,_,_=>rfl
 | v::l,us,off,n=>by
  rw [List.zipIdx_cons,List.foldl_cons,foldl_put l,putL,Nat.add_assoc]
theorem fill_ok {place:Nat→Option (Nat×Nat)}:∀ (ps:List (Nat×SV)) (vs:List (Nat×Value)) (cs cs':List SV) (us:Array Value),fillS place cs ps=some cs'→ps.length=vs.length→us.size=cs.length→(∀ (k:Nat) (x:SV) (u:Value),cs[k]?=some x→us[k]?=some u→SR A L w x u)→
  (∀ (k:Nat) (p:Nat×SV) (q:Nat×Value),ps[k]?=some p→vs[k]?=some q→p.1=q.1∧(cellsS p.2).length=q.2.cells.size∧∀ (j:Nat) (y:SV) (u:Value),(cellsS p.2)[j]?=some y→q.2.cells[j]?=some u→SR A L w y u)→
  ∃ us',Instr.fill place us vs=some us'∧us'.size=cs'.length∧∀ (k:Nat) (x:SV) (u:Value),cs'[k]?=some x→us'[k]?=some u→SR A L w x u
 | [],[],cs,cs',us,h,_,hu,hr,_=>by
  cases h
  exact ⟨us,rfl,hu,hr⟩
 | (i,x)::ps,(j,v)::vs,cs,cs',us,h,hl,hu,hr,hp=>by
  obtain ⟨h1,h2,h3⟩:=hp 0 (i,x) (j,v) rfl rfl
  simp only at h1 h2 h3
  subst h1
  unfold fillS at h
  cases hpl:place i with
  | none=>rw [hpl] at h;cases h
  | some q=>
   obtain ⟨off,size⟩:=q
   rw [hpl] at h
   simp only at h
   split at h
   ·rename_i hc
    obtain ⟨us',e1,e2,e3⟩:=fill_ok ps vs (putS cs off (cellsS x)) cs' (putL us off v.cells.toList) h (by simpa using hl) (by rw [putL_size,putS_len,hu]) (put_rel2 _ _ _ _ _ (by simp;omega) hu hr fun k y u hy hku=>h3 k y u hy (by simpa using hku)) fun k p q hk1 hk2=>hp (k+1) p q (by simpa using hk1) (by simpa using hk2)
    refine ⟨us',?_,e2,e3⟩
    unfold Instr.fill
    rw [hpl]
    simp only
    have hcond:(v.cells.size≠size || off+v.cells.size > us.size)=false:=by simp;omega
    rw [if_neg (by rw [← Bool.not_eq_true] at hcond;simpa using hcond)]
    rw [← e1]
    congr 1
    have:=foldl_put v.cells.toList us off 0
    rw [Nat.add_zero] at this
    rw [← this,← Array.foldl_toList,Array.toList_zipIdx]
   ·cases h
 | [],_::_,_,_,_,_,hl,_,_,_=>by simp at hl
 | _::_,[],_,_,_,_,hl,_,_,_=>by simp at hl
theorem built_ok {t:Nat} {sp:List (Nat×SV)} {cs:List SV} (hb:builtS P t sp=some cs) {vs:List (Nat×Value)} (hl:sp.length=vs.length)
  (hp:∀ (k:Nat) (p:Nat×SV) (q:Nat×Value),sp[k]?=some p→vs[k]?=some q→p.1=q.1∧(cellsS p.2).length=q.2.cells.size∧∀ (j:Nat) (y:SV) (u:Value),(cellsS p.2)[j]?=some y→q.2.cells[j]?=some u→SR A L w y u) :
  ∃ us,P.built t vs=some us∧us.size=cs.length∧∀ (k:Nat) (x:SV) (u:Value),cs[k]?=some x→us[k]?=some u→SR A L w x u:=by
 unfold builtS at hb
 cases hz:zeroT P t with
 | none=>rw [hz] at hb;cases P.underlying t <;> simp at hb
 | some zs=>
  have hz0:=hz
  unfold zeroT at hz
  cases hi:P.info? t with
  | none=>rw [hi] at hz;cases hz
  | some i=>
   rw [hi,Option.bind_some] at hz
   cases hzz:i.zero with
   | none=>rw [hzz] at hz;cases hz
   | some z=>
    rw [hzz] at hz
    cases hz
    have hzr:∀ (k:Nat) (x:SV) (u:Value),(z.cells.toList.map cv)[k]?=some x→z.cells[k]?=some u→SR A L w x u:=fun k x u hx hu=>by
     rw [List.getElem?_map,Array.getElem?_toList,hu] at hx
     cases hx
     exact cv_ok u
    rw [hz0] at hb
    cases hu:P.underlying t with
    | none=>rw [hu] at hb;cases hb
    | some d=>
     rw [hu] at hb
     unfold Program.built
     rw [hi,hu]
     cases d with
     | struct fields=>
      simp only at hb ⊢
      cases hpl:fields.toList.mapM (fun f=>(P.info? f.type).map fun i=>(f.offset,i.size)) with
      | none=>rw [hpl] at hb;cases hb
      | some places=>
       rw [hpl] at hb
       simp only [hzz] at hb ⊢
       exact fill_ok sp vs _ cs z.cells hb hl (by simp) hzr hp
     | array n e=>
      simp only at hb ⊢
      cases hie:P.info? e with
      | none=>rw [hie] at hb;cases hb
      | some ie=>
       rw [hie] at hb
       simp only [hzz] at hb ⊢
       exact fill_ok sp vs _ cs z.cells hb hl (by simp) hzr hp
     | _=>simp at hb
theorem chunk_ok {sz:Nat}:∀ {n:Nat} {cs:List SV} {es:List (List AV)},chunk sz n cs=some es→es.length=n∧cs.length=n * sz∧(∀ (k:Nat) (xs:List AV),es[k]?=some xs→xs.length=sz)∧∀ (k j:Nat) (xs:List AV) (x:AV) (s:SV) (v:Value),es[k]?=some xs→xs[j]?=some x→cs[k * sz+j]?=some s→SR A L w s v→VR A w x v
 | 0,[],es,h=>by cases h;exact ⟨rfl,by simp,fun k xs h=>by simp at h,fun k j xs x s v h _=>by simp at h⟩
 | 0,_::_,es,h=>by cases h
 | n+1,cs,es,h=>by
  unfold chunk at h
  split at h
  ·rename_i xs hm
   split at h
   ·rename_i hl
    cases hc:chunk sz n (cs.drop sz) with
    | none=>rw [hc] at h;cases h
    | some es'=>
     rw [hc] at h
     cases h
     obtain ⟨h1,h2,h3,h4⟩:=chunk_ok hc
     obtain ⟨p1,p2⟩:=pursN_ok (A:=A) (L:=L) (w:=w) hm
     have hcl:sz≤cs.length:=by rw [List.length_take] at p1;omega
     refine ⟨by simp [h1],by rw [List.length_drop] at h2;rw [Nat.add_mul];omega,fun k ys hk=>?_,fun k j ys x s v hk hj hs hv=>?_⟩
     ·cases k with
      | zero=>cases hk;exact hl
      | succ k=>exact h3 k ys (by simpa using hk)
     ·cases k with
      | zero=>
       cases hk
       have hjl:=lt_of_get hj
       refine p2 j s x v ?_ hj hv
       rw [List.getElem?_take,if_pos (by omega)]
       simpa using hs
      | succ k=>
       refine h4 k j ys x s v (by simpa using hk) hj ?_ hv
       rw [List.getElem?_drop,← hs]
       congr 1
       rw [Nat.add_mul];omega
   ·cases h
  ·cases h
theorem rowT_spec {t e sz by_:Nat} (h:rowT P t=some (e,sz,by_)):∃ i z,P.underlying t=some (.slice e)∧P.info? e=some i∧i.zero=some z∧i.size=sz∧i.bytes=by_∧z.cells.size=sz∧0 < sz:=by
 unfold rowT at h
 split at h
 ·rename_i e' hu
  cases hi:P.info? e' with
  | none=>rw [hi] at h;cases h
  | some i=>
   rw [hi] at h
   simp only at h
   cases hz:i.zero with
   | none=>rw [hz] at h;cases h
   | some z=>
    rw [hz] at h
    simp only at h
    split at h
    ·rename_i hc
     cases h
     exact ⟨i,z,hu,hi,hz,rfl,rfl,hc.1,hc.2⟩
    ·cases h
 ·cases h
theorem builtSl_ok {t len:Nat} {sp:List (Nat×SV)} {vs:List (Nat×Value)} {es:List (List AV)} (hb:builtSl P t len sp=some es) (hl:sp.length=vs.length)
  (hp:∀ (k:Nat) (p:Nat×SV) (q:Nat×Value),sp[k]?=some p→vs[k]?=some q→p.1=q.1∧(cellsS p.2).length=q.2.cells.size∧∀ (j:Nat) (y:SV) (u:Value),(cellsS p.2)[j]?=some y→q.2.cells[j]?=some u→SR A L w y u) :
  ∃ (e sz:Nat) (us:Array Value),(Instr.buildSlice t len vs.toArray).run P w=.ok (.slice (some ⟨w.heap.size,0,none⟩) len len) (w.alloc (.cells us e))∧0 < sz∧len≤16777216∧us.size=len * sz∧es.length=len∧(∀ (k:Nat) (cs:List AV),es[k]?=some cs→cs.length=sz)∧
   ∀ (k j:Nat) (cs:List AV) (x:AV),es[k]?=some cs→cs[j]?=some x→∃ u,us[k * sz+j]?=some u∧VR A w x u:=by
 unfold builtSl at hb
 split at hb
 ·rename_i e hu
  split at hb
  ·rename_i inf hi
   split at hb
   ·rename_i z hz
    split at hb
    ·rename_i hc
     cases hf:fillS (fun k=>some (k * inf.size,inf.size)) ((List.range (len * inf.size)).map fun q=>cv (z.cells.getD (q % inf.size) undef)) sp with
     | none=>rw [hf] at hb;cases hb
     | some cs=>
      rw [hf] at hb
      obtain ⟨c1,c2,c3,c4⟩:=chunk_ok (A:=A) (L:=L) (w:=w) hb
      have hzs:=hc.1
      have hpos:=hc.2.1
      obtain ⟨us,f1,f2,f3⟩:=fill_ok (A:=A) (L:=L) (w:=w) sp vs _ cs ((Array.range (len * inf.size)).map (z.cells[· % z.cells.size]!)) hf hl (by simp) (fun k x u hx hku=>by
       rw [List.getElem?_map] at hx
       cases hr:(List.range (len * inf.size))[k]? with
       | none=>rw [hr] at hx;cases hx
       | some q=>
        rw [hr] at hx
        cases hx
        have hk:k < len * inf.size:=by have:=lt_of_get hr;simpa using this
        rw [List.getElem?_range hk] at hr
        cases hr
        have hlt:k % inf.size < z.cells.size:=by rw [hzs];exact Nat.mod_lt _ hpos
        simp [hk,hzs] at hku
        rw [← hku]
        have e1:z.cells.getD (k % inf.size) undef=z.cells[k % inf.size]!:=by
         rw [Array.getD_eq_getD_getElem?,Array.getElem?_eq_getElem hlt,getElem!_pos z.cells _ hlt];rfl
        show SR A L w (cv (z.cells.getD (k % inf.size) undef)) _
        rw [e1]
        exact cv_ok _) hp
      have hlen:len≤16777216:=by
       have:len * 1≤len * inf.size:=Nat.mul_le_mul_left _ hpos
       omega
      refine ⟨e,inf.size,us,?_,hpos,hlen,by rw [f2,c2],c1,c3,fun k j xs x hk hj=>?_⟩
      ·have h24:¬ (len * inf.size > 2 ^ 24):=by have:=hc.2.2;omega
       generalize hZ:((Array.range (len * inf.size)).map (z.cells[· % z.cells.size]!))=Z at f1
       by_cases h0:len * inf.size=0
       ·have hz0:(Array.range (len * inf.size)).map (fun x=>((#[]:Array Value)[x % (#[]:Array Value).size]!))=Z:=by rw [← hZ,h0];simp
        unfold Instr.buildSlice
        simp only [Sem.run_bind,run_underlying hu,Result.andThen_ok,run_size hi,if_neg h24,if_pos h0,Sem.run_pure,hz0,List.map_toArray,Array.toList_map,f1]
        simp [f1,newRow,newObj,Sem.run_bind,pure,Sem.run]
       ·unfold Instr.buildSlice
        simp only [Sem.run_bind,run_underlying hu,Result.andThen_ok,run_size hi,if_neg h24,if_neg h0,Sem.run_pure,run_zero hi hz,hZ,Array.toList_map,f1]
        simp [f1,newRow,newObj,Sem.run_bind,pure,Sem.run]
      ·have hkk:=lt_of_get hk
       have hjj:j < inf.size:=by rw [← c3 k xs hk];exact lt_of_get hj
       have hlt:k * inf.size+j < us.size:=by
        rw [f2,c2,← c1]
        have:(k+1) * inf.size≤es.length * inf.size:=Nat.mul_le_mul_right _ hkk
        rw [Nat.add_mul] at this;omega
       have hcs:k * inf.size+j < cs.length:=by rw [← f2];exact hlt
       exact ⟨us[k * inf.size+j],Array.getElem?_eq_getElem hlt,c4 k j xs x _ _ hk hj (List.getElem?_eq_getElem hcs) (f3 _ _ _ (List.getElem?_eq_getElem hcs) (Array.getElem?_eq_getElem hlt))⟩
    ·cases hb
   ·cases hb
  ·cases hb
 ·cases hb
end
end Go.Proofs.YtjdhnoffoknlnaaGreatDoor
namespace Go.Proofs.YtjdhnoffoknlnaaGreatDoor
open Go.RowKit
section
variable {P:Program} {A:Nat→Prop} {L:Ls} {w:World}
theorem boundS_ok {x:Option SV} {u:Option Value} {d y r:Nat} (h:boundS x d y=some r) (hu:∀ s,x=some s→∃ v,u=some v∧SR A L w s v) (hn:x=none→u=none):(u=none∧r=d)∨∃ k m,u=some (.int k m)∧0≤m∧m≤y∧r=m.toNat∧r≤y:=by
 unfold boundS at h
 split at h
 ·cases h;exact .inl ⟨hn rfl,rfl⟩
 ·rename_i k m
  obtain ⟨v,rfl,hv⟩:=hu _ rfl
  obtain rfl:=inv_int hv
  split at h
  ·rename_i hb
   cases h
   rw [Bool.and_eq_true,Nat.ble_eq] at hb
   have h0:0≤m:=of_decide_eq_true hb.1
   exact .inr ⟨k,m,rfl,h0,by omega,rfl,hb.2⟩
  ·cases h
 ·cases h
theorem cutS_ok {lo hi:Option SV} {ul uh:Option Value} {n l h:Nat} (hc:cutS lo hi n=some (l,h)) (h1:∀ s,lo=some s→∃ v,ul=some v∧SR A L w s v) (h2:lo=none→ul=none) (h3:∀ s,hi=some s→∃ v,uh=some v∧SR A L w s v) (h4:hi=none→uh=none) {b:Bool} {c:Nat} (hnc:n≤c) :
  (Instr.sliceBounds b n c ul uh none).run P w=.ok (l,h,c) w∧l≤h∧h≤n:=by
 unfold cutS at hc
 split at hc
 ·cases hc
 ·rename_i h' hh
  split at hc
  ·cases hc
  ·rename_i l' hl
   cases hc
   have hlow:∀ {y:Nat},y=h→((ul=none∧l=0)∨∃ k m,ul=some (.int k m)∧0≤m∧m≤y∧l=m.toNat∧l≤y):=fun e=>by subst e;exact boundS_ok hl h1 h2
   rcases boundS_ok hh h3 h4 with ⟨rfl,rfl⟩|⟨k,m,rfl,m0,m1,rfl,m2⟩
   ·rcases hlow rfl with ⟨rfl,rfl⟩|⟨k',m',rfl,p0,p1,rfl,p2⟩
    ·exact ⟨by simp [Instr.sliceBounds,Sem.run_bind,pure,Sem.run],by omega,Nat.le_refl _⟩
    ·exact ⟨by simp [Instr.sliceBounds,Sem.run_bind,run_sliceBound,p0,p1,pure,Sem.run],p2,Nat.le_refl _⟩
   ·have mc:m≤(c:Int):=by omega
    rcases hlow rfl with ⟨rfl,rfl⟩|⟨k',m',rfl,p0,p1,rfl,p2⟩
    ·exact ⟨by simp [Instr.sliceBounds,Sem.run_bind,run_sliceBound,m0,mc,pure,Sem.run],by omega,m2⟩
    ·have p1':m'≤m:=by omega
     exact ⟨by simp [Instr.sliceBounds,Sem.run_bind,run_sliceBound,m0,mc,p0,p1',Int.toNat_of_nonneg m0,pure,Sem.run],p2,m2⟩
theorem arr_cut {es:List (List AV)} {a:Option Addr} {n c l h:Nat} (hv:VR A w (.arr es) (.slice a n c)) (hlh:l≤h) (hn:h≤n) {S:Nat} (hS:okSz S es=true) :
  VR A w (.arr ((es.take h).drop l)) (.slice (if c=l then a else a.map (·.add (l * S))) (h - l) (c - l)):=by
 rcases Nat.eq_zero_or_pos (h - l) with h0|h0
 ·have:(es.take h).drop l=[]:=List.drop_eq_nil_of_le (by rw [List.length_take];omega)
  rw [this,h0]
  exact .arr0 _ _
 ·cases hv with
  | arr0=>omega
  | arr b o _ sz _ us hne hlen hcap hb hM hs hc hr=>
   have hss:sz=S:=by
    obtain ⟨e0,he⟩:=get_of_lt (xs:=es) (k:=0) (by cases es with|nil=>exact absurd rfl hne|cons=>simp)
    rw [← hs 0 e0 he]
    cases es with
    | nil=>exact absurd rfl hne
    | cons e1 es=>cases he;unfold okSz at hS;simpa using hS
   subst hss
   have hl:((es.take h).drop l).length=h - l:=by rw [List.length_drop,List.length_take];omega
   have hat:∀ (k:Nat) (cs:List AV),((es.take h).drop l)[k]?=some cs→es[l+k]?=some cs∧k < h - l:=fun k cs hk=>by
    have hkl:=lt_of_get hk
    rw [List.getElem?_drop,List.getElem?_take] at hk
    rw [hl] at hkl
    rw [if_pos (by omega)] at hk
    exact ⟨hk,hkl⟩
   rw [if_neg (by omega),← hl]
   simp only [Option.map_some,addr_add]
   refine .arr b (o+l * sz) (c - l) sz _ (fun k j=>us (l+k) j) (fun e=>by rw [e] at hl;simp at hl;omega) (by omega) (by omega) hb hM (fun k cs hk=>hs _ _ (hat k cs hk).1) (fun k j hk hj=>?_) (fun k j cs x hk hj=>hr _ _ _ _ (hat k cs hk).1 hj)
   have:=hc (l+k) j (by omega) hj
   rwa [Nat.add_mul,Nat.add_assoc,← Nat.add_assoc o,Nat.add_assoc,← Nat.add_assoc] at this
theorem treeSl_ok {x:SV} {es:List (List AV)} {v:Value} (h:treeSl x=some es) (hv:SR A L w x v):VR A w (.arr es) v:=by
 unfold treeSl at h
 split at h <;> cases h
 ·exact sl_tree hv (.inl rfl)
 ·exact sl_tree hv (.inr (.inl rfl))
 ·exact sl_tree hv (.inr (.inr (.inl rfl)))
 ·exact sl_tree hv (.inr (.inr (.inr ⟨rfl,rfl⟩)))
theorem sliceS_ok {t:Nat} {s x:SV} {lo hi mx:Option SV} {v:Value} {ul uh um:Option Value} (h:sliceS P t s lo hi mx=some x) (hs:SR A L w s v) (h1:∀ s,lo=some s→∃ v,ul=some v∧SR A L w s v) (h2:lo=none→ul=none) (h3:∀ s,hi=some s→∃ v,uh=some v∧SR A L w s v) (h4:hi=none→uh=none) (h5:mx=none→um=none) :
  ∃ y,(Instr.sliceAt t v ul uh um).run P w=.ok y w∧SR A L w x y:=by
 unfold sliceS at h
 split at h
 ·cases h
 ·obtain rfl:=h5 rfl
  split at h
  ·rename_i str
   obtain rfl:=inv_str hs
   split at h
   ·cases h
   ·rename_i ht
    unfold isStrT at ht
    split at ht
    ·rename_i hu
     split at h
     ·rename_i l r hc
      cases h
      obtain ⟨hb,_,_⟩:=cutS_ok (P:=P) hc h1 h2 h3 h4 (b:=false) (Nat.le_refl _)
      exact ⟨_,by simp [Instr.sliceAt,Instr.slice,Sem.run_bind,run_underlying hu,hb,pure,Sem.run],.t _ _ (.str _)⟩
     ·cases h
    ·cases ht
  ·split at h
   ·cases h
   ·rename_i e sz ht
    obtain ⟨i,hu,hi,rfl⟩:=elemT_spec ht
    split at h
    ·cases h
    ·rename_i es htr
     have hv:=treeSl_ok htr hs
     split at h
     ·cases h
     ·rename_i hok
      split at h
      ·rename_i l r hc
       cases h
       obtain ⟨a,c,rfl,hlc⟩:∃ a c,v=.slice a es.length c∧es.length≤c:=by
        cases hv with
        | arr0 a c=>exact ⟨a,c,rfl,Nat.zero_le _⟩
        | arr b o c _ _ _ _ _ hcap=>exact ⟨_,c,rfl,hcap⟩
       obtain ⟨hb,hlr,hrn⟩:=cutS_ok (P:=P) hc h1 h2 h3 h4 (b:=true) hlc
       exact ⟨_,by simp [Instr.sliceAt,Instr.slice,Sem.run_bind,run_underlying hu,hb,run_size hi,pure,Sem.run],.t _ _ (arr_cut hv hlr hrn hok)⟩
      ·cases h
theorem run_sliceAt {t e sz n c l h:Nat} {q:Option Addr} {lo hi:Option SV} {ul uh:Option Value} (ht:elemT P t=some (e,sz)) (hc:cutS lo hi n=some (l,h)) (hnc:n≤c) (h1:∀ s,lo=some s→∃ v,ul=some v∧SR A L w s v) (h2:lo=none→ul=none) (h3:∀ s,hi=some s→∃ v,uh=some v∧SR A L w s v) (h4:hi=none→uh=none) :
  (Instr.sliceAt t (.slice q n c) ul uh none).run P w=.ok (.slice (if c=l then q else q.map (·.add (l * sz))) (h - l) (c - l)) w∧l≤h∧h≤n:=by
 obtain ⟨i,hu,hi,rfl⟩:=elemT_spec ht
 obtain ⟨hb,hlr,hrn⟩:=cutS_ok (P:=P) hc h1 h2 h3 h4 (b:=true) hnc
 exact ⟨by simp [Instr.sliceAt,Instr.slice,Sem.run_bind,run_underlying hu,hb,run_size hi,pure,Sem.run],hlr,hrn⟩
theorem viewS_ok {t e r sz a n len b c:Nat} {x:SV} {lo hi:Option SV} {ul uh:Option Value} (ht:elemT P t=some (e,sz)) (h:viewS r sz a n len lo hi=some x) (hL:L r=some (.slice (some ⟨b,0,none⟩) len c)) (hcap:len≤c) (han:a+n≤len) (h1:∀ s,lo=some s→∃ v,ul=some v∧SR A L w s v) (h2:lo=none→ul=none) (h3:∀ s,hi=some s→∃ v,uh=some v∧SR A L w s v) (h4:hi=none→uh=none) :
  ∃ y,(Instr.sliceAt t (.slice (some ⟨b,a * sz,none⟩) n (c - a)) ul uh none).run P w=.ok y w∧SR A L w x y:=by
 unfold viewS at h
 split at h
 ·rename_i l hh hc
  obtain ⟨hrun,hlr,hrn⟩:=run_sliceAt (q:=some ⟨b,a * sz,none⟩) (c:=c - a) ht hc (by omega) h1 h2 h3 h4
  refine ⟨_,hrun,?_⟩
  split at h
  ·rename_i hq
   rw [Bool.and_eq_true,Nat.beq_eq,Nat.beq_eq] at hq
   cases h
   obtain rfl:a=0:=by omega
   obtain rfl:l=0:=by omega
   obtain rfl:hh=len:=hq.2
   have e:(Value.slice (if c - 0=0 then some ⟨b,0 * sz,none⟩ else (some ⟨b,0 * sz,none⟩:Option Addr).map (·.add (0 * sz))) (hh - 0) (c - 0 - 0))=.slice (some ⟨b,0,none⟩) hh c:=by
    simp [addr_add]
   rw [e]
   exact .ls _ _ hL rfl
  ·rename_i hq
   split at h
   ·rename_i hz
    rw [Bool.and_eq_true,Nat.beq_eq] at hz
    cases h
    rw [hz.1]
    exact .t _ _ (.arr0 _ _)
   ·rename_i hz
    cases h
    have hne:¬ (c - a=l):=fun e=>by
     have hq:¬ (a+l=0∧hh=len):=fun ⟨q1,q2⟩=>by simp [q1,q2] at hq
     have hz:¬ (hh - l=0∧0 < a+l):=fun ⟨q1,q2⟩=>by rw [q1,show Nat.blt 0 (a+l)=true from by rw [Nat.blt_eq];exact q2] at hz;exact absurd hz (by decide)
     omega
    rw [if_neg hne]
    simp only [Option.map_some,addr_add]
    rw [← Nat.add_mul,Nat.sub_sub]
    exact .lv r sz (a+l) (hh - l) b len c hL
 ·cases h
theorem sliceO_ok {γ:Glob} {κ:Ctx} {fr:Fr} {t:Nat} {s x:SV} {lo hi mx:Option SV} {v:Value} {ul uh um:Option Value} (hC:Core γ κ fr L w) (h:sliceO P fr t s lo hi mx=some x) (hs:SR (MA κ.M fr L) L w s v) (h1:∀ s,lo=some s→∃ v,ul=some v∧SR (MA κ.M fr L) L w s v) (h2:lo=none→ul=none) (h3:∀ s,hi=some s→∃ v,uh=some v∧SR (MA κ.M fr L) L w s v) (h4:hi=none→uh=none) (h5:mx=none→um=none) (h6:∀ s,mx=some s→∃ v,um=some v∧SR (MA κ.M fr L) L w s v) :
  ∃ y,(Instr.sliceAt t v ul uh um).run P w=.ok y w∧SR (MA κ.M fr L) L w x y:=by
 unfold sliceO at h
 split at h
 ·split at h
  ·cases h
  ·rename_i m e sz ht
   split at h
   ·rename_i r kl l kh hh km mm
    split at h
    ·rename_i ro tch sz' es hb
     split at h
     ·rename_i hz
      cases h
      simp only [Bool.and_eq_true,decide_eq_true_eq] at hz
      obtain ⟨_,z1,z2,z3,z4⟩:=hz
      obtain ⟨hL,_⟩:=inv_ls hs
      obtain ⟨T,us,how,_,⟨q,c,rfl⟩,_⟩:=row_form hC hb hL
      obtain ⟨v1,rfl,w1⟩:=h1 _ rfl
      obtain rfl:=inv_int w1
      obtain ⟨v2,rfl,w2⟩:=h3 _ rfl
      obtain rfl:=inv_int w2
      obtain ⟨v3,rfl,w3⟩:=h6 _ rfl
      obtain rfl:=inv_int w3
      have hnc:(mm:Int)≤c:=by
       rcases how with ⟨h0,_⟩|how
       ·omega
       ·rcases how.2 with ⟨e,h0⟩|⟨_,_,_,e,_,_,hnc,_⟩
        ·omega
        ·cases e;omega
      obtain ⟨i,hu,hi,rfl⟩:=elemT_spec ht
      have m0:0≤mm:=by omega
      have b1:hh≤((mm.toNat:Nat):Int):=by omega
      have b2:l≤((hh.toNat:Nat):Int):=by omega
      have p0:0≤hh:=by omega
      exact ⟨_,by simp [Instr.sliceAt,Instr.slice,Sem.run_bind,run_underlying hu,Instr.sliceBounds,run_sliceBound,m0,hnc,p0,z1,z2,z3,Int.toNat_of_nonneg m0,Int.toNat_of_nonneg p0,run_size hi,pure,Sem.run];rfl,.dead _⟩
     ·cases h
    ·cases h
   ·cases h
 ·obtain rfl:=h5 rfl
  split at h
  ·cases h
  ·rename_i e sz ht
   split at h
   ·rename_i r
    split at h
    ·rename_i ro tch sz' es hb
     split at h
     ·rename_i hz
      obtain rfl:sz=sz':=by simpa using hz
      obtain ⟨hL,_⟩:=inv_ls hs
      obtain ⟨T,us,how,_,⟨q,c,rfl⟩,_⟩:=row_form hC hb hL
      rcases Nat.eq_zero_or_pos es.length with h0|h0
      ·unfold viewS at h
       split at h
       ·rename_i l hh hc
        have hnc:es.length≤c:=by omega
        obtain ⟨hrun,hlr,hrn⟩:=run_sliceAt (q:=q) (c:=c) ht hc hnc h1 h2 h3 h4
        refine ⟨_,hrun,?_⟩
        obtain rfl:l=0:=by omega
        obtain rfl:hh=0:=by omega
        simp only [h0] at h
        cases h
        have e:(Value.slice (if c=0 then q else q.map (·.add (0 * sz))) (0 - 0) (c - 0))=.slice q es.length c:=by
         rw [h0]
         cases q with
         | none=>simp
         | some ad=>
          obtain ⟨b,o,p⟩:=ad
          simp [Addr.add]
        rw [e]
        exact .ls _ _ hL rfl
       ·cases h
      ·rcases (how.own h0).2 with ⟨e,hz⟩|⟨b,cap,cur,e,_,_,hnc,_⟩
       ·omega
       ·cases e
        have:=viewS_ok (a:=0) (n:=es.length) ht h hL hnc (by omega) h1 h2 h3 h4
        rw [Nat.zero_mul,Nat.sub_zero] at this
        exact this
     ·cases h
    ·cases h
   ·rename_i r sz1 a n
    split at h
    ·rename_i ro tch sz' es hb
     split at h
     ·rename_i hz
      rw [Bool.and_eq_true,Bool.and_eq_true,Nat.ble_eq] at hz
      obtain rfl:sz=sz':=by simpa using hz.1
      obtain rfl:sz1=sz:=by simpa using hz.2.1
      obtain ⟨b,m,c,hL,rfl⟩:=inv_lv hs
      obtain ⟨T,us,how,_,⟨q,c',hv⟩,_⟩:=row_form hC hb hL
      cases hv
      have hnc:es.length≤c:=by
       rcases how with ⟨h0,_⟩|how
       ·omega
       ·rcases how.2 with ⟨e,h0⟩|⟨_,_,_,e,_,_,hnc,_⟩
        ·omega
        ·cases e;exact hnc
      exact viewS_ok ht h hL hnc hz.2.2 h1 h2 h3 h4
     ·cases h
    ·cases h
   ·cases h
theorem optop {env:Env} {a:Act} {ops:List Operand} (hop:∀ y∈ops,SR A L w (rd env y) (a.eval y)) (o:Option Operand) (ho:∀ q,o=some q→q∈ops):∀ s,o.map (rd env)=some s→∃ v,o.map a.eval=some v∧SR A L w s v:=fun s hs=>by
 cases o with
 | none=>cases hs
 | some q=>cases hs;exact ⟨_,rfl,hop q (ho q rfl)⟩
theorem optno {env:Env} {a:Act} (o:Option Operand) (h:o.map (rd env)=none):o.map a.eval=none:=by
 cases o with
 | none=>rfl
 | some q=>cases h
end
section
variable {P:Program} {w:World} {γ:Glob} {κ:Ctx} {fr:Fr} {L:Ls}
theorem binO_ok {b:BinOp} {t:Nat} {x y:Operand} {s s':SV} {z:AV} {u v:Value} (hC:Core γ κ fr L w) (h:binO P fr b t s s'=some z) (hs:SR (MA κ.M fr L) L w s u) (hs':SR (MA κ.M fr L) L w s' v):∃ r,(do eqGuard b t x y u v;binOp b t u v).run P w=.ok r w∧VR (MA κ.M fr L) w z r:=by
 have fin:∀ {q:Addr} {n c e:Nat},P.underlying t=some (.slice e)→sameS b false=some z→u=.slice (some q) n c→v=.slice none 0 0→∃ r,(do eqGuard b t x y u v;binOp b t u v).run P w=.ok r w∧VR (MA κ.M fr L) w z r:=fun {q n c e} hu h hu' hv'=>by
  subst hu' hv'
  obtain ⟨r,h3,h4⟩:=run_same (M:=MA κ.M fr L) h (eqn_sl hu q n c) (fun _ _ h=>by cases h) (fun _ _ h=>by cases h) (fun _ _ _ h=>by cases h) (fun _ h=>by cases h)
  exact ⟨r,by simp only [Sem.run_bind,run_guard (x:=x) (y:=y) (b:=b) (t:=t) (u:=.slice (some q) n c) (v:=.slice none 0 0) (fun _ _ h=>by cases h) (fun h=>by cases h),Result.andThen_ok,h3],h4⟩
 unfold binO at h
 split at h
 ·rename_i i
  cases hs'
  split at h
  ·rename_i hp
   obtain ⟨e,hu⟩:=isSlT_spec hp
   split at h
   ·rename_i ro tch sz e0 et hb
    obtain ⟨hL,_⟩:=inv_ls hs
    obtain ⟨T,us,how,_,⟨q,c,rfl⟩,_⟩:=row_form hC hb hL
    rcases (how.own (by simp)).2 with ⟨e,hz⟩|⟨b',cap,cur,e,_⟩
    ·simp at hz
    ·exact fin hu h e rfl
   ·cases h
  ·cases h
 ·cases hs'
  split at h
  ·rename_i hp
   obtain ⟨e,hu⟩:=isSlT_spec hp
   obtain ⟨b',m,c,_,rfl⟩:=inv_lv hs
   exact fin hu h rfl rfl
  ·cases h
 ·cases h
end
section
variable {P:Program} {A:Nat→Prop} {L:Ls} {w:World} {γ:Glob} {κ:Ctx} {fr:Fr}
theorem eqLeaf_now {d:TypeDesc} {x y:AV} {b:Bool} {u v:Value} (h:eqLeaf d [x] [y]=some b) (hu:VR A w x u) (hv:VR A w y v):Instr.sameNow d u v=some b:=by
 unfold eqLeaf at h
 split at h
 ·rename_i e1 e2
  cases e1;cases e2;cases hu;cases hv
  split at h
  ·rename_i hk;cases h;simp [Instr.sameNow,hk];rfl
  ·cases h
 ·rename_i e1 e2;cases e1;cases e2;cases hu;cases hv;cases h;rfl
 ·rename_i e1 e2;cases e1;cases e2;cases hu;cases hv;cases h;rfl
 ·cases h
theorem findA_ok {d:TypeDesc} {k:AV} {u:Value} (hu:VR A w k u):∀ (ks:List AV) (es:List MapEntry) (i:Nat) (r:Option Nat),ks.length=es.length→(∀ (j:Nat) (x:AV) (e:MapEntry),ks[j]?=some x→es[j]?=some e→VR A w x e.key)→findA d k ks i=some r→
  (r=none∧Instr.findNow d u es i=some none)∨∃ j e,r=some (i+j)∧es[j]?=some e∧Instr.findNow d u es i=some (some (i+j,e.val))∧∃ x,ks[j]?=some x∧eqLeaf d [k] [x]=some true
 | [],[],i,r,_,_,h=>by unfold findA at h;cases h;exact .inl ⟨rfl,rfl⟩
 | [],_::_,_,_,hl,_,_=>by simp at hl
 | _::_,[],_,_,hl,_,_=>by simp at hl
 | x::ks,e::es,i,r,hl,hk,h=>by
  unfold findA at h
  have hx:=hk 0 x e rfl rfl
  split at h
  ·rename_i hq
   cases h
   refine .inr ⟨0,e,rfl,rfl,?_,x,rfl,hq⟩
   unfold Instr.findNow
   rw [eqLeaf_now hq hu hx]
   rfl
  ·rename_i hq
   have hn:Instr.findNow d u (e::es) i=Instr.findNow d u es (i+1):=by
    conv=>lhs;unfold Instr.findNow
    rw [eqLeaf_now hq hu hx]
   rcases findA_ok hu ks es (i+1) r (by simpa using hl) (fun j x e h1 h2=>hk (j+1) x e h1 h2) h with ⟨h1,h2⟩|⟨j,e',h1,h2,h3,h4⟩
   ·exact .inl ⟨h1,hn.trans h2⟩
   ·have e1:i+1+j=i+(j+1):=by omega
    rw [e1] at h1 h3
    exact .inr ⟨j+1,e',h1,h2,hn.trans h3,h4⟩
  ·cases h
theorem mapT_spec {t e:Nat} {d:TypeDesc} (h:mapT P t=some (e,d)):∃ k,P.underlying t=some (.map k e)∧P.underlying k=some d∧leafD d=true:=by
 unfold mapT at h
 split at h
 ·rename_i k e' hu
  split at h
  ·rename_i d' hd
   split at h
   ·rename_i hl;cases h;exact ⟨k,hu,hd,hl⟩
   ·cases h
  ·cases h
 ·cases h
theorem run_checkKey_s {k:Nat} {d:TypeDesc} (hk:P.underlying k=some d) (hl:leafD d=true) (b:Bool) (v:Value) (n:Nat):(Instr.checkKey b (n+1) k v).run P w=.ok () w:=by
 unfold Instr.checkKey
 rw [Sem.run_bind,run_underlying hk,Result.andThen_ok]
 cases d <;> first|(cases hl;done)|rfl
theorem run_checkKey {k:Nat} {d:TypeDesc} (hk:P.underlying k=some d) (hl:leafD d=true) (b:Bool) (v:Value):(Instr.checkKey b 10000 k v).run P w=.ok () w:=run_checkKey_s hk hl b v 9999
theorem run_findKey {k:Nat} {d:TypeDesc} (hk:P.underlying k=some d) {v:Value} {es:List MapEntry} {r:Option (Nat×Value)} (h:Instr.findNow d v es 0=some r):(Instr.findKey k v es).run P w=.ok r w:=by
 unfold Instr.findKey
 rw [Sem.run_bind,run_underlying hk,Result.andThen_ok]
 simp only [h]
 rfl
theorem zvS_ok (v:Value):SR A L w (zvS v) v:=by
 unfold zvS
 split
 ·rename_i us
  refine aggS_ok (.agg _ _ (by simp) fun j x u hx hu=>?_)
  rw [List.getElem?_map,Array.getElem?_toList,hu] at hx
  cases hx
  exact cv_ok u
 ·exact cv_ok _
theorem zeroS_ok {e:Nat} {z:SV} (h:zeroS P e=some z):∃ v,(zeroValue e).run P w=.ok v w∧SR A L w z v:=by
 unfold zeroS at h
 split at h
 ·rename_i i hi
  split at h
  ·rename_i z hz;cases h;exact ⟨z,run_zero hi hz w,zvS_ok z⟩
  ·cases h
 ·cases h
theorem mapOf_ok {x:SV} {ks:List AV} {vs:List SV} {v:Value} (hC:Core γ κ fr L w) (h:mapOf fr x=some (ks,vs)) (hx:SR (MA κ.M fr L) L w x v):∃ es:Array MapEntry,((v=.map none∧es=#[])∨∃ r c,v=.map (some r)∧w.heap[r]?=some (.map es c))∧es.size=ks.length∧es.size=vs.length∧(∀ (j:Nat) (y:AV) (e:MapEntry),ks[j]?=some y→es[j]?=some e→VR (MA κ.M fr L) w y e.key)∧∀ (j:Nat) (y:SV) (e:MapEntry),vs[j]?=some y→es[j]?=some e→SR (MA κ.M fr L) L w y e.val:=by
 unfold mapOf at h
 split at h
 ·cases h
  cases hx with
  | t _ _ hx=>
   cases hx with
   | mp r _ _ ents clock hb hM hh hk hv hrk hrv=>
    refine ⟨ents,.inr ⟨r,clock,rfl,hh⟩,hk,by simpa using hv,hrk,fun j y e hy he=>?_⟩
    rw [List.getElem?_map] at hy
    rename_i vs
    cases hq:vs[j]? with
    | none=>rw [hq] at hy;cases hy
    | some z=>rw [hq] at hy;cases hy;exact .t _ _ (hrv j z e hq he)
 ·rename_i i
  split at h
  ·rename_i ro ks' vs' hi
   cases h
   obtain ⟨r,ents,clock,h1,h2,h3,h4,h5,h6,_⟩:=hC.blk i _ hi
   cases hx with
   | lm _ r' hL=>
    rw [h1] at hL
    cases hL
    exact ⟨ents,.inr ⟨r,clock,rfl,h2⟩,h3,h4,h5,h6⟩
  ·cases h
 ·cases h
  obtain rfl:=inv_lit hx
  exact ⟨#[],.inl ⟨rfl,rfl⟩,rfl,rfl,fun j y e hy _=>by simp at hy,fun j y e hy _=>by simp at hy⟩
 ·cases h
theorem mapTS_spec {t e k n:Nat} (h:mapTS P t=some (e,k,n)):∃ fs,P.underlying t=some (.map k e)∧P.underlying k=some (.struct fs)∧sizeT P k=some (true,n)∧flatFs P n fs.toList=true:=by
 unfold mapTS at h
 split at h
 ·rename_i k' e' hu
  split at h
  ·rename_i fs hk
   split at h
   ·rename_i n' hs
    split at h
    ·rename_i hf;cases h;exact ⟨fs,hu,hk,hs,hf⟩
    ·cases h
   ·cases h
  ·cases h
 ·cases h
theorem run_checkFs {b:Bool} {m n:Nat} {cs:List AV} {us:Array Value} (hu:TRs A w cs us) (hn:cs.length=n):∀ (fs:List Field),flatFs P n fs=true→(forIn (m:=Sem) fs PUnit.unit fun f _=>
   if f.name ≠ "_" then (do
    let l ← part f.type us f.offset
    Instr.checkKey b (m+1) f.type l
    pure (ForInStep.yield PUnit.unit))
   else pure (ForInStep.yield PUnit.unit)).run P w=.ok PUnit.unit w
 | [],_=>rfl
 | f::fs,h=>by
  unfold flatFs at h
  split at h
  ·cases h
  ·rename_i hne
   split at h
   ·rename_i d hd hs
    split at h
    ·rename_i hc
     rw [Bool.and_eq_true,Nat.ble_eq] at hc
     have hne : f.name ≠ "_" := by simpa using hne
     obtain ⟨v,hv,_⟩:=run_part_c hs hu (by rw [hn];exact hc.2) (fun _=>rfl)
     rw [List.forIn_cons]
     simp only [Sem.run_bind,if_pos hne,hv,Result.andThen_ok,run_checkKey_s hd hc.1,Sem.run_pure]
     exact run_checkFs hu hn fs h
    ·cases h
   ·cases h
theorem run_checkKeyS {k n:Nat} {fs:Array Field} {cs:List AV} {us:Array Value} (hk:P.underlying k=some (.struct fs)) (hf:flatFs P n fs.toList=true) (hu:TRs A w cs us) (hn:cs.length=n) (b:Bool):(Instr.checkKey b 10000 k (.agg us)).run P w=.ok () w:=by
 unfold Instr.checkKey
 rw [Sem.run_bind,run_underlying hk,Result.andThen_ok]
 simp only
 rw [← Array.forIn_toList,Sem.run_bind,run_checkFs (m:=9998) hu hn _ hf]
 rfl
theorem run_findAsking {kt n:Nat} {cs:List AV} {us:Array Value} (ht:sizeT P kt=some (true,n)) (hu:TRs A w cs us):∀ (ks:List AV) (es:List MapEntry) (i:Nat) (r:Option Nat),ks.length=es.length→(∀ (j:Nat) (x:AV) (e:MapEntry),ks[j]?=some x→es[j]?=some e→VR A w x e.key)→findS P kt cs ks i=some r→
  (r=none∧(Instr.findAsking kt (.agg us) es i).run P w=.ok none w)∨∃ j e,r=some (i+j)∧es[j]?=some e∧(Instr.findAsking kt (.agg us) es i).run P w=.ok (some (i+j,e.val)) w
 | [],[],i,r,_,_,h=>by unfold findS at h;cases h;exact .inl ⟨rfl,rfl⟩
 | [],_::_,_,_,hl,_,_=>by simp at hl
 | _::_,[],_,_,hl,_,_=>by simp at hl
 | x::ks,e::es,i,r,hl,hk,h=>by
  unfold findS at h
  have hx:=hk 0 x e rfl rfl
  split at h
  ·rename_i ds
   obtain ⟨vs,hev,hvs⟩:∃ vs,e.key=.agg vs∧TRs A w ds vs:=by
    generalize e.key=z at hx
    cases hx with
    | agg _ vs hl2 hr2=>exact ⟨vs,rfl,hl2,hr2⟩
   have he:∀ r,eqC P 20 kt cs ds=some r→(Op.equal kt (.agg us) e.key).run P w=.ok r w:=fun r hr=>by
    rw [hev]
    exact run_eqC (M:=A) (w:=w) 20 10000 kt true n cs ds r _ _ (by decide) ht hr ⟨us,rfl,hu⟩ ⟨vs,rfl,hvs⟩
   split at h
   ·rename_i hq
    cases h
    refine .inr ⟨0,e,rfl,rfl,?_⟩
    unfold Instr.findAsking
    simp only [Sem.run_bind,he _ hq,Result.andThen_ok]
    rfl
   ·rename_i hq
    have hn:(Instr.findAsking kt (.agg us) (e::es) i).run P w=(Instr.findAsking kt (.agg us) es (i+1)).run P w:=by
     conv=>lhs;unfold Instr.findAsking
     simp only [Sem.run_bind,he _ hq,Result.andThen_ok]
     rfl
    rcases run_findAsking ht hu ks es (i+1) r (by simpa using hl) (fun j x e h1 h2=>hk (j+1) x e h1 h2) h with ⟨h1,h2⟩|⟨j,e',h1,h2,h3⟩
    ·exact .inl ⟨h1,hn.trans h2⟩
    ·have e1:i+1+j=i+(j+1):=by omega
     rw [e1] at h1 h3
     exact .inr ⟨j+1,e',h1,h2,hn.trans h3⟩
   ·cases h
  ·cases h
theorem run_findKeyS {k:Nat} {fs:Array Field} (hk:P.underlying k=some (.struct fs)) {us:Array Value} {es:List MapEntry} {r:Option (Nat×Value)} (h:(Instr.findAsking k (.agg us) es 0).run P w=.ok r w):(Instr.findKey k (.agg us) es).run P w=.ok r w:=by
 unfold Instr.findKey
 rw [Sem.run_bind,run_underlying hk,Result.andThen_ok]
 cases es with
 | nil=>
  have:r=none:=by
   have h:(Result.ok (none:Option (Nat×Value)) w)=.ok r w:=h
   cases h;rfl
  subst this
  rfl
 | cons e es=>
  have:Instr.findNow (.struct fs) (.agg us) (e::es) 0=none:=by
   unfold Instr.findNow
   rfl
  simp only [this]
  exact h
theorem lookupA_ok {t:Nat} {s key x:SV} {v u:Value} {ok:Bool} (hC:Core γ κ fr L w) (h:lookupA P fr t s key ok=some x) (hs:SR (MA κ.M fr L) L w s v) (hu:SR (MA κ.M fr L) L w key u):∃ y,(Instr.lookup t v u ok).run P w=.ok y w∧SR (MA κ.M fr L) L w x y:=by
 unfold lookupA at h
 split at h
 ·cases h
 ·rename_i e kt n ht
  obtain ⟨fs,hut,huk,hsz,hfl⟩:=mapTS_spec ht
  split at h
  ·rename_i cs
   obtain ⟨us,rfl,hus⟩:∃ us,u=.agg us∧TRs (MA κ.M fr L) w cs us:=by
    cases hu with|t _ _ h=>cases h with|agg _ us h1 h2=>exact ⟨us,rfl,h1,h2⟩
   split at h
   ·cases h
   ·rename_i hbl
    have hcl:cs.length=n:=by simpa using hbl
    split at h
    ·cases h
    ·rename_i ks vs hm
     obtain ⟨es,hv,h1,h2,h3,h4⟩:=mapOf_ok hC hm hs
     have hrun:∀ (r:Option (Nat×Value)) (q:Value) (b:Bool),(Instr.findAsking kt (.agg us) es.toList 0).run P w=.ok r w→(r=none→b=false∧(zeroValue e).run P w=.ok q w)→(∀ j z,r=some (j,z)→b=true∧q=z)→(Instr.lookup t v (.agg us) ok).run P w=.ok (if ok then .tuple #[q,.bool b] else q) w:=fun r q b hf hn hy=>by
      unfold Instr.lookup
      rw [Sem.run_bind,run_underlying hut,Result.andThen_ok]
      rcases hv with ⟨rfl,rfl⟩|⟨r',c,rfl,hh⟩
      ·simp only [Sem.run_bind,Sem.run_pure,Result.andThen_ok,run_checkKeyS huk hfl hus hcl,run_findKeyS huk hf]
       cases r with
       | none=>obtain ⟨rfl,h⟩:=hn rfl;simp only [Sem.run_bind,h,Result.andThen_ok,Sem.run_pure];try (cases ok <;> rfl)
       | some p=>obtain ⟨rfl,rfl⟩:=hy p.1 p.2 rfl;cases ok <;> rfl
      ·have hg:(getObj r').run P w=.ok (.map es c) w:=by simp [getObj,Sem.run,hh]
       simp only [Sem.run_bind,Sem.run_pure,hg,Result.andThen_ok,run_checkKeyS huk hfl hus hcl,run_findKeyS huk hf]
       cases r with
       | none=>obtain ⟨rfl,h⟩:=hn rfl;simp only [Sem.run_bind,h,Result.andThen_ok,Sem.run_pure];try (cases ok <;> rfl)
       | some p=>obtain ⟨rfl,rfl⟩:=hy p.1 p.2 rfl;cases ok <;> rfl
     have fin:∀ (z:SV) (q:Value) (b:Bool),SR (MA κ.M fr L) L w z q→SR (MA κ.M fr L) L w (okS ok z b) (if ok then .tuple #[q,.bool b] else q):=fun z q b hz=>by
      unfold okS
      cases ok with
      | false=>exact hz
      | true=>
       refine .tup _ _ rfl fun j x u hx hu=>?_
       match j with
       | 0=>cases hx;cases hu;exact hz
       | 1=>cases hx;cases hu;exact .t _ _ (.bool _)
       | j+2=>simp at hx
     split at h
     ·cases h
     ·rename_i i hf
      rcases run_findAsking hsz hus ks es.toList 0 _ (by simpa using h1.symm) (fun j x e hx he=>h3 j x e hx (by simpa using he)) hf with ⟨h5,_⟩|⟨j,e',h5,h6,h7⟩
      ·cases h5
      ·rw [Nat.zero_add] at h5 h7
       cases h5
       split at h
       ·rename_i z hz
        cases h
        exact ⟨_,hrun _ e'.val true h7 (fun h=>nomatch h) (fun j z h=>by cases h;exact ⟨rfl,rfl⟩),fin z e'.val true (h4 _ z e' hz (by simpa using h6))⟩
       ·cases h
     ·rename_i hf
      rcases run_findAsking hsz hus ks es.toList 0 _ (by simpa using h1.symm) (fun j x e hx he=>h3 j x e hx (by simpa using he)) hf with ⟨_,h6⟩|⟨j,e',h5,_⟩
      ·split at h
       ·rename_i z hz
        cases h
        obtain ⟨q,hq1,hq2⟩:=zeroS_ok (P:=P) (w:=w) (A:=MA κ.M fr L) (L:=L) hz
        exact ⟨_,hrun _ q false h6 (fun _=>⟨rfl,hq1⟩) (fun j z h=>nomatch h),fin z q false hq2⟩
       ·cases h
      ·cases h5
  ·cases h
theorem lookupS_ok {t:Nat} {s key x:SV} {v u:Value} {ok:Bool} (hC:Core γ κ fr L w) (h:lookupS P fr t s key ok=some x) (hs:SR (MA κ.M fr L) L w s v) (hu:SR (MA κ.M fr L) L w key u):∃ y,(Instr.lookup t v u ok).run P w=.ok y w∧SR (MA κ.M fr L) L w x y:=by
 unfold lookupS at h
 split at h
 ·exact lookupA_ok hC h hs hu
 ·rename_i e d ht
  obtain ⟨k,hut,huk,hl⟩:=mapT_spec ht
  split at h
  ·rename_i ka
   have hka:VR (MA κ.M fr L) w ka u:=by cases hu with|t _ _ h=>exact h
   split at h
   ·cases h
   ·rename_i ks vs hm
    obtain ⟨es,hv,h1,h2,h3,h4⟩:=mapOf_ok hC hm hs
    have hrun:∀ (r:Option (Nat×Value)) (q:Value) (b:Bool),Instr.findNow d u es.toList 0=some r→(r=none→b=false∧(zeroValue e).run P w=.ok q w)→(∀ j z,r=some (j,z)→b=true∧q=z)→(Instr.lookup t v u ok).run P w=.ok (if ok then .tuple #[q,.bool b] else q) w:=fun r q b hf hn hy=>by
     unfold Instr.lookup
     rw [Sem.run_bind,run_underlying hut,Result.andThen_ok]
     rcases hv with ⟨rfl,rfl⟩|⟨r',c,rfl,hh⟩
     ·simp only [Sem.run_bind,Sem.run_pure,Result.andThen_ok,run_checkKey huk hl,run_findKey huk hf]
      cases r with
      | none=>obtain ⟨rfl,h⟩:=hn rfl;simp only [Sem.run_bind,h,Result.andThen_ok,Sem.run_pure];try (cases ok <;> rfl)
      | some p=>obtain ⟨rfl,rfl⟩:=hy p.1 p.2 rfl;cases ok <;> rfl
     ·have hg:(getObj r').run P w=.ok (.map es c) w:=by simp [getObj,Sem.run,hh]
      simp only [Sem.run_bind,Sem.run_pure,hg,Result.andThen_ok,run_checkKey huk hl,run_findKey huk hf]
      cases r with
      | none=>obtain ⟨rfl,h⟩:=hn rfl;simp only [Sem.run_bind,h,Result.andThen_ok,Sem.run_pure];try (cases ok <;> rfl)
      | some p=>obtain ⟨rfl,rfl⟩:=hy p.1 p.2 rfl;cases ok <;> rfl
    have fin:∀ (z:SV) (q:Value) (b:Bool),SR (MA κ.M fr L) L w z q→SR (MA κ.M fr L) L w (okS ok z b) (if ok then .tuple #[q,.bool b] else q):=fun z q b hz=>by
     unfold okS
     cases ok with
     | false=>exact hz
     | true=>
      refine .tup _ _ rfl fun j x u hx hu=>?_
      match j with
      | 0=>cases hx;cases hu;exact hz
      | 1=>cases hx;cases hu;exact .t _ _ (.bool _)
      | j+2=>simp at hx
    split at h
    ·cases h
    ·rename_i i hf
     rcases findA_ok hka ks es.toList 0 _ (by simpa using h1.symm) (fun j x e hx he=>h3 j x e hx (by simpa using he)) hf with ⟨h5,_⟩|⟨j,e',h5,h6,h7,_⟩
     ·cases h5
     ·rw [Nat.zero_add] at h5 h7
      cases h5
      split at h
      ·rename_i z hz
       cases h
       exact ⟨_,hrun _ e'.val true h7 (fun h=>nomatch h) (fun j z h=>by cases h;exact ⟨rfl,rfl⟩),fin z e'.val true (h4 _ z e' hz (by simpa using h6))⟩
      ·cases h
    ·rename_i hf
     rcases findA_ok hka ks es.toList 0 _ (by simpa using h1.symm) (fun j x e hx he=>h3 j x e hx (by simpa using he)) hf with ⟨_,h6⟩|⟨j,e',h5,_⟩
     ·split at h
      ·rename_i z hz
       cases h
       obtain ⟨q,hq1,hq2⟩:=zeroS_ok (P:=P) (w:=w) (A:=MA κ.M fr L) (L:=L) hz
       exact ⟨_,hrun _ q false h6 (fun _=>⟨rfl,hq1⟩) (fun j z h=>nomatch h),fin z q false hq2⟩
      ·cases h
     ·cases h5
  ·cases h
end
end Go.Proofs.YtjdhnoffoknlnaaGreatDoor
namespace Go.Proofs.YtjdhnoffoknlnaaGreatDoor
open Go.RowKit
def Neu (P:Program) (γ:Glob) (fr:Fr) (env:Env) (o:Oper) (x:SV):Prop:=
 ∀ (κ:Ctx) (L:Ls) (a:Act) (w:World),Core γ κ fr L w→(∀ y∈o.op.operands,SR (MA κ.M fr L) L w (evE env y) (a.eval y))→OpTo P o a w fun v w'=>Below w.heap.size w w'∧SR (MA κ.M fr L) L w' x v
section
variable {P:Program} {γ:Glob} {fr:Fr} {env:Env} {dst:Option Tmp} {ty:TypeId} {pos:String} {after:Array Edge} {g:Option (Nat×Bool)}
theorem exec_v {o:Oper} {a:Act} {w w':World} {s:Sem Value} {v:Value} (he:execOp a.eval o=(do pure (.value (← s)))) (h:s.run P w=.ok v w'):(execOp a.eval o).run P w=.ok (.value v) w':=by
 rw [he]
 simp only [Sem.run_bind,h,Result.andThen_ok]
 rfl
theorem neu_of {o:Oper} {x:SV} (h:∀ (κ:Ctx) (L:Ls) (a:Act) (w:World),Core γ κ fr L w→(∀ y∈o.op.operands,SR (MA κ.M fr L) L w (rd env y) (a.eval y))→∃ (s:Sem Value) (v:Value),execOp a.eval o=(do pure (.value (← s)))∧s.run P w=.ok v w∧SR (MA κ.M fr L) L w x v):Neu P γ fr env o x:=fun κ L a w hC hop=>by
 obtain ⟨s,v,h1,h2,h3⟩:=h κ L a w hC fun y hy=>rd_ok (hop y hy)
 exact .value (exec_v h1 h2) ⟨Below.refl _ _,h3⟩
theorem convS_ok {A:Nat→Prop} {L:Ls} {w:World} {src tgt:Nat} {s x:SV} {v:Value} (h:convS P src tgt s=some x) (hs:SR A L w s v):∃ u,(convert src tgt v).run P w=.ok u w∧SR A L w x u:=by
 unfold convS at h
 split at h
 ·rename_i k n
  obtain rfl:=inv_int hs
  split at h
  ·rename_i ds k' h1 h2
   cases h
   exact ⟨.int k' (k'.wrap n),by simp [convert,run_underlying h1,run_underlying h2,Conv.intToInt],.t _ _ (.int _ _)⟩
  ·cases h
 ·rename_i y
  obtain rfl:=inv_str hs
  split at h
  ·rename_i ds h1 h2
   cases h
   exact ⟨.string y,by cases ds <;> simp [convert,run_underlying h1,run_underlying h2],.t _ _ (.str _)⟩
  ·cases h
 ·cases h
theorem evP_ok {o:Oper} {x:SV} (h:evP P fr env o.op=some x):Neu P γ fr env o x:=by
 obtain ⟨dst,op,ty,pos,after,g⟩:=o
 simp only at h
 unfold evP at h
 split at h
 case h_1 y=>cases h;exact fun κ L a w _ hop=>.value rfl ⟨Below.refl _ _,rd_ok (hop y (by simp [Op.operands]))⟩
 case h_2 y=>cases h;exact fun κ L a w _ hop=>.value rfl ⟨Below.refl _ _,rd_ok (hop y (by simp [Op.operands]))⟩
 case h_3 c p q=>
  intro κ L a w _ hop
  have hc:=rd_ok (hop c (by simp [Op.operands]))
  split at h
  ·rename_i hr
   rw [hr] at hc
   cases h
   have hc:=inv_bool hc
   exact .value (v:=a.eval p) (by simp [execOp,hc,asBool,pure,Sem.run,Sem.run_bind]) ⟨Below.refl _ _,rd_ok (hop p (by simp [Op.operands]))⟩
  ·rename_i hr
   rw [hr] at hc
   cases h
   have hc:=inv_bool hc
   exact .value (v:=a.eval q) (by simp [execOp,hc,asBool,pure,Sem.run,Sem.run_bind]) ⟨Below.refl _ _,rd_ok (hop q (by simp [Op.operands]))⟩
  ·cases h
 case h_4 t y=>exact neu_of fun κ L a w hC hop=>by
                obtain ⟨u,h1,h2⟩:=loadS_ok hC h (hop y (by simp [Op.operands]))
                exact ⟨_,u,rfl,h1,h2⟩
 case h_5 y=>
  intro κ L a w _ hop
  obtain ⟨⟨q,hq⟩,h2⟩:=nilCheckS_ok h (rd_ok (hop y (by simp [Op.operands])))
  exact .value (v:=a.eval y) (by simp [execOp,hq,pure,Sem.run]) ⟨Below.refl _ _,h2⟩
 case h_6 b xt p q yt=>
  split at h
  ·rename_i r hb
   cases h
   exact neu_of fun κ L a w hC hop=>by
    obtain ⟨u,h1,h2⟩:=binS_ok (L:=L) (x:=p) (y:=q) hb (hop p (by simp [Op.operands])) (hop q (by simp [Op.operands]))
    exact ⟨_,u,rfl,h1,.t _ _ h2⟩
  ·split at h
   ·rename_i r hb
    cases h
    exact neu_of fun κ L a w hC hop=>by
     obtain ⟨u,h1,h2⟩:=binO_ok (x:=p) (y:=q) hC hb (hop p (by simp [Op.operands])) (hop q (by simp [Op.operands]))
     exact ⟨_,u,rfl,h1,.t _ _ h2⟩
   ·cases h
 case h_7 b xt p=>exact neu_of fun κ L a w hC hop=>by
                   obtain ⟨u,h1,h2⟩:=unS_ok h (hop p (by simp [Op.operands]))
                   exact ⟨_,u,rfl,h1,h2⟩
 case h_8 st y f=>exact neu_of fun κ L a w hC hop=>by
                   obtain ⟨u,h1,h2⟩:=fieldAddrS_ok h (hop y (by simp [Op.operands]))
                   exact ⟨_,u,rfl,h1,h2⟩
 case h_9 st y f=>exact neu_of fun κ L a w hC hop=>by
                   obtain ⟨u,h1,h2⟩:=fieldS_ok h (hop y (by simp [Op.operands]))
                   exact ⟨_,u,rfl,h1,h2⟩
 case h_10 t p q=>exact neu_of fun κ L a w hC hop=>by
                   obtain ⟨u,h1,h2⟩:=indexAddrS_ok hC h (hop p (by simp [Op.operands])) (hop q (by simp [Op.operands]))
                   exact ⟨_,u,rfl,h1,h2⟩
 case h_11 t p q=>exact neu_of fun κ L a w hC hop=>by
                   obtain ⟨u,h1,h2⟩:=indexS_ok h (hop p (by simp [Op.operands])) (hop q (by simp [Op.operands]))
                   exact ⟨_,u,rfl,h1,h2⟩
 case h_12 p i=>exact neu_of fun κ L a w hC hop=>by
                 obtain ⟨u,h1,h2⟩:=extractS_ok h (hop p (by simp [Op.operands]))
                 exact ⟨_,u,rfl,h1,h2⟩
 case h_13 t y k ok=>
  exact neu_of fun κ L a w hC hop=>by
           obtain ⟨u,h1,h2⟩:=lookupS_ok hC h (hop y (by simp [Op.operands])) (hop k (by simp [Op.operands]))
           exact ⟨_,u,rfl,h1,h2⟩
 case h_14 t y lo hi mx=>
  split at h
  rotate_left
  ·exact neu_of fun κ L a w hC hop=>by
           obtain ⟨u,h1,h2⟩:=sliceO_ok (ul:=lo.map a.eval) (uh:=hi.map a.eval) (um:=mx.map a.eval) hC h (hop y (by simp [Op.operands])) (optop (ops:=(Op.slice t y lo hi mx).operands.toList) (fun q hq=>hop q (by simpa using hq)) lo (by simp +contextual [Op.operands])) (optno lo) (optop (ops:=(Op.slice t y lo hi mx).operands.toList) (fun q hq=>hop q (by simpa using hq)) hi (by simp +contextual [Op.operands])) (optno hi) (optno mx) (optop (ops:=(Op.slice t y lo hi mx).operands.toList) (fun q hq=>hop q (by simpa using hq)) mx (by simp +contextual [Op.operands]))
           exact ⟨_,u,rfl,h1,h2⟩
  rename_i y' hy'
  cases h
  have h:=hy'
  exact neu_of fun κ L a w hC hop=>by
           obtain ⟨u,h1,h2⟩:=sliceS_ok (ul:=lo.map a.eval) (uh:=hi.map a.eval) (um:=mx.map a.eval) h (hop y (by simp [Op.operands])) (optop (ops:=(Op.slice t y lo hi mx).operands.toList) (fun q hq=>hop q (by simpa using hq)) lo (by simp +contextual [Op.operands])) (optno lo) (optop (ops:=(Op.slice t y lo hi mx).operands.toList) (fun q hq=>hop q (by simpa using hq)) hi (by simp +contextual [Op.operands])) (optno hi) (optno mx)
           exact ⟨_,u,rfl,h1,h2⟩
 case h_15 f first caps=>
  split at h
  ·cases h
   exact neu_of fun κ L a w hC hop=>by
    have e:first.size=(first.map a.eval).size:=by simp
    refine ⟨_,.func f (first.map a.eval) (caps.map a.eval),rfl,by simp [Instr.makeFunc,pure,Sem.run],?_⟩
    rw [e]
    refine fnS_ok (.fn _ _ _ _ (by simp) fun j x u hx hu=>?_)
    rw [← Array.map_append,Array.getElem?_map] at hu
    rw [List.getElem?_map] at hx
    cases hy:(first++caps)[j]? with
    | none=>rw [hy] at hu;cases hu
    | some y=>
     rw [Array.getElem?_toList,hy] at hx
     rw [hy] at hu
     cases hx;cases hu
     exact hop y (by simp only [Op.operands];exact Array.mem_of_getElem? hy)
  ·cases h
 case h_16 t parts=>
  split at h
  ·rename_i hone
   split at h
   ·rename_i cs hb
    cases h
    exact neu_of fun κ L a w hC hop=>by
     obtain ⟨us,h1,h2,h3⟩:=built_ok (A:=MA κ.M fr L) (L:=L) (w:=w) hb (vs:=(parts.map fun (i,x)=>(i,a.eval x)).toList) (by simp) fun k p q hk hq=>by
      rw [Array.toList_map,List.getElem?_map] at hq
      rw [List.getElem?_map] at hk
      cases hy:parts.toList[k]? with
      | none=>rw [hy] at hq;cases hq
      | some y=>
       rw [hy] at hq hk;cases hq;cases hk
       refine ⟨rfl,cellsS_ok (hop y.2 ?_) (List.all_eq_true.1 (List.all_eq_true.1 hone y (List.mem_of_getElem? hy)))⟩
       have:=List.mem_of_getElem? hy
       simp [Op.operands]
       exact ⟨y.1,by simpa using this⟩
     exact ⟨_,.agg us,rfl,run_build w t _ us h1,aggS_ok (.agg _ _ h2 h3)⟩
   ·cases h
  ·cases h
 case h_17 t len parts=>
  split at h
  ·rename_i hone
   split at h
   ·rename_i es hb
    cases h
    intro κ L a w hC hop
    obtain ⟨e,sz,us,h1,hpos,hl,h2,h3,h4,h5⟩:=builtSl_ok (A:=MA κ.M fr L) (L:=L) (w:=w) hb (vs:=(parts.map fun (i,x)=>(i,a.eval x)).toList) (by simp) fun k p q hk hq=>by
      rw [Array.toList_map,List.getElem?_map] at hq
      rw [List.getElem?_map] at hk
      cases hy:parts.toList[k]? with
      | none=>rw [hy] at hq;cases hq
      | some y=>
       rw [hy] at hq hk;cases hq;cases hk
       refine ⟨rfl,cellsS_ok (rd_ok (hop y.2 ?_)) (List.all_eq_true.1 (List.all_eq_true.1 hone y (List.mem_of_getElem? hy)))⟩
       have:=List.mem_of_getElem? hy
       simp [Op.operands]
       exact ⟨y.1,by simpa using this⟩
    have hbl:Below w.heap.size w (w.alloc (.cells us e)):=(Below.refl _ _).alloc (Nat.le_refl _) _
    refine .value' (exec_v rfl h1) ⟨hbl,?_⟩
    rw [← h3]
    refine .tc es _ ?_
    rcases Nat.eq_zero_or_pos len with h0|h0
    ·subst h0
     rw [List.eq_nil_of_length_eq_zero h3]
     exact .arr0 _ _
    ·refine .arr _ 0 es.length sz es (fun k j=>us.getD (k * sz+j) undef) (by intro h;rw [h] at h3;simp at h3;omega) (by omega) (Nat.le_refl _) (by simp) hC.new_ok h4 (fun k j hk hj=>?_) (fun k j cs x hk hj=>?_)
     ·have hlt:k * sz+j < us.size:=by
       rw [h2,← h3]
       have:(k+1) * sz≤es.length * sz:=Nat.mul_le_mul_right _ hk
       rw [Nat.add_mul] at this;omega
      simp [hlt]
     ·obtain ⟨u,h6,h7⟩:=h5 k j cs x hk hj
      rw [Array.getD_eq_getD_getElem?,h6]
      exact h7.later hbl
   ·cases h
  ·cases h
 case h_18 c=>
  obtain ⟨callee,⟨args⟩,tys⟩:=c
  simp only at h
  unfold builtinP at h
  split at h
  ·rename_i _ b y
   split at h
   ·exact fun κ L a w hC hop=>by
     obtain ⟨u,h1,h2⟩:=lenS_ok (ty:=ty) (tys:=tys) hC rfl h (rd_ok (hop y (by simp [Op.operands,Call.operands])))
     exact .value (v:=u) (by simp only [execOp,resolve,invoke,builtin,Sem.run_bind,Sem.run_pure,Result.andThen_ok,List.map_toArray,List.map_cons,List.map_nil,h1]) ⟨Below.refl _ _,h2⟩
   ·cases h
  ·rename_i _ b p q
   split at h
   ·rename_i m n hm hn
    split at h
    ·cases h
     exact fun κ L a w hC hop=>by
      have h1:=rd_ok (hop p (by simp [Op.operands,Call.operands]))
      have h2:=rd_ok (hop q (by simp [Op.operands,Call.operands]))
      rw [hm] at h1
      rw [hn] at h2
      have h1:=inv_int h1
      have h2:=inv_int h2
      have hm:(Builtin.max_ tys ty #[.int .i64 m,.int .i64 n]).run P w=.ok (.int .i64 (max m n)) w:=by
       rw [run_max_int2];congr 2;split <;> omega
      exact .value (v:=.int .i64 (max m n)) (by simp only [execOp,resolve,invoke,builtin,Sem.run_bind,Sem.run_pure,Result.andThen_ok,List.map_toArray,List.map_cons,List.map_nil,h1,h2,hm]) ⟨Below.refl _ _,.t _ _ (.int _ _)⟩
    ·cases h
     exact fun κ L a w hC hop=>by
      have h1:=rd_ok (hop p (by simp [Op.operands,Call.operands]))
      have h2:=rd_ok (hop q (by simp [Op.operands,Call.operands]))
      rw [hm] at h1
      rw [hn] at h2
      have h1:=inv_int h1
      have h2:=inv_int h2
      have hm:(Builtin.min_ tys ty #[.int .i64 m,.int .i64 n]).run P w=.ok (.int .i64 (min m n)) w:=by
       rw [run_min_int2];congr 2;split <;> omega
      exact .value (v:=.int .i64 (min m n)) (by simp only [execOp,resolve,invoke,builtin,Sem.run_bind,Sem.run_pure,Result.andThen_ok,List.map_toArray,List.map_cons,List.map_nil,h1,h2,hm]) ⟨Below.refl _ _,.t _ _ (.int _ _)⟩
    ·cases h
   ·cases h
  ·cases h
 case h_19 src tgt y=>
  exact neu_of fun κ L a w hC hop=>by
           obtain ⟨u,h1,h2⟩:=convS_ok h (hop y (by simp [Op.operands]))
           exact ⟨_,u,rfl,h1,h2⟩
 case h_20=>cases h
end
end Go.Proofs.YtjdhnoffoknlnaaGreatDoor
namespace Go.Proofs.YtjdhnoffoknlnaaGreatDoor
open Go.RowKit
def setRo:Lb→Lb
 | .box _ T cs=>.box true T cs
 | .row _ tch sz es=>.row true tch sz es
 | .map _ ks vs=>.map true ks vs
 | .own _ x=>.own true x
def unTch:Lb→Lb
 | .row ro _ sz es=>.row ro false sz es
 | b=>b
def hasN (l:List Nat) (i:Nat):Bool:=l.any (Nat.beq i)
def frzB:Bool→Lb→Lb
 | true,b=>setRo b
 | false,b=>b
def frzA (l:List Nat):Nat→Fr→Fr
 | _,[]=>[]
 | k,b::r=>frzB (hasN l k) b::frzA l (k+1) r
def freeze (fr:Fr) (l:List Nat):Fr:=match l with
 | []=>fr
 | _=>frzA l 0 fr
def killσ (ks:List Nat) (i:Nat):Option Nat:=match hasN ks i with|true=>none|false=>some i
def killE (ks:List Nat) (env:Env):Env:=match ks with
 | []=>env
 | _=>fun t=>(env t).sub (killσ ks)
def killFr (ks:List Nat) (fr:Fr):Fr:=match ks with
 | []=>fr
 | _=>fr.map (Lb.sub (killσ ks))
def ltσ (h:Nat) (i:Nat):Option Nat:=match Nat.blt i h with|true=>some i|false=>none
def trim (h:Nat) (fr:Fr):Fr:=match Nat.ble fr.length h with
 | true=>fr
 | false=>(fr.take h).map (Lb.sub (ltσ h))
def idxσ (keep:List Nat) (i:Nat):Option Nat:=keep.findIdx? (Nat.beq i)
def dedup:List Nat→List Nat→List Nat
 | acc,[]=>acc
 | acc,i::r=>match hasN acc i with
  | true=>dedup acc r
  | false=>dedup (acc++[i]) r
mutual
def rch (fr:Fr):Nat→SV→List Nat
 | 0,_=>[]
 | n+1,s=>match s with
  | .ls i=>[i]
  | .lv i _ _ _=>[i]
  | .lo i _=>[i]
  | .lm i=>match fr[i]? with
   | some (.map _ _ vs)=>i::rchL fr n vs
   | _=>[i]
  | .lp i j=>match fr[i]? with
   | some (.box _ _ cs)=>i::rchL fr n (cs.drop j)
   | _=>[i]
  | .agg cs=>rchL fr n cs
  | .tup cs=>rchL fr n cs
  | .fn _ _ cs=>rchL fr n cs
  | _=>[]
def rchL (fr:Fr):Nat→List SV→List Nat
 | 0,_=>[]
 | _+1,[]=>[]
 | n+1,c::cs=>rch fr n c++rchL fr n cs
end
def deep:Nat:=60
def toAVs (fr:Fr):List SV→Option (List AV)
 | []=>some []
 | c::cs=>match toAV fr deep c with
  | none=>none
  | some x=>match toAVs fr cs with
   | none=>none
   | some xs=>some (x::xs)
def rchs (fr:Fr):List SV→List Nat
 | []=>[]
 | c::cs=>rch fr deep c++rchs fr cs
mutual
def flatA:AV→Bool
 | .int ..|.bool _|.str _|.lit _|.ifn=>true
 | .agg cs=>flatAL cs
 | .tup cs=>flatAL cs
 | _=>false
def flatAL:List AV→Bool
 | []=>true
 | c::cs=>flatA c && flatAL cs
end
mutual
def flatS:SV→Bool
 | .t x=>flatA x
 | .nil=>true
 | .agg cs=>flatSL cs
 | .tup cs=>flatSL cs
 | _=>false
def flatSL:List SV→Bool
 | []=>true
 | c::cs=>flatS c && flatSL cs
end
def oneA:AV→Bool
 | .agg _|.tup _=>false
 | _=>true
def newsOk (sz:Nat) (es:List (List AV)):Bool:=es.all fun cs=>Nat.beq cs.length sz && cs.all oneA
def lenOk (n by_:Nat):Bool:=Nat.ble n 140737488351232 && Nat.ble (n * by_) 140737488355328
def putA (cs:List AV) (j:Nat):List AV→List AV
 | []=>cs
 | x::xs=>putA (cs.set j x) (j+1) xs
abbrev Res:=SV×Fr×List Nat
def storeQ (fr:Fr) (i:Nat) (p:List Nat) (k:Nat) (val:SV):Option Res:=match fr[i]? with
 | some (.own false x)=>match treeAt x p with
  | some (.arr fs)=>match fs[k]?,val with
   | some [.int k1 _],.t (.int k2 m)=>if k1=k2 then some (.dead,fr.set i (.own false (setAt x p k (.int k2 m))),[]) else none
   | _,_=>none
  | _=>none
 | _=>none
def storeE (P:Program) (fr:Fr) (t:Nat) (ad val:SV):Option Res:=match sizeT P t with
 | none=>none
 | some (_,n)=>match (cellsS val).all oneS && Nat.beq (cellsS val).length n with
  | false=>none
  | true=>match ad with
   | .lp i j=>match fr[i]? with
    | some (.box false T cs)=>match Nat.ble (j+n) cs.length with
     | true=>some (.dead,fr.set i (.box false T (putS cs j (cellsS val))),[])
     | false=>none
    | _=>none
   | .le i sz k j=>match fr[i]? with
    | some (.row false tch sz' es)=>match Nat.beq sz sz' with
     | false=>none
     | true=>match es[k]? with
      | none=>none
      | some cs=>match Nat.ble (j+n) cs.length with
       | false=>none
       | true=>match toAVs fr (cellsS val) with
        | none=>none
        | some xs=>match hasN (rchs fr (cellsS val)) i with
         | true=>none
         | false=>some (.dead,(freeze fr (rchs fr (cellsS val))).set i (.row false tch sz (es.set k (putA cs j xs))),[])
    | _=>none
   | .lr i p k=>storeQ fr i p k val
   | _=>none
def appendE (P:Program) (fr:Fr) (t:Nat) (s x:SV):Option Res:=match rowT P t with
 | none=>none
 | some (_,sz,by_)=>match slOf fr x with
  | none=>none
  | some news=>match newsOk sz news with
   | false=>none
   | true=>match s with
    | .ls i=>match fr[i]? with
     | some (.row false _ sz' es)=>match Nat.beq sz sz' && lenOk (es.length+news.length) by_ with
      | true=>some (.ls i,(killFr [i] fr).set i (.row false true sz (es++news)),[i])
      | false=>none
     | _=>none
    | .lv i sz1 0 n=>match fr[i]? with
     | some (.row false _ sz' es)=>match Nat.beq sz sz' && (Nat.beq sz1 sz && (Nat.ble n es.length && lenOk (n+news.length) by_)) with
      | true=>some (.ls i,(killFr [i] fr).set i (.row false true sz (es.take n++news)),[i])
      | false=>none
     | _=>none
    | .nil=>match lenOk news.length by_ with
     | true=>some (.ls fr.length,fr++[.row false false sz news],[])
     | false=>none
    | .tc []=>match lenOk news.length by_ with
     | true=>some (.ls fr.length,fr++[.row false false sz news],[])
     | false=>none
    | .tc (e::es)=>match news with
     | c::cs=>match newsOk sz (e::es) && lenOk ((e::es).length+(c::cs).length) by_ with
      | true=>some (.ls fr.length,fr++[.row false false sz ((e::es)++(c::cs))],[])
      | false=>none
     | []=>none
    | _=>none
def copyRow (fr:Fr) (zs:List (List AV)) (r sz a n:Nat):Option Res:=match fr[r]? with
 | some (.row false tch sz' es)=>match Nat.beq sz sz' && Nat.ble (a+n) es.length with
  | true=>some (.t (.int .i64 ((Nat.min zs.length n:Nat):Int)),fr.set r (.row false tch sz (es.take a++zs.take n++es.drop (a+Nat.min zs.length n))),[])
  | false=>none
 | _=>none
def copyE (P:Program) (fr:Fr) (t:Nat) (x y:SV):Option Res:=match rowT P t with
 | none=>none
 | some (_,sz,_)=>match slOf fr y with
  | none=>none
  | some zs=>match newsOk sz zs with
   | false=>none
   | true=>match x with
    | .lv r sz' a n=>match Nat.beq sz' sz with
     | true=>copyRow fr zs r sz a n
     | false=>none
    | .ls r=>match fr[r]? with
     | some (.row _ _ _ es)=>copyRow fr zs r sz 0 es.length
     | _=>none
    | _=>none
def makeE (P:Program) (fr:Fr) (t:Nat) (l c:SV):Option Res:=match P.underlying t with
 | some (.slice e)=>match P.info? e with
  | some i=>match i.zero with
   | some z=>match pursN (z.cells.toList.map cv),decide (z.cells.size=i.size∧0 < i.size) with
    | some zs,true=>match l,c with
     | .t (.int .i64 m),.t (.int .i64 n)=>match decide (0≤m) && decide (m≤n) && Nat.ble (n.toNat * i.bytes) 281474976710656 && Nat.ble n.toNat 140737488351232 with
      | true=>some (.ls fr.length,fr++[.row false false i.size (List.replicate m.toNat zs)],[])
      | false=>none
     | _,_=>none
    | _,_=>none
   | none=>none
  | none=>none
 | _=>none
def makeT (P:Program) (fr:Fr) (t:Nat) (l c:SV):Option Res:=match makeE P [] t l c with
 | some (_,[.row _ _ _ es],_)=>some (.t (.arr es),fr,[])
 | _=>none
def keyD:TypeDesc→AV→Bool
 | .int _,.int _ _=>true
 | .bool,.bool _=>true
 | .string,.str _=>true
 | _,_=>false
def sameL:List AV→List AV→Bool
 | [],[]=>true
 | .int k m::xs,.int j n::ys=>decide (k=j) && (decide (m=n) && sameL xs ys)
 | .bool a::xs,.bool b::ys=>(a == b) && sameL xs ys
 | .str a::xs,.str b::ys=>decide (a=b) && sameL xs ys
 | _,_=>false
def insertA (P:Program) (fr:Fr) (t:Nat) (m k x:SV):Option Res:=match mapTS P t with
 | none=>none
 | some (_,kt,n)=>match m,k with
  | .lm i,.t (.agg cs)=>match fr[i]? with
   | some (.map false ks vs)=>match Nat.beq cs.length n with
    | false=>none
    | true=>match findS P kt cs ks 0 with
     | none=>none
     | some (some j)=>match ks[j]? with
      | some (.agg ds)=>match sameL cs ds with
       | true=>some (.dead,fr.set i (.map false ks (vs.set j x)),[])
       | false=>none
      | _=>none
     | some none=>some (.dead,fr.set i (.map false (ks++[.agg cs]) (vs++[x])),[])
   | _=>none
  | _,_=>none
def insertE (P:Program) (fr:Fr) (t:Nat) (m k x:SV):Option Res:=match mapT P t with
 | none=>insertA P fr t m k x
 | some (_,d)=>match m,k with
  | .lm i,.t ka=>match fr[i]? with
   | some (.map false ks vs)=>match keyD d ka with
    | false=>none
    | true=>match findA d ka ks 0 with
     | none=>none
     | some (some j)=>some (.dead,fr.set i (.map false ks (vs.set j x)),[])
     | some none=>some (.dead,fr.set i (.map false (ks++[ka]) (vs++[x])),[])
   | _=>none
  | _,_=>none
inductive Out where
 | normal
 | exit (id:Nat)
 | ret
abbrev CallF:=Nat→List SV→Fr→Option (SV×Fr)
abbrev LoopF:=Nat→Code→Env→Fr→Option (Out×Env×Fr)
structure Cfg where
 P:Program
 ok:Nat→Bool
 ext:Nat→List AV→Option (SV×Fr)
 lv:Nat→Nat→Option (List Nat)
 own:Nat→Nat→List (Nat×Nat)
 eff:Nat→Nat→List Nat
 hand:Nat→Nat→Bool
 /-- What an iterator yields (its captured trees): the tuples;whether these are all. -/
 seq:Nat→List AV→Option (List (List AV)×Bool):=fun _ _=>none
 /-- What a function answers,and makes of own blocks that it gets (contracts that are proved elsewhere). -/
 exh:Nat→List SV→Fr→Option (SV×Fr):=fun _ _ _=>none
 /-- Functions whose answers are told as trees. -/
 tre:Nat→Bool:=fun _=>false
def handS:SV→Bool
 | .lp _ _=>true
 | .le _ _ _ _=>true
 | _=>false
def handL (g:Cfg) (f:Nat):Nat→List SV→List Bool
 | _,[]=>[]
 | k,s::r=>(handS s || g.hand f k)::handL g f (k+1) r
def refsFr (fr:Fr):List Nat→List Nat
 | []=>[]
 | i::r=>(match fr[i]? with|some b=>b.refs|none=>[])++refsFr fr r
def close (fr:Fr):Nat→List Nat→List Nat
 | 0,l=>l
 | n+1,l=>close fr n (dedup l (refsFr fr l))
def handRefs:List Bool→List SV→List Nat
 | true::bs,s::r=>s.refs++handRefs bs r
 | false::bs,_::r=>handRefs bs r
 | _,_=>[]
def treeArgs:List Bool→List SV→List SV
 | false::bs,s::r=>s::treeArgs bs r
 | true::bs,_::r=>treeArgs bs r
 | _,_=>[]
def mixArgs (σ:Nat→Option Nat):List Bool→List SV→List AV→List SV
 | true::bs,s::r,xs=>s.sub σ::mixArgs σ bs r xs
 | false::bs,_::r,x::xs=>.t x::mixArgs σ bs r xs
 | _,_,_=>[]
def getAll (fr:Fr):List Nat→Option Fr
 | []=>some []
 | i::r=>match fr[i]? with
  | none=>none
  | some b=>match getAll fr r with
   | none=>none
   | some l=>some (b::l)
def orTch:Option Lb→Lb→Lb
 | some (.row _ true _ _),.row ro _ sz es=>.row ro true sz es
 | _,b=>b
def layBack (τ:Nat→Option Nat):List Nat→Fr→Fr→Fr
 | i::hs,b::bs,fr=>layBack τ hs bs (fr.set i (orTch fr[i]? (b.sub τ)))
 | _,_,fr=>fr
def touched:List Nat→Fr→List Nat
 | i::hs,b::bs=>match b.tch with
  | true=>i::touched hs bs
  | false=>touched hs bs
 | _,_=>[]
def closedFr (hs:List Nat):Fr→Bool
 | []=>true
 | b::r=>b.refs.all (hasN hs) && closedFr hs r
def backσ (hs:List Nat) (n i:Nat):Option Nat:=match hs[i]? with
 | some j=>some j
 | none=>some (n+(i - hs.length))
def back (hs:List Nat) (fr1 fr':Fr):Fr:=layBack (backσ hs fr1.length) hs fr' (killFr (touched hs fr') fr1)++(fr'.drop hs.length).map fun b=>unTch (b.sub (backσ hs fr1.length))
def kindOk:List Nat→Fr→Fr→Bool
 | i::hs,b::bs,fr=>(match fr[i]?,b with
  | some (.row _ true _ _),.row _ _ _ _=>true
  | some (.row _ true _ _),_=>false
  | _,_=>true) && kindOk hs bs fr
 | _,_,_=>true
def callS (g:Cfg) (C:CallF) (dr:Bool) (fr:Fr) (f:Nat) (args:List SV):Option Res:=
 match toAVs fr (treeArgs (handL g f 0 args) args) with
 | none=>none
 | some xs=>match dedup [] (handRefs (handL g f 0 args) args) with
  | []=>match C f (mixArgs (idxσ []) (handL g f 0 args) args xs) [] with
   | none=>none
   | some (r,ex)=>match flatS r with
    | true=>some (r,fr,[])
    | false=>match dr with
     | false=>some (r.sub (backσ [] fr.length),freeze fr (rchs fr (treeArgs (handL g f 0 args) args))++ex.map (fun b=>unTch (b.sub (backσ [] fr.length))),[])
     | true=>match rchs fr (treeArgs (handL g f 0 args) args) with
      | []=>match r.refs with
       | []=>some (r,fr,[])
       | _=>match toAV ex deep r with
        | some x=>some (.t x,fr,[])
        | none=>none
      | _=>none
  | h0::ht=>match dr with
   | true=>none
   | false=>
    let hs:=close fr 4 (h0::ht)
    let fr1:=freeze fr (rchs fr (treeArgs (handL g f 0 args) args))
    match getAll fr1 hs with
    | none=>none
    | some bs=>match closedFr hs bs with
     | false=>none
     | true=>match C f (mixArgs (idxσ hs) (handL g f 0 args) args xs) (bs.map fun b=>unTch (b.sub (idxσ hs))) with
      | none=>none
      | some (r,fr')=>match kindOk hs fr' fr1 with
       | false=>none
       | true=>some (r.sub (backσ hs fr.length),back hs fr1 fr',touched hs fr')
def calleeS:SV→Option (Nat×List SV×List SV)
 | .t (.fn (.func f) nf cs)=>some (f,(cs.take nf).map .t,(cs.drop nf).map .t)
 | .fn (.func f) nf cs=>some (f,cs.take nf,cs.drop nf)
 | _=>none
def callE (g:Cfg) (C:CallF) (dr:Bool) (env:Env) (fr:Fr) (c:Operand) (args:List Operand):Option Res:=match calleeS (rd env c) with
 | none=>none
 | some (f,a,b)=>callS g C dr fr f (a++args.map (rd env)++b)
def isW:Op→Bool
 | .alloc _|.box ..|.store ..|.makeSlice ..|.makeMap ..|.insert ..|.mapUpdate ..=>true
 | .buildSlice _ 0 _=>true
 | .call ⟨.value _,_,_⟩=>true
 | .call ⟨.builtin .append,_,_⟩=>true
 | .call ⟨.builtin .copy,_,_⟩=>true
 | _=>false
def evW (g:Cfg) (C:CallF) (dr:Bool) (env:Env) (fr:Fr):Op→Option Res:=fun op=>match op with
 | .alloc T=>match zeroT g.P T with
  | some zs=>some (.lp fr.length 0,fr++[.box false T zs],[])
  | none=>none
 | .box T x=>match (cellsS (rd env x)).all oneS with
  | true=>some (.lp fr.length 0,fr++[.box false T (cellsS (rd env x))],[])
  | false=>none
 | .store t a x=>storeE g.P fr t (rd env a) (rd env x)
 | .makeSlice t l c=>match dr with
  | true=>makeT g.P fr t (rd env l) (rd env c)
  | false=>makeE g.P fr t (rd env l) (rd env c)
 | .makeMap _ none=>some (.lm fr.length,fr++[.map false [] []],[])
 | .insert t m k x=>insertE g.P fr t (rd env m) (rd env k) (rd env x)
 | .mapUpdate t m k x=>insertE g.P fr t (rd env m) (rd env k) (rd env x)
 | .buildSlice t len parts=>match len,parts.toList with
  | 0,[]=>match rowT g.P t with
   | some (_,sz,_)=>some (.ls fr.length,fr++[.row false false sz []],[])
   | none=>none
  | _,_=>none
 | .call ⟨.value c,args,_⟩=>callE g C dr env fr c args.toList
 | .call ⟨.builtin .append,args,tys⟩=>match args.toList,tys.toList with
  | [s,x],[t,u]=>match Nat.beq t u with
   | true=>appendE g.P fr t (rd env s) (rd env x)
   | false=>none
  | _,_=>none
 | .call ⟨.builtin .copy,args,tys⟩=>match args.toList,tys.toList with
  | [x,y],[t,_]=>copyE g.P fr t (rd env x) (rd env y)
  | _,_=>none
 | _=>none
def withFr (fr:Fr):Option SV→Option Res
 | some x=>some (x,fr,[])
 | none=>none
def tmpsL:List Operand→List Nat
 | []=>[]
 | .tmp t::r=>t::tmpsL r
 | _::r=>tmpsL r
def treeEnv (env:Env):List Nat→List AV→Env
 | t::ts,x::xs=>upd (treeEnv env ts xs) t (.t x)
 | _,_=>env
def evF (P:Program) (env:Env) (fr:Fr) (op:Op):Option Res:=match op with
 | .buildSlice _ _ parts=>match toAVs fr ((tmpsL (parts.toList.map (·.2))).map fun t=>un (env t)) with
  | none=>none
  | some xs=>withFr (freeze fr (rchs fr ((tmpsL (parts.toList.map (·.2))).map fun t=>un (env t)))) (evP P (freeze fr (rchs fr ((tmpsL (parts.toList.map (·.2))).map fun t=>un (env t)))) (treeEnv env (tmpsL (parts.toList.map (·.2))) xs) op)
 | _=>none
def evT (g:Cfg) (C:CallF) (env:Env) (fr:Fr) (op:Op):Option Res:=match isW op with
 | true=>evW g C false env fr op
 | false=>match evP g.P fr env op with
  | some x=>some (x,fr,[])
  | none=>evF g.P env fr op
def isCall:Op→Bool
 | .makeSlice ..=>true
 | .call ⟨.value _,_,_⟩=>true
 | _=>false
def evD (g:Cfg) (C:CallF) (env:Env) (fr:Fr) (op:Op):Option Res:=match isCall op with
 | true=>evW g C true env fr op
 | false=>withFr fr (evP g.P fr env op)
def step (g:Cfg) (C:CallF) (d:Option (List Nat)) (i:Nat) (env:Env) (fr:Fr) (op:Op):Option Res:=match d with
 | none=>evT g C env fr op
 | some effs=>match hasN effs i with
  | true=>evT g C env fr op
  | false=>evD g C env fr op
def evOps (g:Cfg) (C:CallF) (d:Option (List Nat)) (ops:Array Oper):Nat→List Oper→Env→Fr→Option (Env×Fr)
 | _,[],env,fr=>some (env,fr)
 | i,o::r,env,fr=>match o.guard with
  | none=>match step g C d i env fr o.op with
   | some (x,fr',ks)=>evOps g C d ops (i+1) r (updO (killE ks env) o.dst x) fr'
   | none=>none
  | some (j,want)=>match gOf ops env j want with
   | none=>none
   | some true=>match step g C d i env fr o.op with
    | some (x,fr',ks)=>evOps g C d ops (i+1) r (updO (killE ks env) o.dst (.yes x)) fr'
    | none=>none
   | some false=>evOps g C d ops (i+1) r (updO env o.dst .no) fr
def tmpsOp (op:Op):List Nat:=op.operands.toList.filterMap fun|.tmp t=>some t|_=>none
def isTr:SV→Bool
 | .t _=>true
 | _=>false
def rdB (env:Env):Op→Option (List Nat)
 | .move _=>some []
 | .assign _=>some []
 | .fieldAddr ..=>some []
 | .nilCheck _=>some []
 | .unOp ..=>some []
 | .convert ..=>some []
 | .extract ..=>some []
 | .binOp _ _ x _ _=>match rd env x with
  | .ls _=>none
  | _=>some []
 | .index ..=>some []
 | .pick ..=>some []
 | .build ..=>some []
 | .makeFunc ..=>some []
 | .makeSlice ..=>some []
 | .buildSlice ..=>some []
 | .call ⟨.value c,args,_⟩=>match calleeS (rd env c) with
  | some (_,pa,qa)=>match (pa++args.toList.map (rd env)++qa).all isTr with
   | true=>some []
   | false=>none
  | none=>none
 | .load _ y=>match rd env y with
  | .lp i _=>some [i]
  | .le i _ _ _=>some [i]
  | .lr ..=>none
  | _=>some []
 | .indexAddr _ x _=>match rd env x with
  | .ls i=>some [i]
  | .lv ..=>none
  | .lo ..=>none
  | _=>some []
 | _=>none
def isTp:SV→Bool
 | .t _=>true
 | .lp _ _=>true
 | _=>false
def clsW (fr:Fr) (l:List Nat):Bool:=l.all fun i=>match fr[i]? with
 | some b=>b.refs.all (hasN l)
 | none=>true
def wrB (env:Env):Op→Option (List Nat)
 | .alloc _=>some []
 | .box ..=>some []
 | .makeSlice ..=>some []
 | .store _ a x=>match rd env a with
  | .lp i _=>some [i]
  | .le i _ _ _=>match (cellsS (rd env x)).all isTr with
   | true=>some [i]
   | false=>none
  | _=>none
 | .call ⟨.builtin .copy,args,_⟩=>match args.toList with
  | [x,_]=>match rd env x with
   | .ls i=>some [i]
   | .lv i _ _ _=>some [i]
   | _=>none
  | _=>none
 | .call ⟨.value c,args,_⟩=>match calleeS (rd env c) with
  | some (_,pa,qa)=>match (pa++args.toList.map (rd env)++qa).all isTp with
   | true=>some (SV.refsL (pa++args.toList.map (rd env)++qa))
   | false=>none
  | none=>none
 | _=>none
def disB:Option (List Nat)→Option (List Nat)→Bool
 | some w,some r=>w.all fun i=>!hasN r i
 | _,_=>false
def stabB (ops:Array Oper) (op:Op) (j m:Nat):Bool:=(List.range m).all fun q=>Nat.blt q j || match ops[q]? with
 | some oq=>match oq.dst with
  | some d=>!hasN (tmpsOp op) d
  | none=>true
 | none=>true
def fltPair (effs:List Nat) (ops:Array Oper) (env:Env) (m j:Nat):Bool:=match ops[j]?,ops[m]? with
 | some oj,some om=>match hasN effs j,hasN effs m with
  | true,false=>((Region.before ops).getD m 0).testBit j || (stabB ops oj.op j m && disB (wrB env oj.op) (rdB env om.op))
  | false,true=>((Region.before ops).getD m 0).testBit j || (stabB ops oj.op j m && disB (wrB env om.op) (rdB env oj.op))
  | _,_=>true
 | _,_=>true
def okW (effs:List Nat) (ops:Array Oper) (env:Env) (fr:Fr) (m:Nat):Bool:=match hasN effs m,ops[m]? with
 | true,some o=>match o.op with
  | .call ⟨.value c,args,_⟩=>match calleeS (rd env c) with
   | some (_,pa,qa)=>match (pa++args.toList.map (rd env)++qa).all isTp with
    | true=>clsW fr (SV.refsL (pa++args.toList.map (rd env)++qa))
    | false=>true
   | none=>true
  | _=>true
 | _,_=>true
def fltM (effs:List Nat) (ops:Array Oper) (env:Env) (fr:Fr) (m:Nat):Bool:=(List.range m).all (fltPair effs ops env m) && okW effs ops env fr m
def evOpsF (g:Cfg) (C:CallF) (effs:List Nat) (ops:Array Oper):Nat→List Oper→Env→Fr→Option (Env×Fr)
 | _,[],env,fr=>some (env,fr)
 | i,o::r,env,fr=>match fltM effs ops env fr i with
  | false=>none
  | true=>match o.guard with
   | none=>match step g C (some effs) i env fr o.op with
    | some (x,fr',[])=>evOpsF g C effs ops (i+1) r (updO env o.dst x) fr'
    | _=>none
   | some (j,want)=>match gOf ops env j want with
    | none=>none
    | some true=>match step g C (some effs) i env fr o.op with
     | some (x,fr',[])=>evOpsF g C effs ops (i+1) r (updO env o.dst (.yes x)) fr'
     | _=>none
    | some false=>evOpsF g C effs ops (i+1) r (updO env o.dst .no) fr
def effK (l:List Nat):Nat:=match hasN l 1000001 with
 | true=>2
 | false=>match hasN l 1000000 with
  | true=>1
  | false=>match hasN l 1000004 with
   | true=>5
   | false=>match hasN l 1000002 with
   | true=>3
   | false=>match hasN l 1000003 with
    | true=>4
    | false=>0
def hoL (l:List Nat):List Nat:=l.filter fun k=>Nat.blt k 1000000
def boxTr:Lb→Bool
 | .box _ _ cs=>cs.all isTr
 | _=>false
def endOk (n0:Nat) (ds:List Nat) (e:Env) (r:Fr):Bool:=(r.drop n0).all boxTr && ds.all fun d=>(e d).refs.all fun i=>Nat.blt i n0
def dsOf (l:List Oper):List Nat:=l.filterMap (·.dst)
def evRegD (g:Cfg) (C:CallF) (effs:List Nat) (ops:Array Oper) (env:Env) (fr:Fr):Option (Env×Fr):=match effs with
 | []=>none
 | N::_=>match evOpsF g C effs ops 0 ops.toList env fr with
  | none=>none
  | some (e,r)=>match endOk fr.length (dsOf (ops.toList.take N)) e r with
   | true=>some (e,r)
   | false=>none
def evB (P:Program) (env:Env) (fr:Fr) (op:Op):Option (SV×Fr):=match op with
 | .buildSlice t len parts=>match (parts.toList.all fun p=>(cellsS (rd env p.2)).all oneS) with
  | true=>match builtSl P t len (parts.toList.map fun p=>(p.1,rd env p.2)) with
   | some (c::cs)=>some (.ls fr.length,fr++[.row false false c.length (c::cs)])
   | _=>none
  | false=>none
 | _=>none
def evRegB (g:Cfg) (C:CallF) (k:Nat) (ops:Array Oper) (env:Env) (fr:Fr):Option (Env×Fr):=match evOps g C none ops 0 (ops.toList.take k) env fr with
 | none=>none
 | some (e,r)=>match ops.toList.drop k with
  | []=>none
  | o::l=>match o.guard with
   | some _=>none
   | none=>match evB g.P e r o.op with
    | none=>none
    | some (x,r')=>evOps g C none ops (k+1) l (updO e o.dst x) r'
def evReg (g:Cfg) (f:Nat) (C:CallF) (id:Nat) (ops:Array Oper) (draw:Bool) (env:Env) (fr:Fr):Option (Env×Fr):=match draw with
 | false=>match g.eff f id with
  | []=>evOps g C none ops 0 ops.toList env fr
  | k::_=>evRegB g C k ops env fr
 | true=>match effK (g.eff f id) with
  | 0=>evOps g C (some (g.eff f id)) ops 0 ops.toList env fr
  | 1=>evOpsF g C (g.eff f id) ops 0 ops.toList env fr
  | 4=>evRegD g C (hoL (g.eff f id)) ops env fr
  | _=>none
def mkEnv:List (Nat×SV)→Env
 | []=>fun _=>.dead
 | (t,v)::r=>fun u=>match Nat.beq u t with
  | true=>v
  | false=>mkEnv r u
def blockId:Code→Nat
 | .region i _ _=>i
 | .seq a _=>blockId a
 | .block _ b=>blockId b
 | .loop b=>blockId b
 | _=>0
def nilP (fr:Fr):SV→Option (Nat×TypeId)
 | .lp i 0=>match fr[i]? with
  | some (.box false T [.nil])=>some (i,T)
  | _=>none
 | _=>none
def nilPs (fr:Fr):List SV→Option (Nat×TypeId)
 | []=>none
 | s::r=>match nilP fr s with
  | some x=>some x
  | none=>nilPs fr r
def nilBox (fr:Fr):SV→Option (Nat×TypeId)
 | .fn _ _ cs=>nilPs fr cs
 | s=>nilP fr s
def ownE (sl:List (Nat×Nat)) (env:Env) (fr:Fr):Env×Fr:=match sl with
 | []=>(env,fr)
 | (t,sz)::r=>match Nat.beq sz 0 with
  | true=>match toAV fr deep (un (env t)) with
   | some x=>ownE r (upd env t (.t x)) (freeze fr (rch fr deep (un (env t))))
   | none=>ownE r env fr
  | false=>match env t with
   | .nil=>ownE r (upd env t (.ls fr.length)) (fr++[.row false false sz []])
   | .tc []=>ownE r (upd env t (.ls fr.length)) (fr++[.row false false sz []])
   | s=>match nilBox fr s with
    | some (i,T)=>ownE r env (fr.set i (.box false T [.ls fr.length])++[.row false false sz []])
    | none=>ownE r env fr
def cutV (fr:Fr) (h:Nat) (s:SV):SV:=match s.refs.any (Nat.ble h) with
 | false=>s.sub (ltσ h)
 | true=>match (rch fr deep s).all (Nat.ble h),toAV fr deep s with
  | true,some x=>.t x
  | _,_=>s.sub (ltσ h)
def hOf (l:List Nat) (h:Nat) (env:Env) (fr:Fr):Nat:=match hasN l 1000000 || (hasN l 1000006 && l.any fun t=>(un (env t)).refs.any (Nat.ble h)) with
 | true=>fr.length
 | false=>h
theorem hOf_self (l:List Nat) (env:Env) (fr:Fr):hOf l fr.length env fr=fr.length:=by unfold hOf;split <;> rfl
def head (lv:Option (List Nat)) (h:Nat) (env:Env) (fr:Fr):Env×Fr:=match lv with
 | none=>(env,fr)
 | some l=>(mkEnv (l.map fun t=>(t,cutV fr (hOf l h env fr) (un (env t)))),trim (hOf l h env fr) fr)
def setPs:List Nat→List AV→Env→Env
 | p::ps,y::ys,env=>setPs ps ys (upd env p (.t y))
 | _,_,env=>env
def roundE (lv:Option (List Nat)) (A B:Env→Fr→Option (Out×Env×Fr)) (ps:List Nat) (y:List AV) (env:Env) (fr:Fr):Option (Out×Env×Fr):=
 match Nat.beq y.length ps.length with
 | false=>none
 | true=>match getAll fr (List.range fr.length) with
  | none=>none
  | some bs=>match A (setPs ps y fun t=>(env t).sub (idxσ (List.range fr.length))) (bs.map fun b=>unTch (b.sub (idxσ (List.range fr.length)))) with
   | some (.normal,e,r)=>match B e r with
    | none=>none
    | some (o,_,r')=>match kindOk (List.range fr.length) r' fr with
     | false=>none
     | true=>match o with
      | .normal=>some (.normal,(head lv fr.length (killE (touched (List.range fr.length) r') env) (back (List.range fr.length) fr r')).1,(head lv fr.length (killE (touched (List.range fr.length) r') env) (back (List.range fr.length) fr r')).2)
      | o=>some (o,killE (touched (List.range fr.length) r') env,back (List.range fr.length) fr r')
   | _=>none
def roundsE (lv:Option (List Nat)) (A B:Env→Fr→Option (Out×Env×Fr)) (ps:List Nat) (wh:Bool):List (List AV)→Env→Fr→Option (Out×Env×Fr)
 | [],env,fr=>match wh with
  | true=>some (.normal,env,fr)
  | false=>none
 | y::ys,env,fr=>match roundE lv A B ps y env fr with
  | some (.normal,e,r)=>roundsE lv A B ps wh ys e r
  | x=>x
def evC (g:Cfg) (f:Nat) (C:CallF) (Lp:LoopF):Code→Env→Fr→Option (Out×Env×Fr)
 | .skip,env,fr=>some (.normal,env,fr)
 | .region id ops draw,env,fr=>match evReg g f C id ops draw env fr with
  | some (e,r)=>some (.normal,e,r)
  | none=>none
 | .seq a b,env,fr=>match evC g f C Lp a env fr with
  | some (.normal,e,r)=>evC g f C Lp b e r
  | x=>x
 | .cond c a b,env,fr=>match rd env c with
  | .t (.bool true)=>evC g f C Lp a env fr
  | .t (.bool false)=>evC g f C Lp b env fr
  | _=>none
 | .block id b,env,fr=>match evC g f C Lp b env fr with
  | some (.exit i,e,r)=>match Nat.beq i id with
   | true=>some (.normal,e,r)
   | false=>some (.exit i,e,r)
  | x=>x
 | .loop b,env,fr=>Lp f b (head (g.lv f (blockId b)) (ownE (g.own f (blockId b)) env fr).2.length (ownE (g.own f (blockId b)) env fr).1 (ownE (g.own f (blockId b)) env fr).2).1 (head (g.lv f (blockId b)) (ownE (g.own f (blockId b)) env fr).2.length (ownE (g.own f (blockId b)) env fr).1 (ownE (g.own f (blockId b)) env fr).2).2
 | .exit id,env,fr=>some (.exit id,env,fr)
 | .ret,env,fr=>some (.ret,env,fr)
 | .rangeFunc op ps asg body,env,fr=>match calleeS (rd env op) with
  | some (gf,[],bs)=>match toAVs fr bs with
   | none=>none
   | some cs=>match g.seq gf cs with
    | none=>none
    | some (yss,wh)=>roundsE (g.lv f (blockId body)) (evC g f C Lp asg) (evC g f C Lp body) ps.toList wh yss env (freeze fr (rchs fr bs))
  | _=>none
 | _,_,_=>none
mutual
def thaw (fr:Fr):SV→SV
 | .ls i=>match fr[i]? with
  | some (.row true _ _ es)=>.t (.arr es)
  | _=>.ls i
 | .agg cs=>match pursN (thawL fr cs) with
  | some xs=>.t (.agg xs)
  | none=>.agg (thawL fr cs)
 | .tup cs=>.tup (thawL fr cs)
 | .fn f nf cs=>fnS f nf (thawL fr cs)
 | .yes s=>thaw fr s
 | s=>s
def thawL (fr:Fr):List SV→List SV
 | []=>[]
 | c::cs=>thaw fr c::thawL fr cs
end
def outOne (P:Program) (env:Env) (fr:Fr):Nat×Option Nat→Option SV
 | (t,none)=>some (env t)
 | (t,some T)=>loadS P fr T (un (env t))
def outsOf (P:Program) (env:Env) (fr:Fr):List (Nat×Option Nat)→Option (List SV)
 | []=>some []
 | r::rs=>match outOne P env fr r with
  | none=>none
  | some x=>match outsOf P env fr rs with
   | none=>none
   | some xs=>some (x::xs)
def outOf (P:Program) (env:Env) (fr:Fr) (rs:List (Nat×Option Nat)):Option SV:=match outsOf P env fr rs with
 | none=>none
 | some [x]=>some x
 | some xs=>some (.tup xs)
def inner (m:Nat) (fr:Fr):List Nat→List Nat
 | []=>[]
 | i::r=>(match fr[i]? with
  | some (.box _ _ cs)=>(rchs fr (cs.filter fun c=>c.refs.any fun k=>Nat.ble m k)).filter (Nat.ble m)
  | _=>[])++inner m fr r
def roAll (fr:Fr):List Nat→Bool
 | []=>true
 | i::r=>match fr[i]? with
  | some b=>b.ro && roAll fr r
  | none=>false
def recell (m:Nat) (fr:Fr) (c:SV):SV:=match c.refs.any fun k=>Nat.ble m k with
 | false=>c
 | true=>match toAV fr deep c,roAll fr (rch fr deep c) with
  | some x,true=>.t x
  | _,_=>c
def recellB (m:Nat) (fr:Fr):Lb→Lb
 | .box ro T cs=>.box ro T (cs.map (recell m fr))
 | b=>b
def unTchN:Nat→Fr→Fr
 | _,[]=>[]
 | 0,b::bs=>unTch b::unTchN 0 bs
 | n+1,b::bs=>b::unTchN n bs
def fin (m:Nat) (r0:SV) (fr:Fr):Option (SV×Fr):=
 let r1:=thaw fr (un r0)
 let ids:=dedup (List.range m) r1.refs
 match ids with
 | []=>some (r1,[])
 | _=>
  let fr1:=freeze fr (inner m fr ids)
  match getAll fr1 ids with
  | none=>none
  | some bs=>
   let bs':=bs.map (recellB m fr1)
   match closedFr ids bs' with
   | false=>match getAll fr (close fr 4 ids) with
    | none=>none
    | some bs2=>match closedFr (close fr 4 ids) bs2 with
     | false=>none
     | true=>some (r1.sub (idxσ (close fr 4 ids)),unTchN m (bs2.map (Lb.sub (idxσ (close fr 4 ids)))))
   | true=>some (r1.sub (idxσ ids),unTchN m (bs'.map (Lb.sub (idxσ ids))))
def finO (m:Nat) (o:Option SV) (fr:Fr):Option (SV×Fr):=match o with
 | some r=>fin m r fr
 | none=>none
def treT (b:Bool) (m:Nat) (o:Option (SV×Fr)):Option (SV×Fr):=match b with
 | false=>o
 | true=>match o with
  | none=>none
  | some (r,ex)=>match m with
   | 0=>match toAV ex deep r with
    | some x=>some (.t x,[])
    | none=>some (r,ex)
   | _+1=>some (r,ex)
def ofArgs (xs:List SV):Env:=fun t=>match xs[t]? with|some x=>x|none=>.dead
def resTmps:List ResultVar→List (Nat×Option Nat)
 | []=>[]
 | .tmp t::r=>(t,none)::resTmps r
 | .cell t T::r=>(t,some T)::resTmps r
mutual
def callN (g:Cfg):Nat→Nat→List SV→Fr→Option (SV×Fr)
 | 0,_,_,_=>none
 | n+1,f,args,fr=>match g.ok f with
  | false=>match fr,pursN args with
   | [],some xs=>g.ext f xs
   | _,_=>g.exh f args fr
  | true=>match g.P.funcs[f]? with
   | none=>none
   | some fn=>match fn.body with
    | some c=>match Nat.ble args.length fn.ntmps with
     | false=>none
     | true=>match evC g f (callN g n) (loopN g n) c (ofArgs args) fr with
      | some (.normal,e,r)=>treT (g.tre f) fr.length (finO fr.length (outOf g.P e r (resTmps fn.results.toList)) r)
      | some (.ret,e,r)=>treT (g.tre f) fr.length (finO fr.length (outOf g.P e r (resTmps fn.results.toList)) r)
      | _=>none
    | none=>none
def loopN (g:Cfg):Nat→Nat→Code→Env→Fr→Option (Out×Env×Fr)
 | 0,_,_,_,_=>none
 | n+1,f,b,env,fr=>match evC g f (callN g n) (loopN g n) b env fr with
  | some (.normal,e,r)=>loopN g n f b (head (g.lv f (blockId b)) fr.length e r).1 (head (g.lv f (blockId b)) fr.length e r).2
  | x=>x
end
end Go.Proofs.YtjdhnoffoknlnaaGreatDoor
namespace Go.Proofs.YtjdhnoffoknlnaaGreatDoor
open Go.RowKit
mutual
theorem SV.sub_id:∀ x:SV,SV.sub some x=x
 | .t x=>by rw [SV.sub]
 | .nil=>by rw [SV.sub]
 | .tc es=>by rw [SV.sub]
 | .nn es=>by rw [SV.sub]
 | .lp i j=>by rw [SV.sub]
 | .ls i=>by rw [SV.sub]
 | .lv i sz a n=>by rw [SV.sub]
 | .le i sz k j=>by rw [SV.sub]
 | .lm i=>by rw [SV.sub]
 | .lo i p=>by rw [SV.sub]
 | .lr i p k=>by rw [SV.sub]
 | .agg cs=>by rw [SV.sub,SV.subL_id cs]
 | .tup cs=>by rw [SV.sub,SV.subL_id cs]
 | .fn f nf cs=>by rw [SV.sub,SV.subL_id cs]
 | .yes s=>by rw [SV.sub,SV.sub_id s]
 | .no=>by rw [SV.sub]
 | .dead=>by rw [SV.sub]
theorem SV.subL_id:∀ cs:List SV,SV.subL some cs=cs
 | []=>by rw [SV.subL]
 | c::cs=>by rw [SV.subL,SV.sub_id c,SV.subL_id cs]
end
theorem hasN_iff {l:List Nat} {i:Nat}:hasN l i=true↔i∈l:=by
 unfold hasN
 rw [List.any_eq_true]
 constructor
 ·rintro ⟨j,hj,h⟩
  rw [Nat.beq_eq] at h
  rw [h];exact hj
 ·intro h
  exact ⟨i,h,by simp⟩
theorem hasN_not {l:List Nat} {i:Nat}:hasN l i=false↔i ∉ l:=by
 rw [← Bool.not_eq_true,hasN_iff]
theorem killσ_some {ks:List Nat} {i j:Nat} (h:killσ ks i=some j):j=i∧i ∉ ks:=by
 unfold killσ at h
 split at h
 ·cases h
 ·rename_i hk;cases h;exact ⟨rfl,hasN_not.1 hk⟩
theorem ltσ_some {h i j:Nat} (hh:ltσ h i=some j):j=i∧i < h:=by
 unfold ltσ at hh
 split at hh
 ·rename_i hk;cases hh;exact ⟨rfl,by simpa [Nat.blt_eq] using hk⟩
 ·cases hh
theorem frzA_get (l:List Nat):∀ (fr:Fr) (k i:Nat),(frzA l k fr)[i]?=(fr[i]?).map (frzB (hasN l (k+i)))
 | [],k,i=>by simp [frzA]
 | b::r,k,0=>by simp [frzA]
 | b::r,k,i+1=>by
  rw [frzA,List.getElem?_cons_succ,List.getElem?_cons_succ,frzA_get l r (k+1) i]
  rw [show k+1+i=k+(i+1) by omega]
theorem freeze_get (l:List Nat) (fr:Fr) (i:Nat):(freeze fr l)[i]?=(fr[i]?).map (frzB (hasN l i)):=by
 unfold freeze
 split
 ·cases fr[i]? <;> rfl
 ·rw [frzA_get,Nat.zero_add]
theorem freeze_len (l:List Nat) (fr:Fr):(freeze fr l).length=fr.length:=by
 have hA:∀ (fr:Fr) (k:Nat),(frzA l k fr).length=fr.length:=fun fr=>by
  induction fr with
  | nil=>intro k;rfl
  | cons b r ih=>intro k;rw [frzA];simp [ih]
 unfold freeze
 split
 ·rfl
 ·exact hA fr 0
theorem killFr_get (ks:List Nat) (fr:Fr) (i:Nat):(killFr ks fr)[i]?=(fr[i]?).map (Lb.sub (killσ ks)):=by
 unfold killFr
 split
 ·have:killσ []=some:=rfl
  rw [this]
  have:Lb.sub some=id:=by
   funext b
   cases b <;> simp [Lb.sub,SV.subL_id]
  rw [this];simp
 ·rw [List.getElem?_map]
theorem killFr_len (ks:List Nat) (fr:Fr):(killFr ks fr).length=fr.length:=by
 unfold killFr
 split
 ·rfl
 ·simp
theorem Lb.sub_id (b:Lb):Lb.sub some b=b:=by cases b <;> simp [Lb.sub,SV.subL_id]
theorem Lb.sub_ro (σ:Nat→Option Nat) (b:Lb):(b.sub σ).ro=b.ro:=by cases b <;> rfl
theorem Lb.sub_tch (σ:Nat→Option Nat) (b:Lb):(b.sub σ).tch=b.tch:=by cases b <;> rfl
def BlkTo (σ:Nat→Option Nat):Lb→Lb→Prop
 | .box ro T cs,.box ro' T' cs'=>(ro=true→ro'=true)∧T'=T∧cs'=SV.subL σ cs
 | .row ro _ sz es,.row ro' _ sz' es'=>(ro=true→ro'=true)∧sz'=sz∧es'=es
 | .map ro ks vs,.map ro' ks' vs'=>(ro=true→ro'=true)∧ks'=ks∧vs'=SV.subL σ vs
 | .own ro x,.own ro' x'=>(ro=true→ro'=true)∧x'=x
 | _,_=>False
theorem BlkTo.ro {σ:Nat→Option Nat} {b b':Lb} (h:BlkTo σ b b') (hr:b'.ro=false):b.ro=false:=by
 cases b <;> cases b' <;> first|exact h.elim|skip
 all_goals
  rw [← Bool.not_eq_true]
  intro h1
  have:=h.1 h1
  exact absurd (this.symm.trans hr) (by decide)
theorem blkTo_sub (σ:Nat→Option Nat) (b:Lb):BlkTo σ b (b.sub σ):=by cases b <;> first|exact ⟨id,rfl,rfl⟩|exact ⟨id,rfl⟩
theorem blkTo_refl (b:Lb):BlkTo some b b:=by
 cases b with
 | box=>exact ⟨id,rfl,(SV.subL_id _).symm⟩
 | row=>exact ⟨id,rfl,rfl⟩
 | map=>exact ⟨id,rfl,(SV.subL_id _).symm⟩
 | own=>exact ⟨id,rfl⟩
theorem blkTo_ro (b:Lb):BlkTo some b (setRo b):=by
 cases b with
 | box=>exact ⟨fun _=>rfl,rfl,(SV.subL_id _).symm⟩
 | row=>exact ⟨fun _=>rfl,rfl,rfl⟩
 | map=>exact ⟨fun _=>rfl,rfl,(SV.subL_id _).symm⟩
 | own=>exact ⟨fun _=>rfl,rfl⟩
theorem blkTo_frz (b:Lb) (q:Bool):BlkTo some b (frzB q b):=by
 cases q
 ·exact blkTo_refl b
 ·exact blkTo_ro b
theorem setRo_ro (b:Lb):(setRo b).ro=true:=by cases b <;> rfl
theorem setRo_tch (b:Lb):(setRo b).tch=b.tch:=by cases b <;> rfl
theorem frz_tch (b:Lb) (q:Bool):(frzB q b).tch=b.tch:=by
 cases q
 ·rfl
 ·exact setRo_tch b
def Lof (n:Nat) (L:Ls) (π:Nat→Nat):Ls:=fun j=>if j < n then L (π j) else none
section
variable {γ:Glob} {κ:Ctx} {fr:Fr} {L:Ls} {w:World}
theorem lbOk_to {A A':Nat→Prop} {L L':Ls} {w w':World} {σ:Nat→Option Nat} {i j:Nat} {b b':Lb} (hs:w.heap.size≤w'.heap.size) (hA:∀ b,b < w.heap.size→A b→A' b∧w'.heap[b]?=w.heap[b]?) (hL:∀ i j v,σ i=some j→L i=some v→L' j=some v)
  (hij:∀ v,L i=some v→L' j=some v) (hown:∀ v k,L i=some v→Bk v k→w'.heap[k]?=w.heap[k]?) (hrow:∀ T sz v n us,L i=some v→RowIs w T sz v n us→RowIs w' T sz v n us) (hb:BlkTo σ b b') (h:LbOk A L w i b):LbOk A' L' w' j b':=by
 cases b with
 | box ro T cs=>
  cases b' with
  | box ro' T' cs'=>
   obtain ⟨_,rfl,rfl⟩:=hb
   obtain ⟨g,us,h1,h2,h3,h4⟩:=h
   refine ⟨g,us,hij _ h1,(hown _ g h1 (.one rfl)).trans h2,by rw [SV.subL_length];exact h3,fun k x u hx hu=>?_⟩
   rw [SV.subL_get] at hx
   cases hc:cs[k]? with
   | none=>rw [hc] at hx;cases hx
   | some c=>rw [hc] at hx;cases hx;exact SR.sub σ hs hA hL (h4 k c u hc hu)
  | row=>exact hb.elim
  | map=>exact hb.elim
  | own=>exact hb.elim
 | row ro tch sz es=>
  cases b' with
  | box=>exact hb.elim
  | map=>exact hb.elim
  | own=>exact hb.elim
  | row ro' tch' sz' es'=>
   obtain ⟨_,rfl,rfl⟩:=hb
   obtain ⟨T,v,us,h1,h2,h2',h3,h4⟩:=h
   refine ⟨T,v,us,hij _ h1,hrow T _ v _ us h1 h2,h2',h3,fun k q cs x hk hq=>?_⟩
   obtain ⟨u,h5,h6⟩:=h4 k q cs x hk hq
   exact ⟨u,h5,VR.on hs hA h6⟩
 | map ro ks vs=>
  cases b' with
  | box=>exact hb.elim
  | row=>exact hb.elim
  | own=>exact hb.elim
  | map ro' ks' vs'=>
   obtain ⟨_,rfl,rfl⟩:=hb
   obtain ⟨r,ents,clock,h1,h2,h3,h4,h5,h6,h7⟩:=h
   refine ⟨r,ents,clock,hij _ h1,(hown _ r h1 (.one rfl)).trans h2,h3,by rw [SV.subL_length];exact h4,fun k x u hx hu=>VR.on hs hA (h5 k x u hx hu),fun k x u hx hu=>?_,h7⟩
   rw [SV.subL_get] at hx
   cases hc:vs[k]? with
   | none=>rw [hc] at hx;cases hx
   | some c=>rw [hc] at hx;cases hx;exact SR.sub σ hs hA hL (h6 k c u hc hu)
 | own ro x=>
  cases b' with
  | box=>exact hb.elim
  | row=>exact hb.elim
  | map=>exact hb.elim
  | own ro' x'=>
   obtain ⟨_,rfl⟩:=hb
   obtain ⟨v,t,h1,h2⟩:=h
   exact ⟨v,t,hij _ h1,h2.same fun b hb=>hown _ b h1 hb⟩
theorem Core.refr (hC:Core γ κ fr L w) (fr':Fr) (π:Nat→Nat) (σ:Nat→Option Nat) (hinj:∀ j k,j < fr'.length→k < fr'.length→π j=π k→j=k) (hσ:∀ i j v,σ i=some j→L i=some v→j < fr'.length∧π j=i)
  (hblk:∀ j lb',fr'[j]?=some lb'→∃ lb,fr[π j]?=some lb∧BlkTo σ lb lb') (hhand:∀ j v,κ.L j=some v→∃ lb lb',fr[j]?=some lb∧fr'[j]?=some lb'∧π j=j∧(lb'.tch=false→lb.tch=false)) :
  Core γ κ fr' (Lof fr'.length L π) w∧(∀ b,MA κ.M fr L b→MA κ.M fr' (Lof fr'.length L π) b)∧∀ i j v,σ i=some j→L i=some v→Lof fr'.length L π j=some v:=by
 have hLof:∀ j v,Lof fr'.length L π j=some v→j < fr'.length∧L (π j)=some v:=fun j v h=>by
  unfold Lof at h
  split at h
  ·rename_i hj;exact ⟨hj,h⟩
  ·cases h
 have hLs:∀ i j v,σ i=some j→L i=some v→Lof fr'.length L π j=some v:=fun i j v h1 h2=>by
  obtain ⟨hj,hp⟩:=hσ i j v h1 h2
  unfold Lof
  rw [if_pos hj,hp]
  exact h2
 have hMA:∀ b,MA κ.M fr L b→MA κ.M fr' (Lof fr'.length L π) b:=fun b hb=>⟨hb.1,fun ⟨j,v,lb',h1,h2,h3,h4⟩=>by
  obtain ⟨hj,h1⟩:=hLof j v h1
  obtain ⟨lb,h5,h6⟩:=hblk j lb' h3
  exact hb.2 ⟨π j,v,lb,h1,h2,h5,h6.ro h4⟩⟩
 refine ⟨⟨hC.glob,hC.gn,hC.gx,hC.fresh,hC.os,hC.tape,hC.output,hC.size,hC.kept,fun j v h=>(hLof j v h).1,fun j v b lb' h1 h2 h3=>?_,fun j k v v' b h1 h2 h3 h4=>?_,fun j v h=>?_,fun j lb' h=>?_⟩,hMA,hLs⟩
 ·obtain ⟨hj,h1⟩:=hLof j v h1
  obtain ⟨lb,h5,h6⟩:=hblk j lb' h3
  obtain ⟨a1,a2,a0,a3⟩:=hC.new (π j) v b lb h1 h2 h5
  exact ⟨a1,a2,a0,fun hr=>a3 (h6.ro hr)⟩
 ·obtain ⟨hj,h1⟩:=hLof j v h1
  obtain ⟨hk,h2⟩:=hLof k v' h2
  exact hinj j k hj hk (hC.dis _ _ v v' b h1 h2 h3 h4)
 ·obtain ⟨lb,lb',h1,h2,h3,h4⟩:=hhand j v h
  refine ⟨lb',h2,fun ht=>?_⟩
  obtain ⟨lb0,h5,h6⟩:=hC.hand j v h
  rw [h1] at h5
  cases h5
  unfold Lof
  rw [if_pos (lt_of_get h2),h3]
  exact h6 (h4 ht)
 ·obtain ⟨lb,h5,h6⟩:=hblk j lb' h
  have hj:=lt_of_get h
  refine lbOk_to (i:=π j) (Nat.le_refl _) (fun b _ hb=>⟨hMA b hb,rfl⟩) hLs (fun v hv=>?_) (fun _ _ _ _=>rfl) (fun _ _ _ _ _ _ h=>h) h6 (hC.blk (π j) lb h5)
  unfold Lof
  rw [if_pos hj]
  exact hv
end
end Go.Proofs.YtjdhnoffoknlnaaGreatDoor
