/- The tree evaluator,1: values as trees,slots,blocks of a. No condition. -/
import Derived.Test.YtcgdbhlnkificaaGreatDoorProg
import Derived.WalkKit
import Derived.OrdersIn
import Derived.TacticsIn
import Derived.RangeFuncCalls
import Derived.WalkSpells
import Derived.WalkLawsBesides
import Derived.Below
import Derived.Laws.OwnMore
import Derived.Deep.AppendLies
import Derived.Deep.Draws
import Derived.Deep.QuietTactic
import Derived.BigQuiet
import Derived.Lib.Hide
import Derived.Deep.LoopGhost
import Derived.Deep.Cut
import Derived.Laws.Tables
import Derived.Laws.StructEq
set_option linter.all false
namespace Go.Proofs.YtcgdbhlnkificaaGreatDoor
open Go.RowKit
theorem aC{α:Type}{xs:List α}{k:Nat}{n:α}(h:xs[k]?=some n):k <xs.length:=(List.getElem?_eq_some_iff.1 h).1
theorem am{α:Type}{xs:List α}{k:Nat}(h:k <xs.length):∃n,xs[k]?=some n:=⟨xs[k],List.getElem?_eq_getElem h⟩
theorem Ep{w w':World}{base:Nat}{e:TypeId}{size:Nat}{v:Value}{n:Nat}{xs:List Value}(h:w.ownsRow base e size v n xs)(hb:Below w.heap.size w w'):w'.ownsRow base e size v n xs:=
 h.kept (row:=none) ⟨hb.os,hb.tape,hb.output,hb.size,fun k u _=>hb.block k u⟩ (by cases h:v.ownBlock <;>simp)
inductive AV where
 |int (k:IntKind) (n:Int)
 |bool (b:Bool)
 |str (s:ByteArray)
 |arr (es:List (List AV))
 |tp (cs:List AV)
 |agg (cs:List AV)
 |aN (vs:List AV)
 |fn (f:Fn) (nf:Nat) (caps:List AV)
 |mp (ks vs:List AV)
 |lit (v:Value)
 |lz
instance:Inhabited AV:=⟨.bool false⟩
def CJ:Value->Bool
 | .bool _|.int ..|.float ..|.complex ..|.string _|.nilFunc|.nilIface=>true
 | .pointer none|.map none|.chan none=>true
 | .slice none _ _=>true
 |_=>false
inductive VR (M:Nat->Prop) (w:World):AV->Value->Prop where
 |int (k n):VR M w (.int k n) (.int k n)
 |bool (b):VR M w (.bool b) (.bool b)
 |str (s):VR M w (.str s) (.string s)
 |bS (A c):VR M w (.arr []) (.slice A 0 c)
 |arr (b o c sz:Nat) (es:List (List AV)) (us:Nat->Nat->Value) (hne:es≠[]) (hlen:es.length<=140737488351232) (hcap:es.length<=c) (hb:b <w.heap.size) (hM:M b) (hsz:∀(k:Nat) (cs:List AV),es[k]?=some cs->cs.length=sz)
   (hc:∀(k j:Nat),k <es.length->j <sz->w.cell? ⟨b,o+(k*sz+j),none⟩=some (us k j))
   (hr:∀(k j:Nat) (cs:List AV) (x:AV),es[k]?=some cs->cs[j]?=some x->VR M w x (us k j)):VR M w (.arr es) (.slice (some ⟨b,o,none⟩) es.length c)
 |tp (b o:Nat) (cs:List AV) (us:Nat->Value) (hne:cs≠[]) (hb:b <w.heap.size) (hM:M b) (hc:∀(j:Nat),j <cs.length->w.cell? ⟨b,o+j,none⟩=some (us j))
   (hr:∀(j:Nat) (x:AV),cs[j]?=some x->VR M w x (us j)):VR M w (.tp cs) (.pointer (some ⟨b,o,none⟩))
 |agg (cs:List AV) (us:Array Value) (hl:us.size=cs.length) (hr:∀(j:Nat) (x:AV) (u:Value),cs[j]?=some x->us[j]?=some u->VR M w x u):VR M w (.agg cs) (.agg us)
 |aN (cs:List AV) (us:Array Value) (hl:us.size=cs.length) (hr:∀(j:Nat) (x:AV) (u:Value),cs[j]?=some x->us[j]?=some u->VR M w x u):VR M w (.aN cs) (.tuple us)
 |fn (f:Fn) (cs:List AV) (fs us:Array Value) (hl:(fs++us).size=cs.length) (hr:∀(j:Nat) (x:AV) (u:Value),cs[j]?=some x->(fs++us)[j]?=some u->VR M w x u):VR M w (.fn f fs.size cs) (.func f fs us)
 |mp (r:Nat) (ks vs:List AV) (ents:Array MapEntry) (clock:Nat) (hb:r <w.heap.size) (hM:M r) (hh:w.heap[r]?=some (.map ents clock)) (hk:ents.size=ks.length) (hv:ents.size=vs.length)
   (hrk:∀(j:Nat) (x:AV) (u:MapEntry),ks[j]?=some x->ents[j]?=some u->VR M w x u.key) (hrv:∀(j:Nat) (x:AV) (u:MapEntry),vs[j]?=some x->ents[j]?=some u->VR M w x u.val):VR M w (.mp ks vs) (.map (some r))
 |lit (v) (h:CJ v=true):VR M w (.lit v) v
 |lz (t:TypeId) (v:Value):VR M w .lz (.iface t v)
def VR.on{M M':Nat->Prop}{w w':World}(hs:w.heap.size<=w'.heap.size)(U:∀b,b <w.heap.size->M b->M' b/\w'.heap[b]?=w.heap[b]?)
  {x:AV}{v:Value}(h:VR M w x v):VR M' w' x v:=by
 induction h with
 |int k n=>exact .int k n
 |bool b=>exact .bool b
 |str s=>exact .str s
 |bS A c=>exact .bS A c
 |arr b o c sz es D J ab Z y u ad hc hr z=>exact .arr b o c sz es D J ab Z (Nat.lt_of_lt_of_le y hs) (U b y u).1 ad (fun k j hk hj=>by rw[World.cell?_of_block (w:=w) (U b y u).2];exact hc k j hk hj) z
 |tp b o I D J y u hc hr z=>exact .tp b o I D J (Nat.lt_of_lt_of_le y hs) (U b y u).1 (fun j hj=>by rw[World.cell?_of_block (w:=w) (U b y u).2];exact hc j hj) z
 |agg I D hl hr z=>exact .agg I D hl z
 |aN I D hl hr z=>exact .aN I D hl z
 |fn f I fs D hl hr z=>exact .fn f I fs D hl z
 |mp r ks vs V G y u hh hk hv an ao ag al=>exact .mp r ks vs V G (Nat.lt_of_lt_of_le y hs) (U r y u).1 (by rw[(U r y u).2];exact hh) hk hv ag al
 |lit v h=>exact .lit v h
 |lz t v=>exact .lz t v
def VR.len{M:Nat->Prop}{w:World}{es:List (List AV)}{v:Value}(h:VR M w (.arr es) v):es.length<=140737488351232:=by
 cases h with
 |bS A c=>simp
 |arr b o c sz es z y u=>exact u
inductive SV where
 |t (x:AV)
 |nil
 |tc (es:List (List AV))
 |nn (es:List (List AV))
 |lp (i j:Nat)
 |ls (i:Nat)
 |lv (i sz a n:Nat)
 |le (i sz k j:Nat)
 |lm (i:Nat)
 |lo (i:Nat) (p:List Nat)
 |lr (i:Nat) (p:List Nat) (k:Nat)
 |agg (cs:List SV)
 |aN (cs:List SV)
 |fn (f:Fn) (nf:Nat) (caps:List SV)
 |aT (s:SV)
 |no
 |dead
instance:Inhabited SV:=⟨.dead⟩
inductive Lb where
 |box (ro:Bool) (T:TypeId) (cs:List SV)
 |row (ro tch:Bool) (sz:Nat) (es:List (List AV))
 |map (ro:Bool) (ks:List AV) (vs:List SV)
 |own (ro:Bool) (x:AV)
def Lb.ro:Lb->Bool
 | .box ro _ _=>ro
 | .row ro _ _ _=>ro
 | .map ro _ _=>ro
 | .own ro _=>ro
abbrev Fr:=List Lb
abbrev Env:=Nat->SV
mutual
def SV.sub(σ:Nat->Option Nat):SV->SV
 | .t x=>.t x
 | .nil=>.nil
 | .tc v=>.tc v
 | .nn v=>.nn v
 | .lp i j=>match σ i with|some k=>.lp k j|none=>.dead
 | .ls i=>match σ i with|some k=>.ls k|none=>.dead
 | .lv i sz a n=>match σ i with|some k=>.lv k sz a n|none=>.dead
 | .le i sz e j=>match σ i with|some k=>.le k sz e j|none=>.dead
 | .lm i=>match σ i with|some k=>.lm k|none=>.dead
 | .lo i p=>match σ i with|some k=>.lo k p|none=>.dead
 | .lr i p e=>match σ i with|some k=>.lr k p e|none=>.dead
 | .agg u=>.agg (SV.cC σ u)
 | .aN u=>.aN (SV.cC σ u)
 | .fn f y u=>.fn f y (SV.cC σ u)
 | .aT s=>.aT (SV.sub σ s)
 | .no=>.no
 | .dead=>.dead
def SV.cC(σ:Nat->Option Nat):List SV->List SV
 |[]=>[]
 |c::u=>SV.sub σ c::SV.cC σ u
end
mutual
def SV.refs:SV->List Nat
 | .t _|.nil|.tc _|.nn _|.no|.dead=>[]
 | .lp i _|.ls i|.lv i _ _ _|.le i _ _ _|.lm i|.lo i _|.lr i _ _=>[i]
 | .agg cs|.aN cs|.fn _ _ cs=>SV.iJ cs
 | .aT s=>SV.refs s
def SV.iJ:List SV->List Nat
 |[]=>[]
 |c::u=>SV.refs c++SV.iJ u
end
def Lb.sub(σ:Nat->Option Nat):Lb->Lb
 | .box u T y=>.box u T (SV.cC σ y)
 | .row u v sz z=>.row u v sz z
 | .map u ks D=>.map u ks (SV.cC σ D)
 | .own u x=>.own u x
def Lb.refs:Lb->List Nat
 | .box _ _ cs=>SV.iJ cs
 | .row ..=>[]
 | .map _ _ vs=>SV.iJ vs
 | .own ..=>[]
theorem SV.rS(σ:Nat->Option Nat):∀cs:List SV,(SV.cC σ cs).length=cs.length
 |[]=>rfl
 |c::cs=>by rw[SV.cC];simp[SV.rS σ cs]
theorem SV.rR(σ:Nat->Option Nat):∀(cs:List SV) (j:Nat),(SV.cC σ cs)[j]?=(cs[j]?).map (SV.sub σ)
 |[],j=>by simp[SV.cC]
 |c::cs,0=>by simp[SV.cC]
 |c::cs,j+1=>by simp[SV.cC,SV.rR σ cs j]
def bv:Value->Option Nat
 | .pointer (some a)=>some a.block
 | .slice (some a) _ (_+1)=>some a.block
 | .map (some r)=>some r
 |_=>none
def eB:Value->Bool
 | .agg _|.tuple _=>false
 |_=>true
inductive Bk:Value->Nat->Prop where
 |one {v:Value} {b:Nat} (h:bv v=some b):Bk v b
 |many {us:Array Value} {k:Nat} {u:Value} {b:Nat} (hu:us[k]?=some u) (h:Bk u b):Bk (.tuple us) b
def Bk.of{v:Value}{b:Nat}(h:Bk v b)(hp:eB v=true):bv v=some b:=by
 cases h with
 |one h=>exact h
 |many=>cases hp
theorem Bk.none{v:Value}{b:Nat}(h:Bk v b)(hp:eB v=true)(hn:bv v=none):False:=by
 have:=h.of hp;rw[hn]at this;cases this
def il:Value->List Nat->Option Value
 |t,[]=>some t
 | .tuple u,k::p=>match u[k+1]? with
  |some t=>il t p
  |none=>none
 |_,_::_=>none
def lx(t:Value)(p:List Nat):Option Value:=match il t p with
 |some (.tuple u)=>u[0]?
 |_=>none
abbrev Ls:=Nat->Option Value
def Own(fr:Fr)(L:Ls)(b:Nat):Prop:=∃i v u,L i=some v/\Bk v b/\fr[i]?=some u/\u.ro=false
def MA(M:Nat->Prop)(fr:Fr)(L:Ls)(b:Nat):Prop:=M b/\¬Own fr L b
inductive SR (A:Nat->Prop) (L:Ls) (w:World):SV->Value->Prop where
 |t (x:AV) (v:Value) (h:VR A w x v):SR A L w (.t x) v
 |nil:SR A L w .nil (.slice none 0 0)
 |tc (es:List (List AV)) (a:Option Addr) (h:VR A w (.arr es) (.slice a es.length es.length)):SR A L w (.tc es) (.slice a es.length es.length)
 |nn (es:List (List AV)) (a:Addr) (c:Nat) (h:VR A w (.arr es) (.slice (some a) es.length c)):SR A L w (.nn es) (.slice (some a) es.length c)
 |lp (i j g:Nat) (h:L i=some (.pointer (some ⟨g,0,none⟩))):SR A L w (.lp i j) (.pointer (some ⟨g,j,none⟩))
 |ls (i:Nat) (v:Value) (h:L i=some v) (hp:eB v=true):SR A L w (.ls i) v
 |lv (i sz a n b m c:Nat) (h:L i=some (.slice (some ⟨b,0,none⟩) m c)):SR A L w (.lv i sz a n) (.slice (some ⟨b,a*sz,none⟩) n (c - a))
 |le (i sz k j b m c:Nat) (h:L i=some (.slice (some ⟨b,0,none⟩) m c)):SR A L w (.le i sz k j) (.pointer (some ⟨b,k*sz+j,none⟩))
 |lm (i r:Nat) (h:L i=some (.map (some r))):SR A L w (.lm i) (.map (some r))
 |lo (i:Nat) (p:List Nat) (t v:Value) (h:L i=some t) (hv:lx t p=some v) (hp:eB v=true):SR A L w (.lo i p) v
 |lr (i:Nat) (p:List Nat) (k b n c:Nat) (t:Value) (h:L i=some t) (hv:lx t p=some (.slice (some ⟨b,0,none⟩) n c)):SR A L w (.lr i p k) (.pointer (some ⟨b,k,none⟩))
 |agg (cs:List SV) (us:Array Value) (hl:us.size=cs.length) (hr:∀(j:Nat) (x:SV) (u:Value),cs[j]?=some x->us[j]?=some u->SR A L w x u):SR A L w (.agg cs) (.agg us)
 |aN (cs:List SV) (us:Array Value) (hl:us.size=cs.length) (hr:∀(j:Nat) (x:SV) (u:Value),cs[j]?=some x->us[j]?=some u->SR A L w x u):SR A L w (.aN cs) (.tuple us)
 |fn (f:Fn) (cs:List SV) (fs us:Array Value) (hl:(fs++us).size=cs.length) (hr:∀(j:Nat) (x:SV) (u:Value),cs[j]?=some x->(fs++us)[j]?=some u->SR A L w x u):SR A L w (.fn f fs.size cs) (.func f fs us)
 |aT (x:SV) (v:Value) (h:SR A L w x v):SR A L w (.aT x) v
 |no:SR A L w .no undef
 |dead (v):SR A L w .dead v
section
variable {A A':Nat->Prop} {L L':Ls} {w w':World}
theorem SR.on(hs:w.heap.size<=w'.heap.size)(J:∀b,b <w.heap.size->A b->A' b/\w'.heap[b]?=w.heap[b]?)(u:∀i v,L i=some v->L' i=some v)
  {x:SV}{v:Value}(h:SR A L w x v):SR A' L' w' x v:=by
 induction h with
 |t x v h=>exact .t x v (VR.on hs J h)
 |nil=>exact .nil
 |tc I a h=>exact .tc I a (VR.on hs J h)
 |nn I a c h=>exact .nn I a c (VR.on hs J h)
 |lp i j g h=>exact .lp i j g (u i _ h)
 |ls i v h U=>exact .ls i v (u i _ h) U
 |lv i sz a n b m c h=>exact .lv i sz a n b m c (u i _ h)
 |le i sz k j b m c h=>exact .le i sz k j b m c (u i _ h)
 |lm i r h=>exact .lm i r (u i _ h)
 |lo i p t v h V U=>exact .lo i p t v (u i _ h) V U
 |lr i p k b n c t h V=>exact .lr i p k b n c t (u i _ h) V
 |agg z G D Z y=>exact .agg z G D y
 |aN z G D Z y=>exact .aN z G D y
 |fn f z fs G D Z y=>exact .fn f z fs G D y
 |aT x v h y=>exact .aT x v y
 |no=>exact .no
 |dead v=>exact .dead v
theorem SR.sub(σ:Nat->Option Nat)(hs:w.heap.size<=w'.heap.size)(hA:∀b,b <w.heap.size->A b->A' b/\w'.heap[b]?=w.heap[b]?)(G:∀i j v,σ i=some j->L i=some v->L' j=some v)
  {x:SV}{v:Value}(h:SR A L w x v):SR A' L' w' (x.sub σ) v:=by
 induction h with
 |t x v h=>rw[SV.sub];exact .t x v (VR.on hs hA h)
 |nil=>rw[SV.sub];exact .nil
 |tc es a h=>rw[SV.sub];exact .tc es a (VR.on hs hA h)
 |nn es a c h=>rw[SV.sub];exact .nn es a c (VR.on hs hA h)
 |lp i j g h=>rw[SV.sub];cases z:σ i with|none=>exact .dead _|some k=>exact .lp k j g (G i k _ z h)
 |ls i v h hp=>rw[SV.sub];cases z:σ i with|none=>exact .dead _|some k=>exact .ls k v (G i k _ z h) hp
 |lv i sz a n b m c h=>rw[SV.sub];cases z:σ i with|none=>exact .dead _|some k=>exact .lv k sz a n b m c (G i k _ z h)
 |le i sz e j b m c h=>rw[SV.sub];cases z:σ i with|none=>exact .dead _|some k=>exact .le k sz e j b m c (G i k _ z h)
 |lm i r h=>rw[SV.sub];cases z:σ i with|none=>exact .dead _|some k=>exact .lm k r (G i k _ z h)
 |lo i p t v h hv hp=>rw[SV.sub];cases z:σ i with|none=>exact .dead _|some k=>exact .lo k p t v (G i k _ z h) hv hp
 |lr i p e b n c t h hv=>rw[SV.sub];cases z:σ i with|none=>exact .dead _|some k=>exact .lr k p e b n c t (G i k _ z h) hv
 |agg J Z U hr I=>
  rw[SV.sub];refine .agg _ Z (by rw[SV.rS];exact U) fun j x u y V=>?_;rw[SV.rR]at y
  cases D:J[j]? with
  |none=>rw[D]at y;cases y
  |some c=>rw[D]at y;cases y;exact I j c u D V
 |aN J Z U hr I=>
  rw[SV.sub];refine .aN _ Z (by rw[SV.rS];exact U) fun j x u y V=>?_;rw[SV.rR]at y
  cases D:J[j]? with
  |none=>rw[D]at y;cases y
  |some c=>rw[D]at y;cases y;exact I j c u D V
 |fn f J fs Z U hr I=>
  rw[SV.sub];refine .fn _ _ fs Z (by rw[SV.rS];exact U) fun j x u y V=>?_;rw[SV.rR]at y
  cases D:J[j]? with
  |none=>rw[D]at y;cases y
  |some c=>rw[D]at y;cases y;exact I j c u D V
 |aT x v h I=>rw[SV.sub];exact .aT _ v I
 |no=>rw[SV.sub];exact .no
 |dead v=>rw[SV.sub];exact .dead v
def SR.later(hb:Below w.heap.size w w'){x:SV}{v:Value}(h:SR A L w x v):SR A L w' x v:=SR.on hb.size (fun b u y=>⟨y,hb.block b u⟩) (fun _ _ h=>h) h
def VR.later(hb:Below w.heap.size w w'){x:AV}{v:Value}(h:VR A w x v):VR A w' x v:=VR.on hb.size (fun b u y=>⟨y,hb.block b u⟩) h
end
structure Glob where
 G:World->Prop
 n:Nat
 stays:∀w w',G w->(∀k,k <n->w'.heap[k]?=w.heap[k]?)->G w'
def cm(w:World)(T:TypeId)(sz:Nat)(v:Value)(n:Nat)(us:List Value):Prop:=(n=0/\us=[]/\∃a,v=.slice a 0 0)\/w.ownsRow 0 T sz v n us
def cm.own{w:World}{T:TypeId}{sz n:Nat}{v:Value}{us:List Value}(h:cm w T sz v n us)(hn:0 <n):w.ownsRow 0 T sz v n us:=by
 rcases h with⟨h,_⟩|h
 ·omega
 ·exact h
def cm.below{w w':World}{T:TypeId}{sz n:Nat}{v:Value}{us:List Value}(h:cm w T sz v n us)(hb:Below w.heap.size w w'):cm w' T sz v n us:=h.imp id fun h=>Ep h hb
def cm.same{w w':World}{T:TypeId}{sz n:Nat}{v:Value}{us:List Value}(h:cm w T sz v n us)(hb:∀k,bv v=some k->w'.heap[k]?=w.heap[k]?):cm w' T sz v n us:=by
 rcases h with h|h
 ·exact .inl h
 ·rcases h.2 with⟨rfl,u⟩|⟨g,cap,y,rfl,z,I,J,D,G,U⟩
  ·exact .inr ⟨h.1,.inl ⟨rfl,u⟩⟩
  ·rcases Nat.eq_zero_or_pos cap with u|u
   ·subst u;obtain rfl:n=0:=by omega
    exact .inl ⟨rfl,List.eq_nil_of_length_eq_zero (by have:=h.1;omega),_,rfl⟩
   ·obtain⟨c,rfl⟩:∃c,cap=c+1:=⟨cap - 1,by omega⟩;exact .inr ⟨h.1,.inr ⟨g,c+1,y,rfl,z,(hb g rfl).trans I,J,D,G,U⟩⟩
def cm.len{w:World}{T:TypeId}{sz n:Nat}{v:Value}{us:List Value}(h:cm w T sz v n us):us.length=n*sz:=by
 rcases h with⟨rfl,rfl,_⟩|h
 ·simp
 ·exact h.1
def cm.form{w:World}{T:TypeId}{sz n:Nat}{v:Value}{us:List Value}(h:cm w T sz v n us):∃q c,v=.slice q n c:=by
 rcases h with⟨rfl,rfl,a,rfl⟩|h
 ·exact⟨a,0,rfl⟩
 ·rcases h.2 with⟨rfl,y⟩|⟨b,cap,u,rfl,_⟩
  ·exact⟨none,0,by rw[y]⟩
  ·exact⟨_,cap,rfl⟩
structure Ctx where
 M:Nat->Prop
 X:Nat->Prop
 H:Nat->Prop
 W:World
 L:Ls
def Lb.tch:Lb->Bool
 | .box ..=>false
 | .map ..=>false
 | .row _ tch _ _=>tch
 | .own ..=>false
structure gS (ents:Array MapEntry) (clock:Nat):Prop where
 up:(ents.toList.map (·.born)).Pairwise (· < ·)
 lt:∀e∈ents.toList,e.born <clock
theorem gS.nil(c:Nat):gS #[] c:=⟨List.Pairwise.nil,fun e h=>by simp at h⟩
theorem gS.push{y:Array MapEntry}{u:Nat}(h:gS y u)(k v:Value):gS (y.push {key:=k,val:=v,born:=u}) (u+1) where
 up:=by
  rw[Array.toList_push,List.map_append,List.pairwise_append];refine⟨h.up,by simp,fun a D b z=>?_⟩;obtain⟨e,he,rfl⟩:=List.mem_map.1 D;simp at z;rw[z];exact h.lt e he
 lt:=fun e he=>by
  rw[Array.toList_push]at he;rcases List.mem_append.1 he with he|he
  ·exact Nat.lt_succ_of_lt (h.lt e he)
  ·simp at he;rw[he];exact Nat.lt_succ_self _
def Bx(u:Array MapEntry)(j:Nat)(k v:Value):(u.modify j fun e=>{e with key:=k,val:=v}).toList.map (·.born)=u.toList.map (·.born):=by
 apply List.ext_getElem?;intro i;rw[List.getElem?_map,List.getElem?_map,Array.getElem?_toList,Array.getElem?_toList,Array.getElem?_modify];split
 ·rename_i h;subst h;cases u[j]? <;>rfl
 ·rfl
theorem gS.modify{y:Array MapEntry}{u:Nat}(h:gS y u)(j:Nat)(k v:Value):gS (y.modify j fun e=>{e with key:=k,val:=v}) u where
 up:=by rw[Bx];exact h.up
 lt:=fun e I=>by
  have:e.born∈(y.modify j fun e=>{e with key:=k,val:=v}).toList.map (·.born):=List.mem_map.2 ⟨e,I,rfl⟩;rw[Bx]at this;obtain⟨D,z,G⟩:=List.mem_map.1 this;rw[<- G];exact h.lt D z
inductive OV (w:World):AV->Value->Value->Prop where
 |int (k n):OV w (.int k n) (.int k n) (.tuple #[])
 |bS (a:Option Addr):OV w (.arr []) (.slice a 0 0) (.tuple #[.slice a 0 0])
 |arr (b c:Nat) (T:TypeId) (cs:Array Value) (es:List AV) (fs:List (List AV)) (us:Nat->Value) (ts:List Value) (he:fs=es.map fun x=>[x]) (hg:w.heap[b]?=some (.cells cs T (0,0))) (hl:ts.length=es.length) (hn:es.length<=140737488351232) (hc:es.length<=c+1)
   (hu:∀k,k <es.length->cs[k]?=some (us k)) (hr:∀(k:Nat) (x:AV) (t:Value),es[k]?=some x->ts[k]?=some t->OV w x (us k) t) (hb:∀(k:Nat) (t:Value),ts[k]?=some t->¬Bk t b) (hd:∀(k k':Nat) (t t':Value) (b':Nat),ts[k]?=some t->ts[k']?=some t'->Bk t b'->Bk t' b'->k=k'):OV w (.arr fs) (.slice (some ⟨b,0,none⟩) es.length (c+1)) (.tuple (.slice (some ⟨b,0,none⟩) es.length (c+1)::ts).toArray)
def xy{b n c:Nat}{v:List Value}:Bk (.tuple (.slice (some ⟨b,0,none⟩) n (c+1)::v).toArray) b:=.many (k:=0) (u:=.slice (some ⟨b,0,none⟩) n (c+1)) (by simp) (.one rfl)
def Rg{v:Value}{u:List Value}{k b:Nat}{t:Value}(ht:u[k]?=some t)(h:Bk t b):Bk (.tuple (v::u).toArray) b:=.many (k:=k+1) (by simpa using ht) h
def Bp{b v n c:Nat}{y:List Value}(h:Bk (.tuple (.slice (some ⟨b,0,none⟩) n (c+1)::y).toArray) v):v=b\/∃(k:Nat) (t:Value),y[k]?=some t/\Bk t v:=by
 cases h with
 |one h=>cases h
 | @many _ k u _ hu hb=>
  cases k with
  |zero=>
   obtain rfl:Value.slice (some ⟨b,0,none⟩) n (c+1)=u:=by simpa using hu
   have:=hb.of rfl;cases this;exact .inl rfl
  |succ k=>exact .inr ⟨k,u,by simpa using hu,hb⟩
def xw{b:Nat}(h:Bk (.tuple #[]) b):False:=by
 cases h with
 |one h=>cases h
 |many hu _=>simp at hu
def Bq{a:Option Addr}{b:Nat}(h:Bk (.tuple #[.slice a 0 0]) b):False:=by
 cases h with
 |one h=>cases h
 | @many _ k u _ hu hb=>
  cases k with
  |zero=>
   obtain rfl:Value.slice a 0 0=u:=by simpa using hu
   exact hb.none rfl (by cases a <;>rfl)
  |succ k=>simp at hu
def OV.same{w w':World}{x:AV}{v t:Value}(h:OV w x v t)(hb:∀b,Bk t b->w'.heap[b]?=w.heap[b]?):OV w' x v t:=by
 induction h with
 |int k n=>exact .int k n
 |bS a=>exact .bS a
 |arr b c T D G I us ts U V Z hn J hu hr h1 h2 ih=>exact .arr b c T D G I us ts U ((hb b xy).trans V) Z hn J hu (fun k x t hx y=>ih k x t hx y fun z u=>hb z (Rg y u)) h1 h2
def OV.lt{w:World}{x:AV}{v t:Value}(h:OV w x v t):∀b,Bk t b->b <w.heap.size/\∃cs T,w.heap[b]?=some (.cells cs T (0,0)):=by
 induction h with
 |int k n=>exact fun b u=>(xw u).elim
 |bS a=>exact fun b u=>(Bq u).elim
 |arr b c T cs G U us ts Z z hl hn V hu hr h1 h2 J=>
  intro D y;rcases Bp y with rfl|⟨k,t,hk,h3⟩
  ·exact⟨(Array.getElem?_eq_some_iff.1 z).1,cs,T,z⟩
  ·have I:=aC hk;exact J k G[k] t (List.getElem?_eq_getElem (by omega)) hk D h3
def OV.plain{w:World}{x:AV}{v t:Value}(h:OV w x v t):eB v=true:=by cases h <;>rfl
def rj{es:List AV}{k:Nat}{cs:List AV}(h:(es.map fun x=>[x])[k]?=some cs):∃y,es[k]?=some y/\cs=[y]:=by
 rw[List.getElem?_map]at h
 cases u:es[k]? with
 |none=>rw[u]at h;cases h
 |some y=>rw[u]at h;cases h;exact⟨y,rfl,rfl⟩
def OV.vr{w:World}{A:Nat->Prop}{x:AV}{v t:Value}(h:OV w x v t)(V:∀b,Bk t b->A b):VR A w x v:=by
 induction h with
 |int k n=>exact .int k n
 |bS a=>exact .bS a 0
 |arr b c T U D fs us ts he Z hl hn hc hu hr h1 h2 ih=>
  subst he
  cases D with
  |nil=>exact .bS _ _
  |cons e D=>
   have u:((e::D).map fun x=>[x]).length=(e::D).length:=List.length_map ..
   have:=VR.arr (M:=A) (w:=w) b 0 (c+1) 1 ((e::D).map fun x=>[x]) (fun k _=>us k) (by simp) (by rw[u];exact hn) (by rw[u];exact hc) (Array.getElem?_eq_some_iff.1 Z).1 (V b xy) (fun k U z=>by
     obtain⟨y,_,rfl⟩:=rj z;rfl) (fun k j z J=>by
     obtain rfl:j=0:=by omega
     rw[u]at z;have h1:=hu k z;simp only[Nat.mul_one,Nat.add_zero,Nat.zero_add];simp[World.cell?,Z,h1]) (fun k j U x z J=>by
     obtain⟨y,hy,rfl⟩:=rj z;obtain rfl:j=0:=by have:=aC J;simpa using this
     cases J;have G:k <ts.length:=by rw[hl];exact aC hy
     exact ih k _ _ hy (List.getElem?_eq_getElem G) fun b' I=>V b' (Rg (List.getElem?_eq_getElem G) I))
   rw[u]at this;exact this
def jV(A:Nat->Prop)(L:Ls)(w:World)(i:Nat):Lb->Prop
 | .box _ T D=>∃(g:Nat) (G:Array Value),L i=some (.pointer (some ⟨g,0,none⟩))/\w.heap[g]?=some (.cells G T (0,0))/\G.size=D.length/\∀(j:Nat) (x:SV) (u:Value),D[j]?=some x->G[j]?=some u->SR A L w x u
 | .row _ _ sz es=>∃(T:TypeId) (v:Value) (G:List Value),L i=some v/\cm w T sz v es.length G/\es.length<=140737488351232/\(∀(k:Nat) (D:List AV),es[k]?=some D->D.length=sz)/\∀(k j:Nat) (D:List AV) (x:AV),es[k]?=some D->D[j]?=some x->∃u,G[k*sz+j]?=some u/\VR A w x u
 | .map _ ks vs=>∃(r:Nat) (y:Array MapEntry) (z:Nat),L i=some (.map (some r))/\w.heap[r]?=some (.map y z)/\y.size=ks.length/\y.size=vs.length/\(∀(j:Nat) (x:AV) (u:MapEntry),ks[j]?=some x->y[j]?=some u->VR A w x u.key)/\(∀(j:Nat) (x:SV) (u:MapEntry),vs[j]?=some x->y[j]?=some u->SR A L w x u.val)/\gS y z
 | .own _ x=>∃(v t:Value),L i=some t/\OV w x v t
structure ar (γ:Glob) (κ:Ctx) (fr:Fr) (L:Ls) (w:World):Prop where
 glob:γ.G w
 gn:γ.n<=κ.W.heap.size
 gx:∀b,κ.X b->γ.n<=b/\b <κ.W.heap.size
 fresh:∀b,κ.W.heap.size<=b->κ.M b
 os:w.os=κ.W.os
 tape:w.tape=κ.W.tape
 output:w.output=κ.W.output
 size:κ.W.heap.size<=w.heap.size
 kept:∀k,k <κ.W.heap.size->¬κ.X k->w.heap[k]?=κ.W.heap[k]?
 lim:∀i v,L i=some v->i <fr.length
 new:∀i v b lb,L i=some v->Bk v b->fr[i]?=some lb->b <w.heap.size/\κ.M b/\(κ.W.heap.size<=b\/κ.H b)/\(lb.ro=false->κ.W.heap.size<=b\/κ.X b)
 dis:∀i j v v' b,L i=some v->L j=some v'->Bk v b->Bk v' b->i=j
 hand:∀j v,κ.L j=some v->∃lb,fr[j]?=some lb/\(lb.tch=false->L j=some v)
 blk:∀i lb,fr[i]?=some lb->jV (MA κ.M fr L) L w i lb
section
variable {γ:Glob} {κ:Ctx} {fr:Fr} {L:Ls} {w w':World}
theorem ar.later(h:ar γ κ fr L w)(hb:Below w.heap.size w w'):ar γ κ fr L w' where
 glob:=γ.stays _ _ h.glob fun k D=>hb.block k (Nat.lt_of_lt_of_le D (Nat.le_trans h.gn h.size))
 gn:=h.gn
 gx:=h.gx
 fresh:=h.fresh
 os:=hb.os.trans h.os
 tape:=hb.tape.trans h.tape
 output:=hb.output.trans h.output
 size:=Nat.le_trans h.size hb.size
 kept:=fun k D z=>(hb.block k (Nat.lt_of_lt_of_le D h.size)).trans (h.kept k D z)
 lim:=h.lim
 new:=fun i v b G h1 h2 h3=>⟨Nat.lt_of_lt_of_le (h.new i v b G h1 h2 h3).1 hb.size,(h.new i v b G h1 h2 h3).2⟩
 dis:=h.dis
 hand:=h.hand
 blk:=fun i G hi=>by
  have h1:=h.blk i G hi;have hn:∀v b,L i=some v->Bk v b->w'.heap[b]?=w.heap[b]?:=fun v b hv ab=>hb.block b (h.new i v b G hv ab hi).1
  cases G with
  |box ro T cs=>
   obtain⟨g,us,h1,h2,h3,h4⟩:=h1;exact⟨g,us,h1,(hn _ g h1 (.one rfl)).trans h2,h3,fun j x u z J=>(h4 j x u z J).later hb⟩
  |row ro ad sz es=>
   obtain⟨T,v,us,h1,h2,U,h3,h4⟩:=h1;refine⟨T,v,us,h1,h2.below hb,U,h3,fun k j cs x D hj=>?_⟩;obtain⟨u,V,Z⟩:=h4 k j cs x D hj;exact⟨u,V,Z.later hb⟩
  |map ro ks vs=>
   obtain⟨r,I,y,h1,h2,h3,h4,V,Z,h7⟩:=h1;exact⟨r,I,y,h1,(hn _ r h1 (.one rfl)).trans h2,h3,h4,fun j x u z J=>(V j x u z J).later hb,fun j x u z J=>(Z j x u z J).later hb,h7⟩
  |own ro x=>
   obtain⟨v,t,h1,h2⟩:=h1;exact⟨v,t,h1,h2.same fun b hb=>hn _ b h1 hb⟩
theorem ar.box(h:ar γ κ fr L w)(i:Nat)(ro:Bool)(T:TypeId)(cs:List SV)(hi:fr[i]?=some (.box ro T cs)):∃(g:Nat) (us:Array Value),L i=some (.pointer (some ⟨g,0,none⟩))/\w.heap[g]?=some (.cells us T (0,0))/\us.size=cs.length/\∀(j:Nat) (x:SV) (u:Value),cs[j]?=some x->us[j]?=some u->SR (MA κ.M fr L) L w x u:=h.blk i _ hi
theorem ar.row(h:ar γ κ fr L w)(i:Nat)(ro tch:Bool)(sz:Nat)(es:List (List AV))(hi:fr[i]?=some (.row ro tch sz es)):∃(T:TypeId) (v:Value) (us:List Value),L i=some v/\cm w T sz v es.length us/\es.length<=140737488351232/\(∀(k:Nat) (cs:List AV),es[k]?=some cs->cs.length=sz)/\∀(k j:Nat) (cs:List AV) (x:AV),es[k]?=some cs->cs[j]?=some x->∃u,us[k*sz+j]?=some u/\VR (MA κ.M fr L) w x u:=h.blk i _ hi
def ar.own(h:ar γ κ fr L w){b:Nat}(hb:Own fr L b):b <w.heap.size/\κ.M b/\(κ.W.heap.size<=b\/κ.X b):=by
 obtain⟨i,v,u,h1,h2,h3,h4⟩:=hb;obtain⟨a,b,_,c⟩:=h.new i v _ u h1 h2 h3;exact⟨a,b,c h4⟩
def ar.DZ(h:ar γ κ fr L w):MA κ.M fr L w.heap.size:=⟨h.fresh _ h.size,fun u=>absurd (h.own u).1 (Nat.lt_irrefl _)⟩
end
def sM(P:Program)(s f:Nat):Option Nat:=match P.underlying s with
 |some (.struct v)=>match v[f]? with
  |some u=>match P.info? u.type with
   |some i=>if i.size=0 then none else some u.offset
   |none=>none
  |none=>none
 |_=>none
def CD(P:Program)(s f:Nat):Option (Nat×Nat):=match P.underlying s with
 |some (.struct v)=>match v[f]? with
  |some u=>some (u.offset,u.type)
  |none=>none
 |_=>none
def bn(P:Program)(t:Nat):Option (Bool×Nat):=match P.underlying t with
 |some (.struct _)|some (.array _ _)=>(P.info? t).map fun i=>(true,i.size)
 |some _=>(P.info? t).map fun i=>(false,i.size)
 |none=>none
def eZ(P:Program)(t:Nat):Option (Nat×Nat):=match P.underlying t with
 |some (.slice e)=>(P.info? e).map fun i=>(e,i.size)
 |_=>none
def uC(P:Program)(t:Nat):Option (Nat×Nat):=match P.underlying t with
 |some (.array n e)=>(P.info? e).map fun i=>(n,i.size)
 |_=>none
def eQ(P:Program)(t:Nat):Option (Nat×Nat×Nat):=match P.underlying t with
 |some (.slice e)=>match P.info? e with
  |some i=>match i.zero with
   |some z=>if z.cells.size=i.size/\0 <i.size then some (e,i.size,i.bytes)else none
   |none=>none
  |none=>none
 |_=>none
def kI(P:Program)(t:Nat):Bool:=match P.underlying t with|some (.slice _)=>true|_=>false
def mr(P:Program)(t:Nat):Bool:=match P.underlying t with|some .string=>true|_=>false
def cv:Value->SV
 | .bool b=>.t (.bool b)
 | .int k n=>.t (.int k n)
 | .string s=>.t (.str s)
 | .slice none 0 0=>.nil
 |v=>match CJ v with
  |true=>.t (.lit v)
  |false=>.dead
def dp(env:Env):Operand->SV
 | .tmp t=>env t
 | .const v=>cv v
 | .func f=>.t (.fn (.func f) 0 [])
 | .global _=>.dead
def un:SV->SV
 | .aT s=>s
 |s=>s
def rd(env:Env)(y:Operand):SV:=un (dp env y)
def cV(e:Env)(d:Nat)(v:SV):Env:=fun t=>match Nat.beq t d with|true=>v|false=>e t
def aE(e:Env)(d:Option Nat)(v:SV):Env:=match d with|some d=>cV e d v|none=>e
def sy(W:Bool)(s:SV):SV:=match W with|true=>.aT s|false=>.no
def qS(u:Bool):SV->Option Bool
 | .t (.bool b)=>some (b==u)
 | .aT (.t (.bool b))=>some (b==u)
 | .no=>some false
 |_=>none
def cG(ops:Array Oper)(env:Env)(j:Nat)(u:Bool):Option Bool:=
 match(ops[j]?).bind (·.dst)with
 |some d=>qS u (env d)
 |none=>none
def pX:List SV->Option (List AV)
 |[]=>some []
 | .t x::r=>match pX r with
  |some xs=>some (x::xs)
  |none=>none
 |_::_=>none
def iH:List SV->Option (List AV)
 |[]=>some []
 | .t x::r=>match iH r with
  |some xs=>some (x::xs)
  |none=>none
 | .nil::r=>match iH r with
  |some xs=>some (.arr []::xs)
  |none=>none
 | .tc u::r=>match iH r with
  |some xs=>some (.arr u::xs)
  |none=>none
 | .nn u::r=>match iH r with
  |some xs=>some (.arr u::xs)
  |none=>none
 |_::_=>none
def mf(cs:List SV):SV:=match pX cs with
 |some xs=>.t (.agg xs)
 |none=>.agg cs
def u_(f:Fn)(u:Nat)(cs:List SV):SV:=match iH cs with
 |some xs=>.t (.fn f u xs)
 |none=>.fn f u cs
def kQ(fr:Fr)(i sz a n:Nat):Option (List (List AV)):=match fr[i]? with
 |some (.row _ _ sz' es)=>match Nat.beq sz sz'&&Nat.ble (a+n) es.length with
  |true=>some ((es.drop a).take n)
  |false=>none
 |_=>none
def gO(fr:Fr):SV->Option (List (List AV))
 | .t (.arr u)=>some u
 | .nil=>some []
 | .tc u=>some u
 | .nn u=>some u
 | .ls i=>match fr[i]? with
  |some (.row _ _ _ u)=>some u
  |_=>none
 | .lv i sz a n=>kQ fr i sz a n
 |_=>none
def fg:AV->List Nat->Option AV
 |x,[]=>some x
 | .arr u,k::p=>match u[k]? with
  |some [y]=>fg y p
  |_=>none
 |_,_::_=>none
def jK(fr:Fr)(i:Nat)(p:List Nat):Option (List (List AV)):=match fr[i]? with
 |some (.own _ x)=>match fg x p with
  |some (.arr u)=>some u
  |_=>none
 |_=>none
def setAt:AV->List Nat->Nat->AV->AV
 | .arr u,[],k,y=>.arr (u.set k [y])
 | .arr u,q::p,k,y=>match u[q]? with
  |some [z]=>.arr (u.set q [setAt z p k y])
  |_=>.arr u
 |x,_,_,_=>x
mutual
def iN(fr:Fr):Nat->SV->Option AV
 |0,_=>none
 |n+1,s=>match s with
  | .t x=>some x
  | .nil=>some (.arr [])
  | .tc v=>some (.arr v)
  | .nn v=>some (.arr v)
  | .ls i=>match fr[i]? with
   |some (.row _ _ _ v)=>some (.arr v)
   |_=>none
  | .lv i sz a k=>match kQ fr i sz a k with
   |some v=>some (.arr v)
   |none=>none
  | .lp i j=>match fr[i]? with
   |some (.box _ _ u)=>match mL fr n (u.drop j)with
    |some (x::xs)=>some (.tp (x::xs))
    |_=>none
   |_=>none
  | .agg u=>match mL fr n u with
   |some xs=>some (.agg xs)
   |none=>none
  | .aN u=>match mL fr n u with
   |some xs=>some (.aN xs)
   |none=>none
  | .fn f y u=>match mL fr n u with
   |some xs=>some (.fn f y xs)
   |none=>none
  | .lm i=>match fr[i]? with
   |some (.map _ ks vs)=>match mL fr n vs with
    |some xs=>some (.mp ks xs)
    |none=>none
   |_=>none
  | .lo i p=>match fr[i]? with
   |some (.own _ x)=>fg x p
   |_=>none
  |_=>none
def mL(fr:Fr):Nat->List SV->Option (List AV)
 |0,_=>none
 |_+1,[]=>some []
 |n+1,c::u=>match iN fr n c,mL fr n u with
  |some x,some xs=>some (x::xs)
  |_,_=>none
end
def uT(step:Nat->List AV->List AV->Option Bool)(P:Program)(xs u:List AV):List Field->Option Bool
 |[]=>some true
 |f ::y=>match f.name== "_" with
  |true=>none
  |false=>match bn P f.type with
   |none=>none
   |some (v,n)=>match Nat.ble (f.offset+n) xs.length&&Nat.ble (f.offset+n) u.length&&(v ||Nat.beq n 1)with
    |false=>none
    |true=>match step f.type ((xs.drop f.offset).take n) ((u.drop f.offset).take n),uT step P xs u y with
     |some r,some q=>some (r&&q)
     |_,_=>none
def jx:TypeDesc->List AV->List AV->Option Bool
 | .int _,[.int k a],[.int k' b]=>if k=k' then some (decide (a=b))else none
 | .bool,[.bool a],[.bool b]=>some (a==b)
 | .string,[.str a],[.str b]=>some (a==b)
 |_,_,_=>none
def gI(P:Program):Nat->Nat->List AV->List AV->Option Bool
 |0,_,_,_=>none
 |d+1,t,xs,v=>match P.underlying t with
  |some (.struct y)=>match P.stoodInHeld t with
   |false=>uT (gI P d) P xs v y.toList
   |true=>none
  |some u=>jx u xs v
  |none=>none
def lA(b:BinOp)(k:IntKind)(m n:Int):Option AV:=match b with
 | .lss=>some (.bool (decide (m <n)))
 | .leq=>some (.bool (decide (m<=n)))
 | .gtr=>some (.bool (decide (n <m)))
 | .geq=>some (.bool (decide (n<=m)))
 | .eql=>some (.bool (decide (m=n)))
 | .neq=>some (.bool (!decide (m=n)))
 | .add=>some (.int k (k.wrap (m+n)))
 | .sub=>some (.int k (k.wrap (m - n)))
 | .mul=>some (.int k (k.wrap (m*n)))
 | .quo=>if n=0 then none else some (.int k (k.wrap (m.tdiv n)))
 | .rem=>if n=0 then none else some (.int k (m.tmod n))
 | .shr=>if n=1 then some (.int k (m.fdiv 2))else none
 |_=>none
def wz(b:BinOp)(x y:ByteArray):Option AV:=match b with
 | .eql=>some (.bool (decide (x=y)))
 | .neq=>some (.bool (!decide (x=y)))
 | .add=>if x.size+y.size<=9223372036854775807 then some (.str (x++y))else none
 |_=>none
def Bw(b:BinOp)(x y:Bool):Option AV:=match b with
 | .eql=>some (.bool (x==y))
 | .neq=>some (.bool (!(x==y)))
 |_=>none
def gw(b:BinOp)(u:Bool):Option AV:=match b with
 | .eql=>some (.bool u)
 | .neq=>some (.bool (!u))
 |_=>none
def si(P:Program)(b:BinOp)(t:Nat)(cs ds:List AV):Option AV:=match P.eqGuardType P.depth t with
 |true=>none
 |false=>match bn P t with
  |some (true,_)=>match gI P 20 t cs ds with
   |some r=>gw b r
   |none=>none
  |_=>none
def C4(P:Program)(t:Nat):Bool:=match P.underlying t with|some .bool=>true|_=>false
def rC(P:Program)(t:Nat):Bool:=match P.underlying t with|some (.pointer _)=>true|_=>false
def vh(P:Program)(t:Nat):Bool:=match P.underlying t with|some (.interface _)=>true|_=>false
def lC:Operand->Bool
 | .const _=>true
 |_=>false
def iw(P:Program)(b:BinOp)(xt:Nat)(k:Bool):SV->SV->Option AV
 | .t (.int k m),.t (.int v n)=>if k=v then lA b k m n else none
 | .t (.bool x),.t (.bool y)=>match C4 P xt with|true=>Bw b x y|false=>none
 | .t (.str x),.t (.str y)=>wz b x y
 | .t (.agg u),.t (.agg ds)=>si P b xt u ds
 | .t (.tp _),.t (.lit (.pointer none))=>match rC P xt with|true=>gw b false|false=>none
 | .lp _ _,.t (.lit (.pointer none))=>match rC P xt with|true=>gw b false|false=>none
 | .le _ _ _ _,.t (.lit (.pointer none))=>match rC P xt with|true=>gw b false|false=>none
 | .t (.lit (.pointer none)),.t (.lit (.pointer none))=>match rC P xt with|true=>gw b true|false=>none
 | .t (.lit .nilIface),.t (.lit .nilIface)=>match vh P xt&&k with|true=>gw b true|false=>none
 | .t .lz,.t (.lit .nilIface)=>match vh P xt with|true=>gw b false|false=>none
 | .nil,.nil=>match kI P xt with|true=>gw b true|false=>none
 | .t (.arr (_::_)),.nil=>match kI P xt with|true=>gw b false|false=>none
 | .nn _,.nil=>match kI P xt with|true=>gw b false|false=>none
 | .tc (_::_),.nil=>match kI P xt with|true=>gw b false|false=>none
 |_,_=>none
def qx(P:Program)(fr:Fr)(b:BinOp)(xt:Nat):SV->SV->Option AV
 | .ls i,.nil=>match kI P xt with
  |true=>match fr[i]? with
   |some (.row _ _ _ (_::_))=>gw b false
   |_=>none
  |false=>none
 | .lv _ _ _ (_+1),.nil=>match kI P xt with|true=>gw b false|false=>none
 |_,_=>none
def fO(P:Program)(fr:Fr)(t:Nat)(x:SV):Option SV:=match bn P t with
 |none=>none
 |some (v,n)=>match x with
  | .t (.tp u)=>match v with
   |false=>match u[0]? with
    |some c=>some (.t c)
    |none=>none
   |true=>match Nat.beq n u.length with
    |true=>some (.t (.agg u))
    |false=>match Nat.ble n u.length with
     |true=>some (.t (.agg (u.take n)))
     |false=>none
  | .lp i j=>match fr[i]? with
   |some (.box _ _ u)=>match v with
    |false=>u[j]?
    |true=>match Nat.ble (j+n) u.length with
     |true=>some (mf ((u.drop j).take n))
     |false=>none
   |_=>none
  | .le i sz k j=>match fr[i]? with
   |some (.row _ _ sz' es)=>match Nat.beq sz sz' with
    |true=>match es[k]? with
     |some u=>match v with
      |false=>match u[j]? with
       |some c=>some (.t c)
       |none=>none
      |true=>match Nat.ble (j+n) u.length with
       |true=>some (.t (.agg ((u.drop j).take n)))
       |false=>none
     |none=>none
    |false=>none
   |_=>none
  | .lr i p k=>match jK fr i p with
   |some y=>match v,y[k]? with
    |false,some [.arr _]=>some (.lo i (p++[k]))
    |false,some [.int z m]=>some (.t (.int z m))
    |_,_=>none
   |none=>none
  |_=>none
def sL(P:Program)(y f:Nat)(x:SV):Option SV:=match sM P y f with
 |none=>none
 |some u=>match x with
  | .t (.tp v)=>match v.drop u with
   |c::r=>some (.t (.tp (c::r)))
   |[]=>none
  | .lp i j=>some (.lp i (j+u))
  | .le i sz k j=>some (.le i sz k (j+u))
  |_=>none
def yj(P:Program)(D f:Nat)(x:SV):Option SV:=match CD P D f with
 |none=>none
 |some (u,z)=>match bn P z with
  |none=>none
  |some (y,n)=>match x with
   | .t (.agg v)=>match y with
    |false=>match v[u]? with
     |some c=>some (.t c)
     |none=>none
    |true=>match Nat.ble (u+n) v.length with
     |true=>some (.t (.agg ((v.drop u).take n)))
     |false=>none
   | .agg v=>match y with
    |false=>v[u]?
    |true=>match Nat.ble (u+n) v.length with
     |true=>some (mf ((v.drop u).take n))
     |false=>none
   |_=>none
def jC(m:Int)(n:Nat):Bool:=decide (0<=m)&&Nat.blt m.toNat n
def elemAt(sz:Nat)(es:List (List AV))(m:Int):Option SV:=match decide (0<=m)with
 |false=>none
 |true=>match es[m.toNat]? with
  |some (c::u)=>match Nat.beq sz (u.length+1)with
   |true=>some (.t (.tp (c::u)))
   |false=>none
  |_=>none
def jD(P:Program)(fr:Fr)(t:Nat)(x i:SV):Option SV:=match eZ P t with
 |some (_,sz)=>match i with
  | .t (.int _ m)=>match x with
   | .t (.arr v)=>elemAt sz v m
   | .tc v=>elemAt sz v m
   | .nn v=>elemAt sz v m
   | .ls r=>match fr[r]? with
    |some (.row _ _ u v)=>match Nat.beq sz u with
     |true=>match jC m v.length with
      |true=>some (.le r sz m.toNat 0)
      |false=>none
     |false=>none
    |_=>none
   | .lv r u a n=>match kQ fr r u a n with
    |some _=>match Nat.beq sz u&&jC m n with
     |true=>some (.le r sz (a+m.toNat) 0)
     |false=>none
    |none=>none
   | .lo r p=>match jK fr r p with
    |some z=>match Nat.beq sz 1&&jC m z.length with
     |true=>some (.lr r p m.toNat)
     |false=>none
    |none=>none
   |_=>none
  |_=>none
 |none=>match uC P t with
  |some (n,sz)=>match i with
   | .t (.int _ m)=>match jC m n with
    |false=>none
    |true=>match x with
     | .t (.tp y)=>match y.drop (m.toNat*sz)with
      |c::r=>some (.t (.tp (c::r)))
      |[]=>none
     | .lp b j=>some (.lp b (j+m.toNat*sz))
     |_=>none
   |_=>none
  |none=>none
def vl(P:Program)(t:Nat)(x i:SV):Option SV:=match x,i with
 | .t (.str s),.t (.int _ m)=>match mr P t with
  |true=>match decide (0<=m)with
   |true=>match s[m.toNat]? with
    |some b=>some (.t (.int .u8 b.toNat))
    |none=>none
   |false=>none
  |false=>none
 |_,_=>none
def tg:TypeDesc->Bool
 | .int _=>true
 | .bool=>true
 | .string=>true
 |_=>false
def nx(P:Program)(t:Nat):Option (Nat×TypeDesc):=match P.underlying t with
 |some (.map k e)=>match P.underlying k with
  |some d=>match tg d with
   |true=>some (e,d)
   |false=>none
  |none=>none
 |_=>none
def dW(d:TypeDesc)(k:AV):List AV->Nat->Option (Option Nat)
 |[],_=>some none
 |e::u,i=>match jx d [k] [e]with
  |some true=>some (some i)
  |some false=>dW d k u (i+1)
  |none=>none
def AQ:Value->SV
 | .agg u=>mf (u.toList.map cv)
 |z=>cv z
def ug(P:Program)(e:Nat):Option SV:=match P.info? e with
 |some i=>match i.zero with
  |some z=>some (AQ z)
  |none=>none
 |none=>none
def mapOf(fr:Fr):SV->Option (List AV×List SV)
 | .t (.mp ks u)=>some (ks,u.map .t)
 | .lm i=>match fr[i]? with
  |some (.map _ ks u)=>some (ks,u)
  |_=>none
 | .t (.lit (.map none))=>some ([],[])
 |_=>none
def mA(ok:Bool)(x:SV)(b:Bool):SV:=match ok with
 |true=>.aN [x,.t (.bool b)]
 |false=>x
def qQ(P:Program)(n:Nat):List Field->Bool
 |[]=>true
 |f ::u=>match f.name== "_" with
  |true=>false
  |false=>match P.underlying f.type,bn P f.type with
   |some d,some (false,1)=>match tg d&&Nat.ble (f.offset+1) n with
    |true=>qQ P n u
    |false=>false
   |_,_=>false
def vE(P:Program)(t:Nat):Option (Nat×Nat×Nat):=match P.underlying t with
 |some (.map k e)=>match P.underlying k with
  |some (.struct u)=>match bn P k with
   |some (true,n)=>match qQ P n u.toList with
    |true=>some (e,k,n)
    |false=>none
   |_=>none
  |_=>none
 |_=>none
def qP(P:Program)(u:Nat)(cs:List AV):List AV->Nat->Option (Option Nat)
 |[],_=>some none
 |e::v,i=>match e with
  | .agg ds=>match gI P 20 u cs ds with
   |some true=>some (some i)
   |some false=>qP P u cs v (i+1)
   |none=>none
  |_=>none
def yS(P:Program)(fr:Fr)(t:Nat)(x key:SV)(ok:Bool):Option SV:=match vE P t with
 |none=>none
 |some (e,y,n)=>match key with
  | .t (.agg u)=>match Nat.beq u.length n with
   |false=>none
   |true=>match mapOf fr x with
    |none=>none
    |some (ks,D)=>match qP P y u ks 0 with
     |none=>none
     |some (some i)=>match D[i]? with
      |some v=>some (mA ok v true)
      |none=>none
     |some none=>match ug P e with
      |some z=>some (mA ok z false)
      |none=>none
  |_=>none
def tu(P:Program)(fr:Fr)(t:Nat)(x key:SV)(ok:Bool):Option SV:=match nx P t with
 |none=>yS P fr t x key ok
 |some (e,d)=>match key with
  | .t u=>match mapOf fr x with
   |none=>none
   |some (ks,y)=>match dW d u ks 0 with
    |none=>none
    |some (some i)=>match y[i]? with
     |some v=>some (mA ok v true)
     |none=>none
    |some none=>match ug P e with
     |some z=>some (mA ok z false)
     |none=>none
  |_=>none
def eI(x:Option SV)(d y:Nat):Option Nat:=match x with
 |none=>some d
 |some (.t (.int _ m))=>match decide (0<=m)&&Nat.ble m.toNat y with
  |true=>some m.toNat
  |false=>none
 |_=>none
def tW:SV->Option (List (List AV))
 | .t (.arr u)=>some u
 | .tc u=>some u
 | .nn u=>some u
 | .nil=>some []
 |_=>none
def lj(lo hi:Option SV)(n:Nat):Option (Nat×Nat):=match eI hi n n with
 |none=>none
 |some h=>match eI lo 0 h with
  |none=>none
  |some l=>some (l,h)
def pW(sz:Nat):List (List AV)->Bool
 |[]=>true
 |e::_=>Nat.beq e.length sz
def oO(P:Program)(t:Nat)(x:SV)(lo hi v:Option SV):Option SV:=match v with
 |some _=>none
 |none=>match x with
  | .t (.str s)=>match mr P t with
   |false=>none
   |true=>match lj lo hi s.size with
    |some (l,h)=>some (.t (.str (s.extract l h)))
    |none=>none
  |x=>match eZ P t with
   |none=>none
   |some (_,sz)=>match tW x with
    |none=>none
    |some u=>match pW sz u with
     |false=>none
     |true=>match lj lo hi u.length with
      |some (l,h)=>some (.t (.arr ((u.take h).drop l)))
      |none=>none
def jg(r sz a n len:Nat)(lo hi:Option SV):Option SV:=match lj lo hi n with
 |some (l,h)=>match Nat.beq (a+l) 0&&Nat.beq h len with
  |true=>some (.ls r)
  |false=>match Nat.beq (h - l) 0&&Nat.blt 0 (a+l)with
   |true=>some (.t (.arr []))
   |false=>some (.lv r sz (a+l) (h - l))
 |none=>none
def ww(P:Program)(fr:Fr)(t:Nat)(x:SV)(lo hi u:Option SV):Option SV:=match u with
 |some m=>match eZ P t with
  |none=>none
  |some (_,sz)=>match x,lo,hi,m with
   | .ls r,some (.t (.int _ l)),some (.t (.int _ h)),.t (.int _ m)=>match fr[r]? with
    |some (.row _ _ sz' es)=>match Nat.beq sz sz'&&(decide (0<=l)&&(decide (l<=h)&&(decide (h<=m)&&decide (m<=(es.length:Int)))))with
     |true=>some .dead
     |false=>none
    |_=>none
   |_,_,_,_=>none
 |none=>match eZ P t with
  |none=>none
  |some (_,sz)=>match x with
   | .ls r=>match fr[r]? with
    |some (.row _ _ sz' es)=>match Nat.beq sz sz' with
     |true=>jg r sz 0 es.length es.length lo hi
     |false=>none
    |_=>none
   | .lv r eD a n=>match fr[r]? with
    |some (.row _ _ sz' es)=>match Nat.beq sz sz'&&(Nat.beq eD sz&&Nat.ble (a+n) es.length)with
     |true=>jg r sz a n es.length lo hi
     |false=>none
    |_=>none
   |_=>none
def yg(x:SV)(i:Nat):Option SV:=match x with
 | .aN u=>u[i]?
 | .t (.aN xs)=>match xs[i]? with
  |some x=>some (.t x)
  |none=>none
 |_=>none
def C8(P:Program)(t:Nat):Bool:=match P.underlying t with
 |some (.map _ _)=>true
 |_=>false
def DF(P:Program)(fr:Fr)(t:Nat):SV->Option SV
 | .lm i=>match C8 P t,fr[i]? with
  |true,some (.map _ ks _)=>some (.t (.int .i64 ks.length))
  |_,_=>none
 |_=>none
def ti(P:Program)(fr:Fr)(t:Option Nat)(x:SV):Option SV:=match t with
 |none=>none
 |some t=>match x with
  | .t (.str s)=>match mr P t with
   |true=>some (.t (.int .i64 s.size))
   |false=>none
  |x=>match kI P t with
   |true=>match gO fr x with
    |some u=>some (.t (.int .i64 u.length))
    |none=>none
   |false=>DF P fr t x
def zk:SV->Option SV
 | .t (.tp u)=>some (.t (.tp u))
 | .lp i j=>some (.lp i j)
 | .le i sz k j=>some (.le i sz k j)
 | .lr i p k=>some (.lr i p k)
 |_=>none
def xa(b:UnOp):SV->Option SV
 | .t (.bool x)=>match b with|.not=>some (.t (.bool (!x)))|_=>none
 | .t (.int k n)=>match b with|.neg=>some (.t (.int k (k.wrap (0 - n))))|_=>none
 |_=>none
def bw:SV->List SV
 | .agg u=>u
 | .t (.agg u)=>u.map .t
 |x=>[x]
def du:SV->Bool
 | .t (.agg _)|.t (.aN _)|.agg _|.aN _|.aT _|.no|.dead=>false
 |_=>true
def jM(cs:List SV)(j:Nat):List SV->List SV
 |[]=>cs
 |x::xs=>jM (cs.set j x) (j+1) xs
def nM(P:Program)(T:Nat):Option (List SV):=((P.info? T).bind (·.zero)).map fun z=>z.cells.toList.map cv
def pq(v:Nat->Option (Nat×Nat))(u:List SV):List (Nat×SV)->Option (List SV)
 |[]=>some u
 |(i,x)::D=>
  match v i with
  |none=>none
  |some (z,y)=>if(bw x).length=y/\z+y<=u.length then pq v (jM u z (bw x)) D else none
def uF(P:Program)(t:TypeId)(parts:List (Nat×SV)):Option (List SV):=
 match nM P t,P.underlying t with
 |some z,some (.struct u)=>
  match u.toList.mapM (fun f=>(P.info? f.type).map fun i=>(f.offset,i.size))with
  |some v=>pq (v.toArray[·]?) z parts
  |none=>none
 |some z,some (.array _ e)=>
  match P.info? e with
  |some y=>pq (fun i=>some (i*y.size,y.size)) z parts
  |none=>none
 |_,_=>none
def sw(sz:Nat):Nat->List SV->Option (List (List AV))
 |0,[]=>some []
 |0,_::_=>none
 |n+1,u=>match iH (u.take sz)with
  |some xs=>if xs.length=sz then(sw sz n (u.drop sz)).map (xs::·)else none
  |none=>none
def sn(P:Program)(t len:Nat)(parts:List (Nat×SV)):Option (List (List AV)):=
 match P.underlying t with
 |some (.slice e)=>match P.info? e with
  |some i=>match i.zero with
   |some z=>if z.cells.size=i.size/\0 <i.size/\len*i.size<=16777216 then
     (pq (fun k=>some (k*i.size,i.size)) ((List.range (len*i.size)).map fun q=>cv (z.cells.getD (q %i.size) undef)) parts).bind (sw i.size len)
    else none
   |none=>none
  |none=>none
 |_=>none
def xC(P:Program)(fr:Fr)(env:Env):Callee->List Operand->Array TypeId->Option SV
 | .builtin b,[y],u=>match b with
  | .len=>ti P fr u[0]? (rd env y)
  |_=>none
 | .builtin b,[x,y],_=>match rd env x,rd env y with
  | .t (.int .i64 m),.t (.int .i64 n)=>match b with
   | .max=>some (.t (.int .i64 (max m n)))
   | .min=>some (.t (.int .i64 (min m n)))
   |_=>none
  |_,_=>none
 |_,_,_=>none
def sA(P:Program)(s d:Nat):SV->Option SV
 | .t (.int _ n)=>match P.underlying s,P.underlying d with
  |some _,some (.int k)=>some (.t (.int k (k.wrap n)))
  |_,_=>none
 | .t (.str x)=>match P.underlying s,P.underlying d with
  |some _,some .string=>some (.t (.str x))
  |_,_=>none
 |_=>none
def bD(P:Program)(fr:Fr)(env:Env):Op->Option SV
 | .move x=>some (rd env x)
 | .assign x=>some (rd env x)
 | .pick c a b=>match rd env c with
  | .t (.bool true)=>some (rd env a)
  | .t (.bool false)=>some (rd env b)
  |_=>none
 | .load t y=>fO P fr t (rd env y)
 | .nilCheck y=>zk (rd env y)
 | .binOp b xt x y _=>match iw P b xt (lC x ||lC y) (rd env x) (rd env y)with
  |some r=>some (.t r)
  |none=>match qx P fr b xt (rd env x) (rd env y)with
   |some r=>some (.t r)
   |none=>none
 | .unOp b _ x=>xa b (rd env x)
 | .fieldAddr v y f=>sL P v f (rd env y)
 | .field v y f=>yj P v f (rd env y)
 | .indexAddr t x i=>jD P fr t (rd env x) (rd env i)
 | .index t x i=>vl P t (rd env x) (rd env i)
 | .extract x i=>yg (rd env x) i
 | .lookup t x k ok=>tu P fr t (rd env x) (rd env k) ok
 | .slice t x lo z D=>match oO P t (rd env x) (lo.map (rd env)) (z.map (rd env)) (D.map (rd env))with
  |some y=>some y
  |none=>ww P fr t (rd env x) (lo.map (rd env)) (z.map (rd env)) (D.map (rd env))
 | .makeFunc f first caps=>match((first++caps).toList.map (rd env)).all du with
  |true=>some (u_ f first.size ((first++caps).toList.map (rd env)))
  |false=>none
 | .build t u=>match(u.toList.all fun p=>(bw (rd env p.2)).all du)with
  |true=>match uF P t (u.toList.map fun p=>(p.1,rd env p.2))with
   |some G=>some (mf G)
   |none=>none
  |false=>none
 | .buildSlice t len u=>match(u.toList.all fun p=>(bw (rd env p.2)).all du)with
  |true=>match sn P t len (u.toList.map fun p=>(p.1,rd env p.2))with
   |some I=>some (.tc I)
   |none=>none
  |false=>none
 | .call c=>xC P fr env c.callee c.args.toList c.argTypes
 | .convert s d x=>sA P s d (rd env x)
 |_=>none
def cN(P:Program)(o:Oper)(a:Act)(w:World)(R:Value->World->Prop):Prop:=
 match(execOp a.eval o).run P w with
 | .ok (.value v) w'=>R v w'
 | .ok .skip w'=>R undef w'
 | .ok (.enter f args) w'=>Calls P f args w' fun e u=>∃v,e=.returned v/\R v u
 |_=>False
def Fw(rd:Option Nat):Fence:={Fence.wide with round:=rd}
def HO{rd:Option Nat}{n:Nat}{P:Program}{f:FuncId}{args:Array Value}{w:World}{R:Ending->World->Prop}(h:Calls P f args w R):CallsIn (Fw rd) n P f args w R:=by
 have h1:CallsIn Fence.wide n P f args w R:=callsIn_wide.2 h
 cases rd with
 |none=>exact h1
 |some l=>exact h1.inRound l
theorem cN.wpIn{P:Program}{o:Oper}{a:Act}{w:World}{R:Value->World->Prop}{K:Act->World->Prop}{Q:Exit->Act->World->Prop}{rd:Option Nat}{dn:Nat}(h:cN P o a w R)(u:∀v w',R v w'->K (a.put o.dst v) w'):o.wpIn (Fw rd) dn P a w K Q:=by
 refine⟨fun _ _=>trivial,?_⟩
 have e:o.semAt (Fw rd).round a.eval=execOp a.eval o:=by
  refine Oper.semAt_eq _ _ _ fun c z=>?_;unfold cN at h;have:(execOp a.eval o).run P w=(execOp a.eval o).run P w:=rfl;revert h;unfold execOp;rw[z];simp only;cases I:(resolve a.eval c o.type).run P w <;>simp[Sem.run_bind,I,pure,Sem.run]
 rw[e];unfold cN at h;generalize(execOp a.eval o).run P w=r at*
 cases r with
 |ok n w'=>
  cases n <;>simp only[Oper.uponIn]at h⊢
  case value v=>exact u _ _ h
  case skip=>exact u _ _ h
  case enter f y=>exact⟨fun hd=>(by cases rd <;>cases hd),HO (Calls.mono h fun e J ⟨v,D,G⟩=>by subst D;exact u _ _ G)⟩
 |halt x w'=>exact h.elim
theorem cN.mono{P:Program}{o:Oper}{a:Act}{w:World}{R y:Value->World->Prop}(h:cN P o a w R)(u:∀v w',R v w'->y v w'):cN P o a w y:=by
 unfold cN at*
 generalize(execOp a.eval o).run P w=r at*
 cases r with
 |ok n w'=>
  cases n <;>simp only at h⊢
  case value v=>exact u _ _ h
  case skip=>exact u _ _ h
  case enter f z=>exact Calls.mono h fun e I ⟨v,D,G⟩=>⟨v,D,u _ _ G⟩
 |halt x w'=>exact h.elim
section
variable {P:Program} {A:Nat->Prop} {L:Ls} {w:World} {o:Oper} {a:Act}
theorem cN.value{v:Value}{R:Value->World->Prop}(h:(execOp a.eval o).run P w=.ok (.value v) w)(u:R v w):cN P o a w R:=by
 unfold cN;rw[h];exact u
def cN.nK{w':World}{v:Value}{R:Value->World->Prop}(h:(execOp a.eval o).run P w=.ok (.value v) w')(u:R v w'):cN P o a w R:=by
 unfold cN;rw[h];exact u
theorem cN.enter{f:FuncId}{args:Array Value}{R:Value->World->Prop}(h:(execOp a.eval o).run P w=.ok (.enter f args) w)(y:Calls P f args w fun e u=>∃v,e=.returned v/\R v u):cN P o a w R:=by
 unfold cN;rw[h];exact y
def j6(v:Value):SR A L w (cv v) v:=by
 unfold cv;split
 ·exact .t _ _ (.bool _)
 ·exact .t _ _ (.int _ _)
 ·exact .t _ _ (.str _)
 ·exact .nil
 ·split
  ·rename_i h;exact .t _ _ (.lit _ h)
  ·exact .dead _
def nh{env:Env}{a:Act}(h:∀t,SR A L w (env t) (a.tmps.getD t undef))(x:Operand):SR A L w (dp env x) (a.eval x):=by
 cases x with
 |tmp t=>exact h t
 |const v=>exact j6 v
 |global g=>exact .dead _
 |func f=>exact .t _ _ (.fn _ [] #[] #[] rfl (fun j x u y _=>by simp at y))
def qh{s:SV}{v:Value}(h:SR A L w s v):SR A L w (un s) v:=by
 unfold un;split
 ·cases h with|aT _ _ h=>exact h
 ·exact h
def cu{env:Env}{y:Operand}{v:Value}(h:SR A L w (dp env y) v):SR A L w (rd env y) v:=qh h
def QT{k:IntKind}{n:Int}{v:Value}(h:SR A L w (.t (.int k n)) v):v=.int k n:=by cases h with|t _ _ h=>cases h;rfl
def kG{b:Bool}{v:Value}(h:SR A L w (.t (.bool b)) v):v=.bool b:=by cases h with|t _ _ h=>cases h;rfl
def q8{s:ByteArray}{v:Value}(h:SR A L w (.t (.str s)) v):v=.string s:=by cases h with|t _ _ h=>cases h;rfl
def nr{u v:Value}(h:SR A L w (.t (.lit u)) v):v=u:=by cases h with|t _ _ h=>cases h;rfl
def q9{cs:List AV}{v:Value}(h:SR A L w (.t (.tp cs)) v):∃(b o:Nat) (us:Nat->Value),v=.pointer (some ⟨b,o,none⟩)/\cs≠[]/\b <w.heap.size/\A b/\(∀(j:Nat),j <cs.length->w.cell? ⟨b,o+j,none⟩=some (us j))/\∀(j:Nat) (x:AV),cs[j]?=some x->VR A w x (us j):=by
 cases h with
 |t _ _ h=>cases h with|tp b o cs us h1 h2 h3 h4 u=>exact⟨b,o,us,rfl,h1,h2,h3,h4,u⟩
def lB{i j:Nat}{v:Value}(h:SR A L w (.lp i j) v):∃g,L i=some (.pointer (some ⟨g,0,none⟩))/\v=.pointer (some ⟨g,j,none⟩):=by cases h with|lp _ _ g h=>exact⟨g,h,rfl⟩
def kH{i:Nat}{v:Value}(h:SR A L w (.ls i) v):L i=some v/\eB v=true:=by cases h with|ls _ _ h u=>exact⟨h,u⟩
def pw{i sz k j:Nat}{v:Value}(h:SR A L w (.le i sz k j) v):∃b m c,L i=some (.slice (some ⟨b,0,none⟩) m c)/\v=.pointer (some ⟨b,k*sz+j,none⟩):=by cases h with|le _ _ _ _ b m c h=>exact⟨b,m,c,h,rfl⟩
def ns{i sz a n:Nat}{v:Value}(h:SR A L w (.lv i sz a n) v):∃b m c,L i=some (.slice (some ⟨b,0,none⟩) m c)/\v=.slice (some ⟨b,a*sz,none⟩) n (c - a):=by cases h with|lv _ _ _ _ b m c h=>exact⟨b,m,c,h,rfl⟩
def tS(t:Value):il t []=some t:=by cases t <;>rfl
theorem Gg:∀(p q:List Nat) (t:Value),il t (p++q)=(il t p).bind fun u=>il u q
 |[],q,t=>by rw[tS];rfl
 |k::p,q,t=>by
  cases t with
  |tuple v=>
   rw[List.cons_append,il,il]
   cases v[k+1]? with
   |none=>rfl
   |some t=>exact Gg p q t
  |_=>rfl
def GD(x:AV):fg x []=some x:=by cases x <;>rfl
def OV.at_{x:AV}{v t:Value}(h:OV w x v t){p:List Nat}{y:AV}(hy:fg x p=some y):∃v' D,il t p=some D/\OV w y v' D/\∀b,Bk D b->Bk t b:=by
 induction p generalizing x v t with
 |nil=>
  rw[GD]at hy;cases hy;exact⟨v,t,tS t,h,fun _ h=>h⟩
 |cons k p ih=>
  cases h with
  |int=>cases hy
  |bS=>simp[fg]at hy
  |arr b c T cs es fs us ts he hg hl hn hc hu hr h1 h2=>
   rw[fg]at hy;split at hy
   ·rename_i z I;rw[he]at I;obtain⟨z',u,e⟩:=rj I;cases e;have G:k <ts.length:=by rw[hl];exact aC u
    obtain⟨v',D,J,U,V⟩:=ih (hr k z _ u (List.getElem?_eq_getElem G)) hy;refine⟨v',D,?_,U,fun b Z=>Rg (List.getElem?_eq_getElem G) (V b Z)⟩;rw[il];simp only[List.getElem?_toArray,List.getElem?_cons_succ,List.getElem?_eq_getElem G];exact J
   ·cases hy
def OV.head{fs:List (List AV)}{v t:Value}(h:OV w (.arr fs) v t):∃us,t=.tuple us/\us[0]?=some v:=by
 cases h with
 |bS a=>exact⟨_,rfl,rfl⟩
 |arr b c T u y fs us z=>exact⟨_,rfl,by simp⟩
def OV.hd{y:AV}{v v' t u:Value}{p:List Nat}(h:OV w y v' u)(hs:il t p=some u)(hv:lx t p=some v):v=v':=by
 unfold lx at hv;rw[hs]at hv
 cases h with
 |int=>simp at hv
 |bS a=>simpa using hv.symm
 |arr b c T z D G J I=>simpa using hv.symm
def OV.elem{fs:List (List AV)}{v t:Value}(h:OV w (.arr fs) v t){k:Nat}{y:AV}(hk:fs[k]?=some [y]):∃b n c u I,v=.slice (some ⟨b,0,none⟩) n (c+1)/\Bk t b/\w.cell? ⟨b,k,none⟩=some u/\OV w y u I/\il t [k]=some I:=by
 cases h with
 |bS a=>simp at hk
 |arr b c T cs es fs us J U V Z hn hc hu hr h1 h2=>
  rw[U]at hk;obtain⟨z,G,e⟩:=rj hk;cases e;have D:k <J.length:=by rw[Z];exact aC G
  refine⟨b,_,c,us k,J[k],rfl,xy,by simp[World.cell?,V,hu k (aC G)],hr k y _ G (List.getElem?_eq_getElem D),?_⟩;rw[il];simp only[List.getElem?_toArray,List.getElem?_cons_succ,List.getElem?_eq_getElem D];exact tS _
theorem OV.put{w':World}{b k n c:Nat}{U:IntKind}{m0 m:Int}{fs:List (List AV)}(y:∀V,V≠b->w'.heap[V]?=w.heap[V]?)(ad:∀cs T,w.heap[b]?=some (.cells cs T (0,0))->w'.heap[b]?=some (.cells (cs.setIfInBounds k (.int U m)) T (0,0))):∀{p:List Nat} {x:AV} {v t:Value},OV w x v t->fg x p=some (.arr fs)->fs[k]?=some [.int U m0]->lx t p=some (.slice (some ⟨b,0,none⟩) n c)->OV w' (setAt x p k (.int U m)) v t
 |[],x,v,t,h,G,Z,hv=>by
  rw[GD]at G;cases G;have ax:¬ ∃a,v=.slice a 0 0/\fs=[]:=fun⟨_,_,e⟩=>by rw[e]at Z;simp at Z
  have au:=(OV.hd h (tS t) hv).symm
  cases h with
  |bS a=>simp at Z
  |arr b0 c0 T cs es fs us ts he hg hl hn hc hu hr h1 h2=>
   cases au;rw[he]at Z⊢;obtain⟨z,hz,e⟩:=rj Z;cases e;have I:=aC hz
   have:=OV.arr (w:=w') b c0 T (cs.setIfInBounds k (.int U m)) (es.set k (.int U m)) ((es.map fun x=>[x]).set k [.int U m]) (fun q=>if q=k then .int U m else us q) ts (by rw[List.map_set]) (ad cs T hg) (by rw[List.length_set];exact hl) (by rw[List.length_set];exact hn) (by rw[List.length_set];exact hc) (fun q hq=>by
     rw[List.length_set]at hq;rw[Array.getElem?_setIfInBounds];have ap:=(Array.getElem?_eq_some_iff.1 (hu k I)).1;by_cases e:k=q
     ·subst e;simp[ap]
     ·rw[if_neg e,if_neg (Ne.symm e)];exact hu q hq) (fun q x t J ht=>by
     by_cases e:q=k
     ·subst e;rw[List.getElem?_set_self I]at J;cases J;have:=hr q _ t hz ht;rw[if_pos rfl];generalize us q=u at this;cases this;exact .int _ _
     ·rw[List.getElem?_set_ne (Ne.symm e)]at J;rw[if_neg e];exact(hr q x t J ht).same fun V ab=>y V fun e'=>h1 q t ht (e' ▸ ab)) h1 h2
   rw[List.length_set]at this;exact this
 |q::p,x,v,t,h,G,Z,hv=>by
  cases h with
  |int=>cases G
  |bS=>simp[fg]at G
  |arr b0 c0 T cs es av us ts he hg hl hn hc hu hr h1 h2=>
   rw[fg]at G;split at G
   ·rename_i z hz;rw[setAt];simp only[hz];rw[he]at hz⊢;obtain⟨z',an,e⟩:=rj hz;cases e;have I:=aC an;have D:q <ts.length:=by omega
    have al:lx ts[q] p=some (.slice (some ⟨b,0,none⟩) n c):=by
     unfold lx at hv⊢;rw[il]at hv;simp only[List.getElem?_toArray,List.getElem?_cons_succ,List.getElem?_eq_getElem D]at hv;exact hv
    have ao:=hr q z _ an (List.getElem?_eq_getElem D)
    have ag:Bk ts[q] b:=by
     obtain⟨v',t',e1,e2,e3⟩:=ao.at_ G;obtain⟨V,n',c',u,t2,e4,e5,_⟩:=e2.elem Z;have:=e2.hd e1 al;rw[e4]at this;cases this;exact e3 b e5
    have ih:=OV.put y ad ao G Z al
    have:=OV.arr (w:=w') b0 c0 T cs (es.set q (setAt z p k (.int U m))) ((es.map fun x=>[x]).set q [setAt z p k (.int U m)]) us ts (by rw[List.map_set]) ((y b0 fun e=>h1 q _ (List.getElem?_eq_getElem D) (e ▸ ag)).trans hg) (by rw[List.length_set];exact hl) (by rw[List.length_set];exact hn) (by rw[List.length_set];exact hc) (fun q hq=>by rw[List.length_set]at hq;exact hu q hq) (fun q' x t J ht=>by
      by_cases e:q'=q
      ·subst e;rw[List.getElem?_set_self I]at J;cases J;rw[List.getElem?_eq_getElem D]at ht;cases ht;exact ih
      ·rw[List.getElem?_set_ne (Ne.symm e)]at J;exact(hr q' x t J ht).same fun V ab=>y V fun e'=>e (h2 q' q t _ b ht (List.getElem?_eq_getElem D) (e' ▸ ab) ag)) h1 h2
    rw[List.length_set]at this;exact this
   ·cases G
def En{fr:Fr}{i:Nat}{p:List Nat}{fs:List (List AV)}(h:jK fr i p=some fs):∃ro x,fr[i]?=some (.own ro x)/\fg x p=some (.arr fs):=by
 unfold jK at h;split at h
 ·rename_i ro x v;split at h
  ·rename_i u y;cases h;exact⟨ro,x,v,y⟩
  ·cases h
 ·cases h
def Kg{i:Nat}{p:List Nat}{v:Value}(h:SR A L w (.lo i p) v):∃t,L i=some t/\lx t p=some v/\eB v=true:=by cases h with|lo _ _ t _ h y u=>exact⟨t,h,y,u⟩
def vn{i:Nat}{p:List Nat}{k:Nat}{v:Value}(h:SR A L w (.lr i p k) v):∃t b n c,L i=some t/\lx t p=some (.slice (some ⟨b,0,none⟩) n c)/\v=.pointer (some ⟨b,k,none⟩):=by cases h with|lr _ _ _ b n c t h u=>exact⟨t,b,n,c,h,u,rfl⟩
def vD{fr:Fr}{i sz a n:Nat}{es:List (List AV)}(h:kQ fr i sz a n=some es):∃ro tch u,fr[i]?=some (.row ro tch sz u)/\a+n<=u.length/\es=(u.drop a).take n:=by
 unfold kQ at h;split at h
 ·rename_i ro tch y u z;split at h
  ·rename_i v;rw[Bool.and_eq_true,Nat.ble_eq]at v;obtain rfl:sz=y:=by simpa using v.1
   cases h;exact⟨ro,tch,u,z,v.2,rfl⟩
  ·cases h
 ·cases h
def yT{fr:Fr}{i sz a n:Nat}{es:List (List AV)}(h:kQ fr i sz a n=some es):es.length=n:=by
 obtain⟨_,_,u,_,h1,rfl⟩:=vD h;rw[List.length_take,List.length_drop];omega
def gy{s:SV}{es:List (List AV)}{v:Value}(h:SR A L w s v)(hs:s=.t (.arr es)\/s=.tc es\/s=.nn es\/(s=.nil/\es=[])):VR A w (.arr es) v:=by
 rcases hs with rfl|rfl|rfl|⟨rfl,rfl⟩
 ·cases h with|t _ _ h=>exact h
 ·cases h with|tc _ a h=>exact h
 ·cases h with|nn _ a c h=>exact h
 ·cases h;exact .bS _ _
def rW{es:List (List AV)}{v:Value}(h:VR A w (.arr es) v):∃q c,v=.slice q es.length c:=by
 cases h with
 |bS q c=>exact⟨q,c,rfl⟩
 |arr b o c=>exact⟨_,c,rfl⟩
def iv(b o k:Nat):(⟨b,o,none⟩:Addr).add k=⟨b,o+k,none⟩:=by
 unfold Addr.add;split
 ·rename_i h;subst h;rfl
 ·rfl
def Fq{t:Nat}{i:TypeInfo}(h:P.info? t=some i)(w:World):(typeInfo t).run P w=.ok i w:=by simp[typeInfo,program,Sem.run,Sem.run_bind,h,pure]
def jO{t:Nat}{i:TypeInfo}(h:P.info? t=some i)(w:World):(sizeOf t).run P w=.ok i.size w:=by simp[sizeOf,Sem.run_bind,Fq h,pure,Sem.run]
def Ac{T:Nat}{i:TypeInfo}{z:Value}(hi:P.info? T=some i)(hz:i.zero=some z)(w:World):(zeroValue T).run P w=.ok z w:=by simp[zeroValue,Sem.run_bind,Fq hi,hz,pure,Sem.run]
def tM{t n:Nat}{b:Bool}(h:bn P t=some (b,n))(w:World):(isAgg t).run P w=.ok b w/\(sizeOf t).run P w=.ok n w:=by
 unfold bn at h;split at h
 ·rename_i y v
  cases u:P.info? t with
  |none=>rw[u]at h;cases h
  |some i=>
   rw[u]at h;cases h;exact⟨by simp[isAgg,Sem.run_bind,run_underlying v,pure,Sem.run],jO u w⟩
 ·rename_i z e v
  cases u:P.info? t with
  |none=>rw[u]at h;cases h
  |some i=>
   rw[u]at h;cases h;exact⟨by simp[isAgg,Sem.run_bind,run_underlying v,pure,Sem.run],jO u w⟩
 ·rename_i d h1 h2 v
  cases u:P.info? t with
  |none=>rw[u]at h;cases h
  |some i=>
   rw[u]at h;cases h;refine⟨?_,jO u w⟩;unfold isAgg;simp only[Sem.run_bind,run_underlying v,Result.andThen_ok];cases d <;>first|exact absurd rfl (h1 _)|exact absurd rfl (h2 _ _)|rfl
 ·cases h
theorem rD:∀{cs:List SV} {xs:List AV},iH cs=some xs->cs.length=xs.length/\∀(j:Nat) (s:SV) (x:AV) (v:Value),cs[j]?=some s->xs[j]?=some x->SR A L w s v->VR A w x v
 |[],xs,h=>by cases h;exact⟨rfl,fun j s x v hs=>by simp at hs⟩
 |c::r,xs,h=>by
  have z:∀{y:AV},(∀v,SR A L w c v->VR A w y v)->(match iH r with|some xs=>some (y::xs)|none=>none)=some xs->(c::r).length=xs.length/\∀(j:Nat) (s:SV) (x:AV) (v:Value),(c::r)[j]?=some s->xs[j]?=some x->SR A L w s v->VR A w x v:=fun{y} J h=>by
   cases D:iH r with
   |none=>rw[D]at h;cases h
   |some U=>
    rw[D]at h;cases h;obtain⟨h1,h2⟩:=rD D;refine⟨by simp[h1],fun j s x v hs G u=>?_⟩
    cases j with
    |zero=>cases hs;cases G;exact J v u
    |succ j=>exact h2 j s x v (by simpa using hs) (by simpa using G) u
  cases c with
  |t x=>exact z (fun v u=>by cases u with|t _ _ h=>exact h) h
  |nil=>exact z (fun v u=>by cases u;exact .bS _ _) h
  |tc I=>exact z (fun v u=>by cases u with|tc _ a h=>exact h) h
  |nn I=>exact z (fun v u=>by cases u with|nn _ a c h=>exact h) h
  |_=>cases h
theorem EC:∀{cs:List SV} {xs:List AV},pX cs=some xs->cs.length=xs.length/\∀(j:Nat) (s:SV) (x:AV) (v:Value),cs[j]?=some s->xs[j]?=some x->SR A L w s v->VR A w x v
 |[],xs,h=>by cases h;exact⟨rfl,fun j s x v hs=>by simp at hs⟩
 |c::r,xs,h=>by
  have D:∀{y:AV},(∀v,SR A L w c v->VR A w y v)->(match pX r with|some xs=>some (y::xs)|none=>none)=some xs->(c::r).length=xs.length/\∀(j:Nat) (s:SV) (x:AV) (v:Value),(c::r)[j]?=some s->xs[j]?=some x->SR A L w s v->VR A w x v:=fun{y} I h=>by
   cases z:pX r with
   |none=>rw[z]at h;cases h
   |some J=>
    rw[z]at h;cases h;obtain⟨h1,h2⟩:=EC z;refine⟨by simp[h1],fun j s x v hs G u=>?_⟩
    cases j with
    |zero=>cases hs;cases G;exact I v u
    |succ j=>exact h2 j s x v (by simpa using hs) (by simpa using G) u
  cases c with
  |t x=>exact D (fun v u=>by cases u with|t _ _ h=>exact h) h
  |_=>cases h
def uw{cs:List SV}{v:Value}(h:SR A L w (.agg cs) v):SR A L w (mf cs) v:=by
 unfold mf;split
 ·rename_i xs D
  cases h with
  |agg _ us hl hr=>
   obtain⟨h1,h2⟩:=EC (A:=A) (L:=L) (w:=w) D;refine .t _ _ (.agg _ us (by rw[hl,h1]) fun j x u y z=>?_);obtain⟨s,hs⟩:=am (xs:=cs) (k:=j) (by rw[h1];exact aC y);exact h2 j s x u hs y (hr j s u hs z)
 ·exact h
def CK{f:Fn}{z:Nat}{cs:List SV}{v:Value}(h:SR A L w (.fn f z cs) v):SR A L w (u_ f z cs) v:=by
 unfold u_;split
 ·rename_i xs G
  cases h with
  |fn _ _ fs us hl hr=>
   obtain⟨h1,h2⟩:=rD (A:=A) (L:=L) (w:=w) G;refine .t _ _ (.fn _ _ fs us (by rw[hl,h1]) fun j x u y D=>?_);obtain⟨s,hs⟩:=am (xs:=cs) (k:=j) (by rw[h1];exact aC y);exact h2 j s x u hs y (hr j s u hs D)
 ·exact h
def z_{v f off b o:Nat}(hf:sM P v f=some off):(Instr.fieldAt v (.pointer (some ⟨b,o,none⟩)) f).run P w=.ok (.pointer (some ⟨b,o+off,none⟩)) w:=by
 unfold sM at hf;split at hf
 ·rename_i I D;split at hf
  ·rename_i G u;split at hf
   ·rename_i i z;split at hf
    ·cases hf
    ·rename_i y;cases hf;simp[Instr.fieldAt,Instr.sureAddr,Sem.run_bind,run_underlying D,u,fieldPlace,jO z,y,pure,Sem.run,iv]
   ·cases hf
  ·cases hf
 ·cases hf
def GA{b o n:Nat}{cs:List AV}{c:AV}{r:List AV}{us:Nat->Value}(hd:cs.drop n=c::r)(hb:b <w.heap.size)(y:A b)(hc:∀(j:Nat),j <cs.length->w.cell? ⟨b,o+j,none⟩=some (us j))(hr:∀(j:Nat) (x:AV),cs[j]?=some x->VR A w x (us j)):VR A w (.tp (c::r)) (.pointer (some ⟨b,o+n,none⟩)):=by
 rw[<- hd];have u:(cs.drop n).length=cs.length - n:=List.length_drop;refine .tp b (o+n) _ (fun j=>us (n+j)) (by rw[hd];simp) hb y (fun j z=>?_) fun j x v=>?_
 ·have:=hc (n+j) (by omega);rwa[<- Nat.add_assoc]at this
 ·rw[List.getElem?_drop]at v;exact hr _ _ v
def Jk{G f:Nat}{s x:SV}{v:Value}(h:sL P G f s=some x)(hs:SR A L w s v):∃u,(Instr.fieldAt G v f).run P w=.ok u w/\SR A L w x u:=by
 unfold sL at h;split at h
 ·cases h
 ·rename_i y D;split at h
  ·rename_i J;obtain⟨b,o,U,rfl,h1,h2,h3,h4,I⟩:=q9 hs;split at h
   ·rename_i c r hd;cases h;exact⟨_,z_ D,.t _ _ (GA hd h2 h3 h4 I)⟩
   ·cases h
  ·rename_i i j;cases h;obtain⟨g,z,rfl⟩:=lB hs;exact⟨_,z_ D,.lp i (j+y) g z⟩
  ·rename_i i sz k j;cases h;obtain⟨b,m,c,z,rfl⟩:=pw hs;refine⟨_,z_ D,?_⟩;rw[Nat.add_assoc];exact .le i sz k (j+y) b m c z
  ·cases h
def rK{t n off:Nat}{us:Array Value}{v:Bool}(ht:bn P t=some (v,n)):(v=true->(part t us off).run P w=.ok (.agg (us.extract off (off+n))) w)/\(v=false->∀u,us[off]?=some u->(part t us off).run P w=.ok u w):=by
 have y:=tM ht w;unfold part;refine⟨fun h=>?_,fun h u z=>?_⟩
 ·subst h;simp[Sem.run_bind,y.1,y.2,pure,Sem.run]
 ·subst h;simp[Sem.run_bind,y.1,z,pure,Sem.run]
def Jl{st f:Nat}{s x:SV}{v:Value}(h:yj P st f s=some x)(hs:SR A L w s v):∃u,(Instr.field st v f).run P w=.ok u w/\SR A L w x u:=by
 unfold yj at h;split at h
 ·cases h
 ·rename_i ab ft z
  have I:∃fs G,P.underlying st=some (.struct fs)/\fs[f]?=some G/\G.offset=ab/\G.type=ft:=by
   unfold CD at z;split at z
   ·rename_i fs D;split at z
    ·rename_i G I;cases z;exact⟨fs,G,D,I,rfl,rfl⟩
    ·cases z
   ·cases z
  obtain⟨fs,G,D,I,rfl,rfl⟩:=I;split at h
  ·cases h
  ·rename_i ag n ht
   have U:∀{V:Array Value} {u:Value},(part G.type V G.offset).run P w=.ok u w->(Instr.field st (.agg V) f).run P w=.ok u w:=fun{V u} hp=>by
    simp[Instr.field,Sem.run_bind,run_underlying D,I,asAgg,pure,Sem.run,hp]
   split at h
   ·rename_i cs
    cases hs with
    |t _ _ hs=>
     cases hs with
     |agg _ V hl hr=>
      cases ag with
      |false=>
       simp only at h;split at h
       ·rename_i c hc;cases h;have Z:G.offset <V.size:=by rw[hl];exact aC hc
        exact⟨V[G.offset],U ((rK ht).2 rfl _ (Array.getElem?_eq_getElem Z)),.t _ _ (hr _ c _ hc (Array.getElem?_eq_getElem Z))⟩
       ·cases h
      |true=>
       simp only at h;split at h
       ·rename_i hb;cases h;rw[Nat.ble_eq]at hb;refine⟨_,U ((rK ht).1 rfl),.t _ _ (.agg _ _ (by rw[Array.size_extract,List.length_take,List.length_drop];omega) fun j y u J D=>?_)⟩;rw[List.getElem?_take]at J;split at J
        ·rename_i Z;rw[List.getElem?_drop]at J;rw[Array.getElem?_extract]at D;split at D
         ·exact hr _ y u J D
         ·cases D
        ·cases J
       ·cases h
   ·rename_i cs
    cases hs with
    |agg _ V hl hr=>
     cases ag with
     |false=>
      simp only at h;have Z:G.offset <V.size:=by rw[hl];exact aC h
      exact⟨V[G.offset],U ((rK ht).2 rfl _ (Array.getElem?_eq_getElem Z)),hr _ x _ h (Array.getElem?_eq_getElem Z)⟩
     |true=>
      simp only at h;split at h
      ·rename_i hb;cases h;rw[Nat.ble_eq]at hb;refine⟨_,U ((rK ht).1 rfl),uw (.agg _ _ (by rw[Array.size_extract,List.length_take,List.length_drop];omega) fun j y u J D=>?_)⟩;rw[List.getElem?_take]at J;split at J
       ·rename_i Z;rw[List.getElem?_drop]at J;rw[Array.getElem?_extract]at D;split at D
        ·exact hr _ y u J D
        ·cases D
       ·cases J
      ·cases h
   ·cases h
def Jg{i:Nat}{s x:SV}{v:Value}(h:yg s i=some x)(hs:SR A L w s v):∃u,(Instr.extract v i).run P w=.ok u w/\SR A L w x u:=by
 unfold yg at h;split at h
 ·cases hs with
  |aN _ us hl hr=>
   have z:i <us.size:=by rw[hl];exact aC h
   exact⟨us[i],by simp[Instr.extract,z,pure,Sem.run],hr i x us[i] h (Array.getElem?_eq_getElem z)⟩
 ·split at h
  ·rename_i y D;cases h
   cases hs with
   |t _ _ hs=>
    cases hs with
    |aN _ us hl hr=>
     have z:i <us.size:=by rw[hl];exact aC D
     exact⟨us[i],by simp[Instr.extract,z,pure,Sem.run],.t _ _ (hr i y us[i] D (Array.getElem?_eq_getElem z))⟩
  ·cases h
 ·cases h
def L7{s x:SV}{v:Value}(h:zk s=some x)(hs:SR A L w s v):(∃q,v=.pointer (some q))/\SR A L w x v:=by
 unfold zk at h;split at h
 ·cases h;obtain⟨b,o,u,rfl,_⟩:=q9 hs;exact⟨⟨_,rfl⟩,hs⟩
 ·cases h;obtain⟨g,_,rfl⟩:=lB hs;exact⟨⟨_,rfl⟩,hs⟩
 ·cases h;obtain⟨b,m,c,_,rfl⟩:=pw hs;exact⟨⟨_,rfl⟩,hs⟩
 ·cases h;obtain⟨t,b,n,c,_,_,rfl⟩:=vn hs;exact⟨⟨_,rfl⟩,hs⟩
 ·cases h
def Qc{b:UnOp}{s x:SV}{v:Value}(h:xa b s=some x)(hs:SR A L w s v):∃u,(Op.unary b v).run P w=.ok u w/\SR A L w x u:=by
 unfold xa at h;split at h
 ·rename_i y;obtain rfl:=kG hs;cases b <;>simp only at h <;>first|(cases h;done)|skip
  cases h;exact⟨.bool (!y),by simp[Op.unary,pure,Sem.run],.t _ _ (.bool _)⟩
 ·rename_i k n;obtain rfl:=QT hs;cases b <;>simp only at h <;>first|(cases h;done)|skip
  cases h;exact⟨.int k (k.wrap (0 - n)),by simp[Op.unary,Op.intArith,pure,Sem.run],.t _ _ (.int _ _)⟩
 ·cases h
def J_{t:Nat}{s i x:SV}{v u:Value}(h:vl P t s i=some x)(hs:SR A L w s v)(hi:SR A L w i u):∃y,(Instr.index t v u).run P w=.ok y w/\SR A L w x y:=by
 unfold vl at h;split at h
 ·rename_i str k m;obtain rfl:=q8 hs;obtain rfl:=QT hi;split at h
  ·rename_i D;unfold mr at D;split at D
   ·rename_i J;split at h
    ·rename_i G;split at h
     ·rename_i b I;cases h;have z:0<=m:=of_decide_eq_true G;refine⟨.int .u8 b.toNat,?_,.t _ _ (.int _ _)⟩;simp[Instr.index,asIntOf,Sem.run_bind,run_underlying J,z,I,pure,Sem.run]
     ·cases h
    ·cases h
   ·cases D
  ·cases h
 ·cases h
end
section
variable {P:Program} {γ:Glob} {κ:Ctx} {fr:Fr} {L:Ls} {w:World} {A:Nat->Prop}
def xB(y:ar γ κ fr L w){i j b:Nat}{ro:Bool}{T:TypeId}{cs:List SV}{x:SV}(hb:fr[i]?=some (.box ro T cs))(z:L i=some (.pointer (some ⟨b,0,none⟩)))(hx:cs[j]?=some x):∃u,w.cell? ⟨b,j,none⟩=some u/\SR (MA κ.M fr L) L w x u:=by
 obtain⟨G,v,h1,h2,h3,h4⟩:=y.box i ro T cs hb;rw[z]at h1;cases h1;have D:j <v.size:=by rw[h3];exact aC hx
 exact⟨v[j],by simp[World.cell?,h2],h4 j x v[j] hx (Array.getElem?_eq_getElem D)⟩
def fR(z:ar γ κ fr L w){i sz:Nat}{ro tch:Bool}{es:List (List AV)}{v:Value}(hb:fr[i]?=some (.row ro tch sz es))(D:L i=some v):∃T us,cm w T sz v es.length us/\es.length<=140737488351232/\(∃q c,v=.slice q es.length c)/\(∀(k:Nat) (cs:List AV),es[k]?=some cs->cs.length=sz)/\∀(k j:Nat) (cs:List AV) (x:AV),es[k]?=some cs->cs[j]?=some x->∃u,us[k*sz+j]?=some u/\VR (MA κ.M fr L) w x u:=by
 obtain⟨T,G,us,h1,h2,h3,h4,y⟩:=z.row i _ _ _ _ hb;rw[D]at h1;cases h1;exact⟨T,us,h2,h3,h2.form,h4,y⟩
def zv{w:World}{T:TypeId}{sz b n c q:Nat}{us:List Value}{u:Value}(h:w.ownsRow 0 T sz (.slice (some ⟨b,0,none⟩) n c) n us)(hq:us[q]?=some u):w.cell? ⟨b,q,none⟩=some u:=by
 have:=h.cells (g:=b) rfl q u hq;rwa[iv,Nat.zero_add]at this
def E4(y:ar γ κ fr L w){i sz b m c k j:Nat}{ro tch:Bool}{es:List (List AV)}{cs:List AV}{x:AV}(hb:fr[i]?=some (.row ro tch sz es))(z:L i=some (.slice (some ⟨b,0,none⟩) m c))(hk:es[k]?=some cs)(hj:cs[j]?=some x):
  ∃u,w.cell? ⟨b,k*sz+j,none⟩=some u/\VR (MA κ.M fr L) w x u:=by
 obtain⟨T,J,v,_,⟨q,I,e⟩,D,G⟩:=fR y hb z;cases e;obtain⟨u,h1,h2⟩:=G k j cs x hk hj;exact⟨u,zv (v.own (Nat.lt_of_le_of_lt (Nat.zero_le _) (aC hk))) h1,h2⟩
def Eo(v:ar γ κ fr L w){i:Nat}{p:List Nat}{ro:Bool}{x y:AV}{t:Value}(hb:fr[i]?=some (.own ro x))(z:L i=some t)(hx:fg x p=some y):∃v' u,il t p=some u/\OV w y v' u/\∀b,Bk u b->Bk t b:=by
 obtain⟨G,D,h1,h2⟩:=v.blk i _ hb;rw[z]at h1;cases h1;exact h2.at_ hx
theorem run_loadCells{b o:Nat}{us:Nat->Value}{w:World}:∀(n i:Nat) (u:Array Value),(∀j,j <n->w.cell? ⟨b,o+(i+j),none⟩=some (us (i+j)))->(loadCellsFrom ⟨b,o,none⟩ i n u).run P w=.ok (u++((List.range' i n).map us).toArray) w
 |0,i,u,_=>by simp[loadCellsFrom,pure,Sem.run]
 |n+1,i,u,h=>by
  have v:=h 0 (by omega);rw[Nat.add_zero]at v;unfold loadCellsFrom;simp only[Sem.run_bind,load,Sem.run,iv,v,Result.andThen_ok];rw[run_loadCells n (i+1) (u.push (us i)) fun j y=>by have:=h (j+1) (by omega);rwa[show i+1+j=i+(j+1) by omega]];rw[List.range'_succ,List.map_cons];congr 1;simp
def p6{t n b o:Nat}{u:Value}(ht:bn P t=some (false,n))(hc:w.cell? ⟨b,o,none⟩=some u):(Instr.loadAt t (.pointer (some ⟨b,o,none⟩))).run P w=.ok u w:=by
 simp[Instr.loadAt,Instr.sureAddr,loadVar,Sem.run_bind,(tM ht w).1,load,hc,pure,Sem.run]
def wg{t n b o:Nat}{us:Nat->Value}(ht:bn P t=some (true,n))(hc:∀j,j <n->w.cell? ⟨b,o+j,none⟩=some (us j)):(Instr.loadAt t (.pointer (some ⟨b,o,none⟩))).run P w=.ok (.agg ((List.range' 0 n).map us).toArray) w:=by
 have:=run_loadCells (P:=P) (b:=b) (o:=o) (us:=us) (w:=w) n 0 #[] fun j u=>by rw[Nat.zero_add];exact hc j u
 simp[Instr.loadAt,Instr.sureAddr,loadVar,Sem.run_bind,(tM ht w).1,(tM ht w).2,loadCells,this,pure,Sem.run]
def Hd{cs:List SV}{us:Nat->Value}(h:∀(j:Nat) (x:SV),cs[j]?=some x->SR A L w x (us j)):SR A L w (.agg cs) (.agg ((List.range' 0 cs.length).map us).toArray):=by
 refine .agg _ _ (by simp) fun j x u y v=>?_;have z:j <cs.length:=aC y;have:u=us j:=by simp[List.getElem?_range',z]at v;exact v.symm
 rw[this];exact h j x y
def xo{cs:List AV}{us:Nat->Value}(h:∀(j:Nat) (x:AV),cs[j]?=some x->VR A w x (us j)):VR A w (.agg cs) (.agg ((List.range' 0 cs.length).map us).toArray):=by
 refine .agg _ _ (by simp) fun j x u y v=>?_;have z:j <cs.length:=aC y;have:u=us j:=by simp[List.getElem?_range',z]at v;exact v.symm
 rw[this];exact h j x y
def tn{t:Nat}{s x:SV}{v:Value}(hC:ar γ κ fr L w)(h:fO P fr t s=some x)(hs:SR (MA κ.M fr L) L w s v):∃u,(Instr.loadAt t v).run P w=.ok u w/\SR (MA κ.M fr L) L w x u:=by
 unfold fO at h;split at h
 ·cases h
 ·rename_i ag n J;split at h
  ·rename_i cs;obtain⟨b,o,us,rfl,h1,h2,h3,h4,h5⟩:=q9 hs
   cases ag with
   |false=>
    simp only at h;split at h
    ·rename_i c hc;cases h;exact⟨us 0,p6 J (by have:=h4 0 (aC hc);rwa[Nat.add_zero]at this),.t _ _ (h5 0 c hc)⟩
    ·cases h
   |true=>
    simp only at h;split at h
    ·rename_i Z;cases h;obtain rfl:n=cs.length:=by simpa using Z
     exact⟨_,wg J fun j hj=>h4 j hj,.t _ _ (xo fun j x hx=>h5 j x hx)⟩
    ·split at h
     ·rename_i Z;cases h;rw[Nat.ble_eq]at Z;have hl:(cs.take n).length=n:=by rw[List.length_take];omega
      have:=xo (A:=MA κ.M fr L) (w:=w) (cs:=cs.take n) (us:=us) fun j x hx=>by
       rw[List.getElem?_take]at hx;split at hx
       ·exact h5 j x hx
       ·cases hx
      rw[hl]at this;exact⟨_,wg J fun j hj=>h4 j (by omega),.t _ _ this⟩
     ·cases h
  ·rename_i i j;obtain⟨b,U,rfl⟩:=lB hs;split at h
   ·rename_i ro T cs V
    cases ag with
    |false=>
     simp only at h;obtain⟨u,hu,hr⟩:=xB hC V U h;exact⟨u,p6 J hu,hr⟩
    |true=>
     simp only at h;split at h
     ·rename_i Z;cases h;rw[Nat.ble_eq]at Z
      have I:∀k,k <n->w.cell? ⟨b,j+k,none⟩=some ((w.cell? ⟨b,j+k,none⟩).getD undef)/\∀y,cs[j+k]?=some y->SR (MA κ.M fr L) L w y ((w.cell? ⟨b,j+k,none⟩).getD undef):=fun k G=>by
       obtain⟨y,D⟩:=am (xs:=cs) (k:=j+k) (by omega);obtain⟨u,h1,h2⟩:=xB hC V U D;rw[h1];exact⟨rfl,fun z hz=>by rw[D]at hz;cases hz;exact h2⟩
      have hl:((cs.drop j).take n).length=n:=by rw[List.length_take,List.length_drop];omega
      have:=Hd (A:=MA κ.M fr L) (L:=L) (w:=w) (cs:=(cs.drop j).take n) (us:=fun k=>(w.cell? ⟨b,j+k,none⟩).getD undef) fun k y D=>by
       rw[List.getElem?_take]at D;split at D
       ·rename_i G;rw[List.getElem?_drop]at D;exact(I k G).2 y D
       ·cases D
      rw[hl]at this;exact⟨_,wg J fun k G=>(I k G).1,uw this⟩
     ·cases h
   ·cases h
  ·rename_i i sz k j;obtain⟨b,m,c,U,rfl⟩:=pw hs;split at h
   ·rename_i ro ap an es V;split at h
    ·rename_i hz;obtain rfl:sz=an:=by simpa using hz
     split at h
     ·rename_i cs G
      cases ag with
      |false=>
       simp only at h;split at h
       ·rename_i y D;cases h;obtain⟨u,hu,hr⟩:=E4 hC V U G D;exact⟨u,p6 J hu,.t _ _ hr⟩
       ·cases h
      |true=>
       simp only at h;split at h
       ·rename_i Z;cases h;rw[Nat.ble_eq]at Z
        have I:∀q,q <n->w.cell? ⟨b,k*sz+j+q,none⟩=some ((w.cell? ⟨b,k*sz+j+q,none⟩).getD undef)/\∀y,cs[j+q]?=some y->VR (MA κ.M fr L) w y ((w.cell? ⟨b,k*sz+j+q,none⟩).getD undef):=fun q hq=>by
         obtain⟨y,D⟩:=am (xs:=cs) (k:=j+q) (by omega);obtain⟨u,h1,h2⟩:=E4 hC V U G D;rw[<- Nat.add_assoc]at h1;rw[h1];exact⟨rfl,fun z hz=>by rw[D]at hz;cases hz;exact h2⟩
        have hl:((cs.drop j).take n).length=n:=by rw[List.length_take,List.length_drop];omega
        have:=xo (A:=MA κ.M fr L) (w:=w) (cs:=(cs.drop j).take n) (us:=fun q=>(w.cell? ⟨b,k*sz+j+q,none⟩).getD undef) fun q y D=>by
         rw[List.getElem?_take]at D;split at D
         ·rename_i hq;rw[List.getElem?_drop]at D;exact(I q hq).2 y D
         ·cases D
        rw[hl]at this;exact⟨_,wg J fun q hq=>(I q hq).1,.t _ _ this⟩
       ·cases h
     ·cases h
    ·cases h
   ·cases h
  ·rename_i i p k;obtain⟨t0,b,m,c,U,hv,rfl⟩:=vn hs;split at h
   ·rename_i fs ad;obtain⟨ro,x0,V,al⟩:=En ad;obtain⟨v',t',e1,e2,e3⟩:=Eo hC V U al
    have ab:∀{y:AV},fs[k]?=some [y]->∃u t2,w.cell? ⟨b,k,none⟩=some u/\OV w y u t2/\il t0 (p++[k])=some t2:=fun{y} D=>by
     obtain⟨b',n',c',u,t2,f1,_,f3,f4,f5⟩:=e2.elem D;have:=e2.hd e1 hv;rw[f1]at this;cases this;exact⟨u,t2,f3,f4,by rw[Gg,e1];exact f5⟩
    split at h
    ·rename_i ao G;cases h;obtain⟨u,t2,f1,f2,f3⟩:=ab G;obtain⟨us,rfl,f4⟩:=f2.head;exact⟨u,p6 J f1,.lo _ _ t0 u U (by unfold lx;rw[f3];exact f4) f2.plain⟩
    ·rename_i kk n' G;cases h;obtain⟨u,t2,f1,f2,f3⟩:=ab G;cases f2;exact⟨_,p6 J f1,.t _ _ (.int _ _)⟩
    ·cases h
   ·cases h
  ·cases h
def uS{t e sz:Nat}(h:eZ P t=some (e,sz)):∃i,P.underlying t=some (.slice e)/\P.info? e=some i/\i.size=sz:=by
 unfold eZ at h;split at h
 ·rename_i v y
  cases u:P.info? v with
  |none=>rw[u]at h;cases h
  |some i=>rw[u]at h;cases h;exact⟨i,y,u,rfl⟩
 ·cases h
def rJ{t e sz b o n c:Nat}{k:IntKind}{m:Int}(ht:eZ P t=some (e,sz))(h0:0<=m)(h1:m.toNat <n):(Instr.indexAt t (.slice (some ⟨b,o,none⟩) n c) (.int k m)).run P w=.ok (.pointer (some ⟨b,o+m.toNat*sz,none⟩)) w:=by
 obtain⟨i,v,u,rfl⟩:=uS ht;have h2:m <(n:Int):=by omega
 simp[Instr.indexAt,asIntOf,Sem.run_bind,run_underlying v,jO u,h0,h2,pure,Sem.run,iv]
def xU{t e sz:Nat}{k:IntKind}{m:Int}{es:List (List AV)}{x:SV}{v:Value}(ht:eZ P t=some (e,sz))(h:elemAt sz es m=some x)(hv:VR A w (.arr es) v):∃u,(Instr.indexAt t v (.int k m)).run P w=.ok u w/\SR A L w x u:=by
 unfold elemAt at h;split at h
 ·cases h
 ·rename_i D;have D:0<=m:=of_decide_eq_true D;split at h
  ·rename_i c I G;split at h
   ·rename_i V;cases h;obtain rfl:sz=I.length+1:=by simpa using V
    have z:=aC G
    cases hv with
    |bS=>simp at z
    |arr b o cp sz' _ us hne hlen hcap hb hM hsz hcell hr=>
     have hs:sz'=I.length+1:=(hsz _ _ G).symm;subst hs;refine⟨_,rJ ht D z,.t _ _ (.tp b _ _ (us m.toNat) (by simp) hb hM (fun j J=>?_) fun j y U=>hr _ _ _ _ G U)⟩;have:=hcell m.toNat j z (by simpa using J);rwa[<- Nat.add_assoc]at this
   ·cases h
  ·cases h
def Hp{t n sz:Nat}(h:uC P t=some (n,sz)):∃e i,P.underlying t=some (.array n e)/\P.info? e=some i/\i.size=sz:=by
 unfold uC at h;split at h
 ·rename_i y e v
  cases u:P.info? e with
  |none=>rw[u]at h;cases h
  |some i=>rw[u]at h;cases h;exact⟨e,i,v,u,rfl⟩
 ·cases h
def vi{m:Int}{n:Nat}(h:jC m n=true):0<=m/\m.toNat <n:=by
 unfold jC at h;rw[Bool.and_eq_true,Nat.blt_eq]at h;exact⟨of_decide_eq_true h.1,h.2⟩
def Fp{t sz b o n:Nat}{k:IntKind}{m:Int}(ht:uC P t=some (n,sz))(h:jC m n=true):(Instr.indexAt t (.pointer (some ⟨b,o,none⟩)) (.int k m)).run P w=.ok (.pointer (some ⟨b,o+m.toNat*sz,none⟩)) w:=by
 obtain⟨e,i,y,v,rfl⟩:=Hp ht;obtain⟨u,h1⟩:=vi h;have h2:m <(n:Int):=by omega
 simp[Instr.indexAt,Instr.sureAddr,asIntOf,Sem.run_bind,run_underlying y,jO v,u,h2,pure,Sem.run,iv]
def J8{t:Nat}{s i x:SV}{v u:Value}(hC:ar γ κ fr L w)(h:jD P fr t s i=some x)(hs:SR (MA κ.M fr L) L w s v)(hi:SR (MA κ.M fr L) L w i u):∃y,(Instr.indexAt t v u).run P w=.ok y w/\SR (MA κ.M fr L) L w x y:=by
 unfold jD at h;split at h
 ·rename_i e sz G;split at h
  ·rename_i k m;obtain rfl:=QT hi;split at h
   ·exact xU G h (gy hs (.inl rfl))
   ·exact xU G h (gy hs (.inr (.inl rfl)))
   ·exact xU G h (gy hs (.inr (.inr (.inl rfl))))
   ·rename_i r;split at h
    ·rename_i ro ap J V Z;split at h
     ·rename_i hz;obtain rfl:sz=J:=by simpa using hz
      split at h
      ·rename_i D;cases h;obtain⟨U,h1⟩:=vi D;obtain⟨z,_⟩:=kH hs;obtain⟨T,us,ad,_,⟨q,c,rfl⟩,_⟩:=fR hC Z z;rcases(ad.own (by omega)).2 with⟨e,hz⟩|⟨b,cap,an,e,_⟩
       ·omega
       ·cases e;refine⟨_,rJ G U h1,?_⟩;rw[Nat.zero_add];exact .le r sz m.toNat 0 b _ _ z
      ·cases h
     ·cases h
    ·cases h
   ·rename_i r J a n;split at h
    ·rename_i V ao;split at h
     ·rename_i I;rw[Bool.and_eq_true]at I;obtain rfl:sz=J:=by simpa using I.1
      cases h;obtain⟨U,h1⟩:=vi I.2;obtain⟨b,m',c,z,rfl⟩:=ns hs;refine⟨_,rJ G U h1,?_⟩;rw[<- Nat.add_mul];exact .le r sz (a+m.toNat) 0 b _ _ z
     ·cases h
    ·cases h
   ·rename_i r p;split at h
    ·rename_i fs ab;obtain⟨ro,x0,Z,ag⟩:=En ab;split at h
     ·rename_i I;rw[Bool.and_eq_true]at I;obtain rfl:sz=1:=by simpa using I.1
      cases h;obtain⟨U,h1⟩:=vi I.2;obtain⟨t0,z,hv,hp⟩:=Kg hs;obtain⟨v',t',e1,e2,e3⟩:=Eo hC Z z ag;obtain rfl:=e2.hd e1 hv
      cases e2 with
      |bS a=>simp at h1
      |arr b c T cs V fs us ts he=>
       have al:fs.length=V.length:=by rw[he,List.length_map]
       refine⟨_,rJ G U (by omega),?_⟩;rw[Nat.zero_add,Nat.mul_one];exact .lr r p m.toNat b _ _ t0 z hv
     ·cases h
    ·cases h
   ·cases h
  ·cases h
 ·split at h
  ·rename_i n sz G;split at h
   ·rename_i k m;obtain rfl:=QT hi;split at h
    ·cases h
    ·rename_i D;split at h
     ·rename_i cs;obtain⟨b,o,us,rfl,h1,h2,h3,h4,h5⟩:=q9 hs;split at h
      ·rename_i c r hd;cases h;exact⟨_,Fp G D,.t _ _ (GA hd h2 h3 h4 h5)⟩
      ·cases h
     ·rename_i b j;cases h;obtain⟨g,z,rfl⟩:=lB hs;exact⟨_,Fp G D,.lp b _ g z⟩
     ·cases h
   ·cases h
  ·cases h
def Pf{s:SV}{es:List (List AV)}{v:Value}(y:ar γ κ fr L w)(h:gO fr s=some es)(hs:SR (MA κ.M fr L) L w s v):∃q c,v=.slice q es.length c:=by
 unfold gO at h;split at h
 ·cases h;exact rW (gy hs (.inl rfl))
 ·cases h;exact rW (gy hs (.inr (.inr (.inr ⟨rfl,rfl⟩))))
 ·cases h;exact rW (gy hs (.inr (.inl rfl)))
 ·cases h;exact rW (gy hs (.inr (.inr (.inl rfl))))
 ·split at h
  ·rename_i I G sz u z;cases h;obtain⟨T,J,_,_,D,_⟩:=fR y z (kH hs).1;exact D
  ·cases h
 ·obtain⟨b,m,c,_,rfl⟩:=ns hs;rw[yT h];exact⟨_,_,rfl⟩
 ·cases h
def KW{ty:TypeId}{t:Option Nat}{tys:Array TypeId}{s x:SV}{v:Value}(U:ar γ κ fr L w)(ht:tys[0]?=t)(h:ti P fr t s=some x)(hs:SR (MA κ.M fr L) L w s v):∃u,(Builtin.len_ tys ty #[v]).run P w=.ok u w/\SR (MA κ.M fr L) L w x u:=by
 unfold ti at h;split at h
 ·cases h
 ·rename_i t;split at h
  ·rename_i str;obtain rfl:=q8 hs;split at h
   ·rename_i D;cases h;unfold mr at D;split at D
    ·rename_i G;exact⟨.int .i64 str.size,by simp[Builtin.len_,ht,run_underlying G,Sem.run_bind,goInt,pure,Sem.run],.t _ _ (.int _ _)⟩
    ·cases D
   ·cases h
  ·split at h
   ·rename_i z;split at h
    ·rename_i V Z;cases h;obtain⟨q,c,rfl⟩:=Pf U Z hs;unfold kI at z;split at z
     ·rename_i e G;exact⟨.int .i64 V.length,by simp[Builtin.len_,ht,run_underlying G,Sem.run_bind,goInt,pure,Sem.run],.t _ _ (.int _ _)⟩
     ·cases z
    ·cases h
   ·unfold DF at h;split at h
    ·rename_i i ab;split at h
     ·rename_i ro ks vs y hi;cases h;obtain⟨r,J,I,h1,h2,h3,_⟩:=U.blk i _ hi
      cases hs with
      |lm _ r' hL=>
       rw[h1]at hL;cases hL;unfold C8 at y;split at y
       ·rename_i k e G;exact⟨.int .i64 ks.length,by simp[Builtin.len_,ht,run_underlying G,Sem.run_bind,getObj,h2,goInt,pure,Sem.run,h3],.t _ _ (.int _ _)⟩
       ·cases y
     ·cases h
    ·cases h
end
def ma(M:Nat->Prop)(w:World)(xs:List AV)(us:Array Value):Prop:=us.size=xs.length/\∀(j:Nat) (x:AV) (u:Value),xs[j]?=some x->us[j]?=some u->VR M w x u
def VC(M:Nat->Prop)(w:World)(y:Bool)(xs:List AV)(v:Value):Prop:=match y with
 |true=>∃u,v=.agg u/\ma M w xs u
 |false=>∃x,xs=[x]/\VR M w x v
section
variable {P:Program} {M:Nat->Prop} {w:World}
def Ab{t n off:Nat}{D:Bool}{xs:List AV}{us:Array Value}(ht:bn P t=some (D,n))(h:ma M w xs us)(hl:off+n<=xs.length)(h1:D=false->n=1):∃v,(part t us off).run P w=.ok v w/\VC M w D ((xs.drop off).take n) v:=by
 cases D with
 |true=>
  refine⟨_,(rK ht).1 rfl,_,rfl,by rw[Array.size_extract,List.length_take,List.length_drop,h.1];omega,fun j x u y G=>?_⟩;rw[List.getElem?_take]at y;split at y
  ·rename_i I;rw[List.getElem?_drop]at y;rw[Array.getElem?_extract]at G;split at G
   ·exact h.2 _ x u y G
   ·cases G
  ·cases y
 |false=>
  obtain rfl:=h1 rfl;have z:off <us.size:=by rw[h.1];omega
  have y:off <xs.length:=by omega
  refine⟨us[off],(rK ht).2 rfl _ (Array.getElem?_eq_getElem z),xs[off],?_,h.2 off _ _ (List.getElem?_eq_getElem y) (Array.getElem?_eq_getElem z)⟩;rw[List.drop_eq_getElem_cons y];rfl
def N5{d t:Nat}{u:TypeDesc}{xs G:List AV}{r:Bool}{a b:Value}(D:P.underlying t=some u)(h:jx u xs G=some r)(ha:∃x,xs=[x]/\VR M w x a)(hb:∃x,G=[x]/\VR M w x b):(Op.equalIn (d+1) t a b).run P w=.ok r w:=by
 obtain⟨x,rfl,ha⟩:=ha;obtain⟨y,rfl,hb⟩:=hb;unfold jx at h;split at h
 ·rename_i v z;cases v;cases z;cases ha;cases hb;split at h
  ·rename_i e;subst e;cases h;simp[Op.equalIn,run_underlying D,Sem.run_bind,pure,Sem.run];rfl
  ·cases h
 ·rename_i v z;cases v;cases z;cases ha;cases hb;cases h;simp[Op.equalIn,run_underlying D,Sem.run_bind,pure,Sem.run]
 ·rename_i v z;cases v;cases z;cases ha;cases hb;cases h;simp[Op.equalIn,run_underlying D,Sem.run_bind,pure,Sem.run]
 ·cases h
theorem Fl{step:Nat->List AV->List AV->Option Bool}{e:Nat}{xs y:List AV}{us vs:Array Value}(hs:∀(t:Nat) (v:Bool) (n:Nat) (xs y:List AV) (r:Bool) (a b:Value),bn P t=some (v,n)->step t xs y=some r->VC M w v xs a->VC M w v y b->(Op.equalIn e t a b).run P w=.ok r w)(hx:ma M w xs us)(hy:ma M w y vs):
  ∀(fs:List Field) (r:Bool),uT step P xs y fs=some r->(Op.eqFields e us vs fs).run P w=.ok r w
 |[],r,h=>by cases h;simp[Op.eqFields]
 |f::fs,r,h=>by
  unfold uT at h;split at h
  ·cases h
  ·rename_i V;split at h
   ·cases h
   ·rename_i v n G;split at h
    ·cases h
    ·rename_i z;split at h
     ·rename_i r1 q h1 h2;cases h;simp only[Bool.and_eq_true,Bool.or_eq_true,Nat.ble_eq,Nat.beq_eq]at z
      have u:v=false->n=1:=fun e=>by
       rcases z.2 with h|h
       ·rw[e]at h;cases h
       ·exact h
      obtain⟨a,I,va⟩:=Ab G hx z.1.1 u;obtain⟨b,J,vb⟩:=Ab G hy z.1.2 u;have U:=hs _ _ _ _ _ _ a b G h1 va vb;have Z:=Fl hs hx hy fs q h2;have D :f.name≠ "_" :=by simpa using V
      unfold Op.eqFields;rw[if_pos D];simp only[Sem.run_bind,I,J,U,Result.andThen_ok]
      cases r1 with
      |true=>simpa using Z
      |false=>simp[pure,Sem.run]
     ·cases h
theorem z8:∀(d e t:Nat) (y:Bool) (n:Nat) (xs G:List AV) (r:Bool) (a b:Value),d<=e->bn P t=some (y,n)->gI P d t xs G=some r->VC M w y xs a->VC M w y G b->(Op.equalIn e t a b).run P w=.ok r w
 |0,_,_,_,_,_,_,_,_,_,_,_,h,_,_=>by cases h
 |d+1,e,t,y,n,xs,G,r,a,b,he,v,h,Z,hb=>by
  obtain⟨e,rfl⟩:∃e',e=e'+1:=⟨e - 1,by omega⟩;unfold gI at h;split at h
  ·rename_i fs D;split at h
   ·rename_i J
    have z:y=true:=by
     unfold bn at v;rw[D]at v;simp only at v
     cases I:P.info? t with
     |none=>rw[I]at v;cases v
     |some i=>rw[I]at v;cases v;rfl
    subst z;obtain⟨us,rfl,U⟩:=Z;obtain⟨vs,rfl,V⟩:=hb;have hf:P.fieldsOf t=fs:=by unfold Program.fieldsOf;rw[D]
    rw[run_equalIn_struct w e t us vs (by rw[hf];exact D) J,hf];exact Fl (fun t y n xs G r a b h1 h2 h3 h4=>z8 d e t y n xs G r a b (by omega) h1 h2 h3 h4) U V _ _ h
   ·cases h
  ·rename_i u ab D
   have z:y=false:=by
    cases y with
    |false=>rfl
    |true=>
     unfold jx at h;unfold bn at v;rw[D]at v;split at h <;>first|(cases h;done)|(simp only at v;cases I:P.info? t <;>rw[I]at v <;>cases v)
   subst z;exact N5 D h Z hb
  ·cases h
def kW{b:BinOp}{t:Nat}{x y:Value}{r:Bool}{z:AV}(hs:gw b r=some z)(he:(Op.equal t x y).run P w=.ok r w)(hx:∀k n,x≠.int k n)(hf:∀k n,x≠.float k n)(hc:∀k n m,x≠.complex k n m)(hst:∀s,x≠.string s):∃u,(binOp b t x y).run P w=.ok u w/\VR M w z u:=by
 cases b <;>simp only[gw]at hs <;>first|(cases hs;done)|skip
 ·cases hs;refine⟨.bool r,?_,.bool _⟩;cases x <;>first|exact absurd rfl (hx _ _)|exact absurd rfl (hf _ _)|exact absurd rfl (hc _ _ _)|exact absurd rfl (hst _)|(simp only[binOp,Sem.run_bind,he,Result.andThen_ok];rfl)
 ·cases hs;refine⟨.bool (!r),?_,.bool _⟩;cases x <;>first|exact absurd rfl (hx _ _)|exact absurd rfl (hf _ _)|exact absurd rfl (hc _ _ _)|exact absurd rfl (hst _)|(simp only[binOp,Sem.run_bind,he,Result.andThen_ok];rfl)
def Fo{b:BinOp}{t:Nat}{x y:Operand}{u v:Value}(h:∀us vs,u=.agg us->v=.agg vs->False)(hn:u=.nilIface->v=.nilIface->(lC x ||lC y)=true):(eqGuard b t x y u v).run P w=.ok () w:=by
 unfold eqGuard;cases b <;>first|rfl|skip
 all_goals
  cases u <;>first|rfl|skip
  ·cases v <;>first|rfl|skip
   have:=hn rfl rfl;unfold lC at this;cases x <;>cases y <;>first|(simp at this;done)|rfl
  ·cases v <;>first|rfl|exact(h _ _ rfl rfl).elim
end
section
variable {P:Program} {w:World} {t e:TypeId} {d:Nat}
def xW(u:P.underlying t=some (.pointer e))(q:Addr):(Op.equal t (.pointer (some q)) (.pointer none)).run P w=.ok false w:=by
 have:∀d,(Op.equalIn (d+1) t (.pointer (some q)) (.pointer none)).run P w=.ok false w:=fun d=>by simp[Op.equalIn,Sem.run_bind,run_underlying u,pure,Sem.run]
 exact this 9999
def IZ(u:P.underlying t=some (.pointer e)):(Op.equal t (.pointer none) (.pointer none)).run P w=.ok true w:=by
 have:∀d,(Op.equalIn (d+1) t (.pointer none) (.pointer none)).run P w=.ok true w:=fun d=>by simp[Op.equalIn,Sem.run_bind,run_underlying u,pure,Sem.run]
 exact this 9999
def IY{v:Array (String×TypeId)}(u:P.underlying t=some (.interface v)):(Op.equal t .nilIface .nilIface).run P w=.ok true w:=by
 have:∀d,(Op.equalIn (d+1) t .nilIface .nilIface).run P w=.ok true w:=fun d=>by simp[Op.equalIn,Sem.run_bind,run_underlying u,pure,Sem.run]
 exact this 9999
def IX{y:Array (String×TypeId)}(u:P.underlying t=some (.interface y))(q:TypeId)(v:Value):(Op.equal t (.iface q v) .nilIface).run P w=.ok false w:=by
 have:∀d,(Op.equalIn (d+1) t (.iface q v) .nilIface).run P w=.ok false w:=fun d=>by simp[Op.equalIn,Sem.run_bind,run_underlying u,pure,Sem.run]
 exact this 9999
def I0(u:P.underlying t=some (.slice e)):(Op.equal t (.slice none 0 0) (.slice none 0 0)).run P w=.ok true w:=by
 have:∀d,(Op.equalIn (d+1) t (.slice none 0 0) (.slice none 0 0)).run P w=.ok true w:=fun d=>by simp[Op.equalIn,Sem.run_bind,run_underlying u,pure,Sem.run]
 exact this 9999
def uU(u:P.underlying t=some (.slice e))(q:Addr)(n c:Nat):(Op.equal t (.slice (some q) n c) (.slice none 0 0)).run P w=.ok false w:=by
 have:∀d,(Op.equalIn (d+1) t (.slice (some q) n c) (.slice none 0 0)).run P w=.ok false w:=fun d=>by simp[Op.equalIn,Sem.run_bind,run_underlying u,pure,Sem.run]
 exact this 9999
end
section
variable {P:Program} {L:Ls} {w:World} {A:Nat->Prop}
def Ke{b:BinOp}{t:Nat}{k:IntKind}{m n:Int}{z:AV}(h:lA b k m n=some z):∃u,(binOp b t (.int k m) (.int k n)).run P w=.ok u w/\VR A w z u:=by
 cases b <;>simp only[lA]at h <;>first|(cases h;done)|skip
 case add=>cases h;exact⟨.int k (k.wrap (m+n)),by simp[binOp,Op.intArith,pure,Sem.run],.int _ _⟩
 case sub=>cases h;exact⟨.int k (k.wrap (m - n)),by simp[binOp,Op.intArith,pure,Sem.run],.int _ _⟩
 case mul=>cases h;exact⟨.int k (k.wrap (m*n)),by simp[binOp,Op.intArith,pure,Sem.run],.int _ _⟩
 case quo=>
  split at h
  ·cases h
  ·rename_i v;cases h;exact⟨.int k (k.wrap (m.tdiv n)),by simp[binOp,Op.intDiv,v,pure,Sem.run],.int _ _⟩
 case rem=>
  split at h
  ·cases h
  ·rename_i v;cases h;exact⟨.int k (m.tmod n),by simp[binOp,Op.intDiv,v,pure,Sem.run],.int _ _⟩
 case shr=>
  split at h
  ·rename_i v;cases h;subst v;refine⟨.int k (m.fdiv 2),?_,.int _ _⟩;cases k <;>rfl
  ·cases h
 case eql=>cases h;exact⟨.bool (decide (m=n)),by simp[binOp,Op.intCmp,pure,Sem.run];try rfl,.bool _⟩
 case neq=>cases h;exact⟨.bool (!decide (m=n)),by simp[binOp,Op.intCmp,pure,Sem.run];try rfl,.bool _⟩
 case lss=>cases h;exact⟨.bool (decide (m <n)),by simp[binOp,Op.intCmp,pure,Sem.run],.bool _⟩
 case leq=>cases h;exact⟨.bool (decide (m<=n)),by simp[binOp,Op.intCmp,pure,Sem.run],.bool _⟩
 case gtr=>cases h;exact⟨.bool (decide (n <m)),by simp[binOp,Op.intCmp,pure,Sem.run],.bool _⟩
 case geq=>cases h;exact⟨.bool (decide (n<=m)),by simp[binOp,Op.intCmp,pure,Sem.run],.bool _⟩
def BD(x y:ByteArray):(x.toList==y.toList)=decide (x=y):=by
 have h:(x.toList=y.toList)↔x=y:=⟨fun h=>by
  rw[ByteArray.toList_eq,ByteArray.toList_eq]at h;cases x;cases y;congr;exact Array.ext' h,fun h=>by rw[h]⟩
 rw[Bool.eq_iff_iff,decide_eq_true_iff,<- h,beq_iff_eq]
def Py{b:BinOp}{t:Nat}{x y:ByteArray}{z:AV}(h:wz b x y=some z):∃u,(binOp b t (.string x) (.string y)).run P w=.ok u w/\VR A w z u:=by
 cases b <;>simp only[wz]at h <;>first|(cases h;done)|skip
 case eql=>cases h;exact⟨.bool (decide (x=y)),by simp only[binOp,Op.stringOp,BD];rfl,.bool _⟩
 case neq=>cases h;exact⟨.bool (!decide (x=y)),by simp only[binOp,Op.stringOp,BD];rfl,.bool _⟩
 case add=>
  split at h
  ·rename_i v;cases h;refine⟨.string (x++y),?_,.str _⟩
   have:¬(((x.size+y.size:Nat):Int)>IntKind.i64.max):=by
    have:IntKind.i64.max=9223372036854775807:=by decide
    rw[this];omega
   simp only[binOp,Op.stringOp,if_neg this];rfl
  ·cases h
def Hc{b:BinOp}{t:Nat}{x y:Operand}{cs ds:List AV}{z:AV}{u v:Value}(h:si P b t cs ds=some z)(hx:VR A w (.agg cs) u)(hy:VR A w (.agg ds) v):∃r,(do eqGuard b t x y u v;binOp b t u v).run P w=.ok r w/\VR A w z r:=by
 unfold si at h;split at h
 ·cases h
 ·rename_i G;split at h
  ·rename_i n J;split at h
   ·rename_i r I
    cases hx with
    |agg _ us hl1 hr1=>
     cases hy with
     |agg _ vs hl2 hr2=>
      have D:=z8 (M:=A) (w:=w) 20 10000 t true n cs ds r _ _ (by decide) J I ⟨us,rfl,hl1,hr1⟩ ⟨vs,rfl,hl2,hr2⟩;obtain⟨q,h1,h2⟩:=kW (M:=A) (w:=w) (t:=t) h (x:=.agg us) (y:=.agg vs) D (fun _ _ h=>by cases h) (fun _ _ h=>by cases h) (fun _ _ _ h=>by cases h) (fun _ h=>by cases h);exact⟨q,by simp only[Sem.run_bind,run_eqGuard_agg w b t x y us vs G,Result.andThen_ok,h1],h2⟩
   ·cases h
  ·cases h
def vU{t:Nat}(h:rC P t=true):∃e,P.underlying t=some (.pointer e):=by
 unfold rC at h;split at h
 ·rename_i e u;exact⟨e,u⟩
 ·cases h
def CZ{t:Nat}(h:vh P t=true):∃e,P.underlying t=some (.interface e):=by
 unfold vh at h;split at h
 ·rename_i e u;exact⟨e,u⟩
 ·cases h
def q_{t:Nat}(h:kI P t=true):∃e,P.underlying t=some (.slice e):=by
 unfold kI at h;split at h
 ·rename_i e u;exact⟨e,u⟩
 ·cases h
def Bo{b:BinOp}{t:Nat}{x y:Operand}{s s':SV}{z:AV}{u v:Value}(h:iw P b t (lC x ||lC y) s s'=some z)(hs:SR A L w s u)(D:SR A L w s' v):∃r,(do eqGuard b t x y u v;binOp b t u v).run P w=.ok r w/\VR A w z r:=by
 have plain:∀{u v:Value},(∀V Z,u=.agg V->v=.agg Z->False)->(u=.nilIface->v=.nilIface->(lC x ||lC y)=true)->(∃r,(binOp b t u v).run P w=.ok r w/\VR A w z r)->∃r,(do eqGuard b t x y u v;binOp b t u v).run P w=.ok r w/\VR A w z r:=fun{u v} h1 h2 ⟨r,h3,h4⟩=>
  ⟨r,by simp only[Sem.run_bind,Fo h1 h2,Result.andThen_ok,h3],h4⟩
 unfold iw at h;split at h
 ·split at h
  ·rename_i e;subst e;obtain rfl:=QT hs;obtain rfl:=QT D;exact plain (fun _ _ h=>by cases h) (fun h=>by cases h) (Ke h)
  ·cases h
 ·rename_i p q;obtain rfl:=kG hs;obtain rfl:=kG D;refine plain (fun _ _ h=>by cases h) (fun h=>by cases h) ?_;split at h
  ·rename_i U;unfold C4 at U;split at U
   ·rename_i G;cases b <;>simp only[Bw]at h <;>first|(cases h;done)|skip
    ·cases h;exact⟨.bool (p==q),run_eql_bool w t p q G,.bool _⟩
    ·cases h;refine⟨.bool (!(p==q)),?_,.bool _⟩;simp only[binOp,Sem.run_bind,run_equal_bool w t p q G,Result.andThen_ok];rfl
   ·cases U
  ·cases h
 ·obtain rfl:=q8 hs;obtain rfl:=q8 D;exact plain (fun _ _ h=>by cases h) (fun h=>by cases h) (Py h)
 ·cases hs with
  |t _ _ hs=>cases D with|t _ _ D=>exact Hc h hs D
 ·obtain⟨J,o,V,rfl,_⟩:=q9 hs;obtain rfl:=nr D;split at h
  ·rename_i I;obtain⟨e,G⟩:=vU I;exact plain (fun _ _ h=>by cases h) (fun h=>by cases h) (kW h (xW G _) (fun _ _ h=>by cases h) (fun _ _ h=>by cases h) (fun _ _ _ h=>by cases h) (fun _ h=>by cases h))
  ·cases h
 ·obtain⟨g,_,rfl⟩:=lB hs;obtain rfl:=nr D;split at h
  ·rename_i I;obtain⟨e,G⟩:=vU I;exact plain (fun _ _ h=>by cases h) (fun h=>by cases h) (kW h (xW G _) (fun _ _ h=>by cases h) (fun _ _ h=>by cases h) (fun _ _ _ h=>by cases h) (fun _ h=>by cases h))
  ·cases h
 ·obtain⟨J,m,c,_,rfl⟩:=pw hs;obtain rfl:=nr D;split at h
  ·rename_i I;obtain⟨e,G⟩:=vU I;exact plain (fun _ _ h=>by cases h) (fun h=>by cases h) (kW h (xW G _) (fun _ _ h=>by cases h) (fun _ _ h=>by cases h) (fun _ _ _ h=>by cases h) (fun _ h=>by cases h))
  ·cases h
 ·obtain rfl:=nr hs;obtain rfl:=nr D;split at h
  ·rename_i I;obtain⟨e,G⟩:=vU I;exact plain (fun _ _ h=>by cases h) (fun h=>by cases h) (kW h (IZ G) (fun _ _ h=>by cases h) (fun _ _ h=>by cases h) (fun _ _ _ h=>by cases h) (fun _ h=>by cases h))
  ·cases h
 ·obtain rfl:=nr hs;obtain rfl:=nr D;split at h
  ·rename_i I;rw[Bool.and_eq_true]at I;obtain⟨e,G⟩:=CZ I.1;exact plain (fun _ _ h=>by cases h) (fun _ _=>I.2) (kW h (IY G) (fun _ _ h=>by cases h) (fun _ _ h=>by cases h) (fun _ _ _ h=>by cases h) (fun _ h=>by cases h))
  ·cases h
 ·obtain rfl:=nr D
  cases hs with
  |t _ _ hs=>
   cases hs with
   |lz tt vv=>
    split at h
    ·rename_i I;obtain⟨e,G⟩:=CZ I;exact plain (fun _ _ h=>by cases h) (fun h=>by cases h) (kW h (IX G _ _) (fun _ _ h=>by cases h) (fun _ _ h=>by cases h) (fun _ _ _ h=>by cases h) (fun _ h=>by cases h))
    ·cases h
 ·cases hs;cases D;split at h
  ·rename_i I;obtain⟨e,G⟩:=q_ I;exact plain (fun _ _ h=>by cases h) (fun h=>by cases h) (kW h (I0 G) (fun _ _ h=>by cases h) (fun _ _ h=>by cases h) (fun _ _ _ h=>by cases h) (fun _ h=>by cases h))
  ·cases h
 ·cases D
  cases hs with
  |t _ _ hs=>
   split at h
   ·rename_i I;obtain⟨e,G⟩:=q_ I
    cases hs with
    |arr J o c=>
     exact plain (fun _ _ h=>by cases h) (fun h=>by cases h) (kW h (uU G _ _ _) (fun _ _ h=>by cases h) (fun _ _ h=>by cases h) (fun _ _ _ h=>by cases h) (fun _ h=>by cases h))
   ·cases h
 ·cases D
  cases hs with
  |nn _ q c hs=>
   split at h
   ·rename_i I;obtain⟨e,G⟩:=q_ I;exact plain (fun _ _ h=>by cases h) (fun h=>by cases h) (kW h (uU G _ _ _) (fun _ _ h=>by cases h) (fun _ _ h=>by cases h) (fun _ _ _ h=>by cases h) (fun _ h=>by cases h))
   ·cases h
 ·cases D
  cases hs with
  |tc _ q hs=>
   split at h
   ·rename_i I;obtain⟨e,G⟩:=q_ I;generalize hn:(List.length (_::_))=n at hs
    cases hs with
    |arr J o c=>
     exact plain (fun _ _ h=>by cases h) (fun h=>by cases h) (kW h (uU G _ _ _) (fun _ _ h=>by cases h) (fun _ _ h=>by cases h) (fun _ _ _ h=>by cases h) (fun _ h=>by cases h))
   ·cases h
 ·cases h
end
section
variable {P:Program} {L:Ls} {w:World} {A:Nat->Prop}
def Eb{x:SV}{v:Value}(hx:du x=true)(h:SR A L w x v):eB v=true:=by
 cases h with
 |t y v h=>cases h <;>first|rfl|(simp[du]at hx;done)|(rename_i h;cases v <;>first|rfl|cases h)
 |nil=>rfl
 |tc=>rfl
 |nn=>rfl
 |lp=>rfl
 |ls i v h u=>exact u
 |lv=>rfl
 |le=>rfl
 |lm=>rfl
 |lo i p t v h z u=>exact u
 |lr=>rfl
 |agg=>simp[du]at hx
 |aN=>simp[du]at hx
 |fn=>rfl
 |aT=>simp[du]at hx
 |no=>simp[du]at hx
 |dead=>simp[du]at hx
def Ey{v:Value}(h:eB v=true):v.cells=#[v]:=by cases v <;>first|rfl|cases h
def qB{x:SV}{v:Value}(h:SR A L w x v)(hp:∀y∈bw x,du y=true):(bw x).length=v.cells.size/\∀(k:Nat) (y:SV) (u:Value),(bw x)[k]?=some y->v.cells[k]?=some u->SR A L w y u:=by
 have one:bw x=[x]->(bw x).length=v.cells.size/\∀(k:Nat) (y:SV) (u:Value),(bw x)[k]?=some y->v.cells[k]?=some u->SR A L w y u:=fun V=>by
  have Z:=Ey (Eb (hp x (by rw[V];simp)) h);rw[V,Z];refine⟨rfl,fun k y u z D=>?_⟩
  match k,z,D with
  |0,z,D=>cases z;cases D;exact h
 cases x with
 |agg U=>cases h with|agg _ us I J=>exact⟨by simp[bw,Value.cells,I],fun k y u z D=>J k y u z D⟩
 |t y=>
  cases y with
  |agg U=>
   cases h with
   |t _ _ h=>
    cases h with
    |agg _ us I J=>
     refine⟨by simp[bw,Value.cells,I],fun k y u z D=>?_⟩;simp only[bw,List.getElem?_map]at z
     cases G:U[k]? with
     |none=>rw[G]at z;cases z
     |some c=>rw[G]at z;cases z;exact .t _ _ (J k c u G D)
  |_=>exact one rfl
 |_=>exact one rfl
def HV{x:SV}{v:Value}(h:SR A L w x v)(hp:∀y∈bw x,du y=true):∀u∈v.cells.toList,eB u=true:=fun u J=>by
 obtain⟨U,I⟩:=qB h hp;obtain⟨k,G,rfl⟩:=List.mem_iff_getElem.1 J;have z:k <v.cells.size:=by simpa using G
 obtain⟨y,D⟩:=am (xs:=bw x) (k:=k) (by omega);exact Eb (hp y (List.mem_of_getElem? D)) (I k y _ D (by simp[z]))
def ib(us:Array Value)(o:Nat):List Value->Array Value
 |[]=>us
 |v::u=>ib (us.setIfInBounds o v) (o+1) u
theorem tG:∀(vs:List Value) (us:Array Value) (o:Nat),(ib us o vs).size=us.size
 |[],_,_=>rfl
 |v::vs,us,o=>by rw[ib,tG vs];simp
theorem zD:∀(xs:List SV) (cs:List SV) (j:Nat),(jM cs j xs).length=cs.length
 |[],_,_=>rfl
 |x::xs,cs,j=>by rw[jM,zD xs];simp
theorem zG:∀(xs:List SV) (vs:List Value) (cs:List SV) (us:Array Value) (j:Nat),xs.length=vs.length->us.size=cs.length->(∀(k:Nat) (x:SV) (u:Value),cs[k]?=some x->us[k]?=some u->SR A L w x u)->(∀(k:Nat) (x:SV) (u:Value),xs[k]?=some x->vs[k]?=some u->SR A L w x u)->
  ∀(k:Nat) (x:SV) (u:Value),(jM cs j xs)[k]?=some x->(ib us j vs)[k]?=some u->SR A L w x u
 |[],[],cs,us,j,_,_,h,_=>h
 |x::xs,v::vs,cs,us,j,G,V,h,J=>by
  refine zG xs vs (cs.set j x) (us.setIfInBounds j v) (j+1) (by simpa using G) (by simp[V]) (fun k y u D z=>?_) fun k y u D z=>J (k+1) y u (by simpa using D) (by simpa using z);by_cases I:j=k
  ·subst I;have U:j <cs.length:=by have:=aC D;simpa using this
   rw[List.getElem?_set_self U]at D;rw[Array.getElem?_setIfInBounds_self_of_lt (by omega)]at z;cases D;cases z;exact J 0 _ _ rfl rfl
  ·rw[List.getElem?_set_ne I]at D;rw[Array.getElem?_setIfInBounds_ne I]at z;exact h k y u D z
 |[],_::_,_,_,_,G,_,_,_=>by simp at G
 |_::_,[],_,_,_,G,_,_,_=>by simp at G
theorem CL:∀(l:List Value) (us:Array Value) (off n:Nat),(l.zipIdx n).foldl (fun cs (p:Value×Nat)=>cs.setIfInBounds (off+p.2) p.1) us=ib us (off+n) l
 |[],_,_,_=>rfl
 |v::l,us,off,n=>by
  rw[List.zipIdx_cons,List.foldl_cons,CL l,ib,Nat.add_assoc]
theorem u3{z:Nat->Option (Nat×Nat)}:∀(V:List (Nat×SV)) (vs:List (Nat×Value)) (cs D:List SV) (us:Array Value),pq z cs V=some D->V.length=vs.length->us.size=cs.length->(∀(k:Nat) (x:SV) (u:Value),cs[k]?=some x->us[k]?=some u->SR A L w x u)->
  (∀(k:Nat) (p:Nat×SV) (q:Nat×Value),V[k]?=some p->vs[k]?=some q->p.1=q.1/\(bw p.2).length=q.2.cells.size/\∀(j:Nat) (y:SV) (u:Value),(bw p.2)[j]?=some y->q.2.cells[j]?=some u->SR A L w y u)->
  ∃I,Instr.fill z us vs=some I/\I.size=D.length/\∀(k:Nat) (x:SV) (u:Value),D[k]?=some x->I[k]?=some u->SR A L w x u
 |[],[],cs,D,us,h,_,Z,hr,_=>by
  cases h;exact⟨us,rfl,Z,hr⟩
 |(i,x)::V,(j,v)::vs,cs,D,us,h,U,Z,hr,hp=>by
  obtain⟨h1,h2,h3⟩:=hp 0 (i,x) (j,v) rfl rfl;simp only at h1 h2 h3;subst h1;unfold pq at h
  cases J:z i with
  |none=>rw[J]at h;cases h
  |some q=>
   obtain⟨off,size⟩:=q;rw[J]at h;simp only at h;split at h
   ·rename_i hc;obtain⟨I,e1,e2,e3⟩:=u3 V vs (jM cs off (bw x)) D (ib us off v.cells.toList) h (by simpa using U) (by rw[tG,zD,Z]) (zG _ _ _ _ _ (by simp;omega) Z hr fun k y u hy ag=>h3 k y u hy (by simpa using ag)) fun k p q ab ad=>hp (k+1) p q (by simpa using ab) (by simpa using ad);refine⟨I,?_,e2,e3⟩;unfold Instr.fill;rw[J];simp only;have G:(v.cells.size≠size ||off+v.cells.size>us.size)=false:=by simp;omega
    rw[if_neg (by rw[<- Bool.not_eq_true]at G;simpa using G)];rw[<- e1];congr 1;have:=CL v.cells.toList us off 0;rw[Nat.add_zero]at this;rw[<- this,<- Array.foldl_toList,Array.toList_zipIdx]
   ·cases h
 |[],_::_,_,_,_,_,U,_,_,_=>by simp at U
 |_::_,[],_,_,_,_,U,_,_,_=>by simp at U
def HB{t:Nat}{Z:List (Nat×SV)}{cs:List SV}(hb:uF P t Z=some cs){vs:List (Nat×Value)}(hl:Z.length=vs.length)
  (hp:∀(k:Nat) (p:Nat×SV) (q:Nat×Value),Z[k]?=some p->vs[k]?=some q->p.1=q.1/\(bw p.2).length=q.2.cells.size/\∀(j:Nat) (y:SV) (u:Value),(bw p.2)[j]?=some y->q.2.cells[j]?=some u->SR A L w y u):
  ∃us,P.built t vs=some us/\us.size=cs.length/\∀(k:Nat) (x:SV) (u:Value),cs[k]?=some x->us[k]?=some u->SR A L w x u:=by
 unfold uF at hb
 cases v:nM P t with
 |none=>rw[v]at hb;cases P.underlying t <;>simp at hb
 |some zs=>
  have ad:=v;unfold nM at v
  cases hi:P.info? t with
  |none=>rw[hi]at v;cases v
  |some i=>
   rw[hi,Option.bind_some]at v
   cases G:i.zero with
   |none=>rw[G]at v;cases v
   |some z=>
    rw[G]at v;cases v
    have V:∀(k:Nat) (x:SV) (u:Value),(z.cells.toList.map cv)[k]?=some x->z.cells[k]?=some u->SR A L w x u:=fun k x u hx U=>by
     rw[List.getElem?_map,Array.getElem?_toList,U]at hx;cases hx;exact j6 u
    rw[ad]at hb
    cases U:P.underlying t with
    |none=>rw[U]at hb;cases hb
    |some d=>
     rw[U]at hb;unfold Program.built;rw[hi,U]
     cases d with
     |struct D=>
      simp only at hb⊢
      cases J:D.toList.mapM (fun f=>(P.info? f.type).map fun i=>(f.offset,i.size))with
      |none=>rw[J]at hb;cases hb
      |some ab=>
       rw[J]at hb;simp only[G]at hb⊢;exact u3 Z vs _ cs z.cells hb hl (by simp) V hp
     |array n e=>
      simp only at hb⊢
      cases I:P.info? e with
      |none=>rw[I]at hb;cases hb
      |some ie=>
       rw[I]at hb;simp only[G]at hb⊢;exact u3 Z vs _ cs z.cells hb hl (by simp) V hp
     |_=>simp at hb
theorem BM{sz:Nat}:∀{n:Nat} {cs:List SV} {es:List (List AV)},sw sz n cs=some es->es.length=n/\cs.length=n*sz/\(∀(k:Nat) (xs:List AV),es[k]?=some xs->xs.length=sz)/\∀(k j:Nat) (xs:List AV) (x:AV) (s:SV) (v:Value),es[k]?=some xs->xs[j]?=some x->cs[k*sz+j]?=some s->SR A L w s v->VR A w x v
 |0,[],es,h=>by cases h;exact⟨rfl,by simp,fun k xs h=>by simp at h,fun k j xs x s v h _=>by simp at h⟩
 |0,_::_,es,h=>by cases h
 |n+1,cs,es,h=>by
  unfold sw at h;split at h
  ·rename_i xs Z;split at h
   ·rename_i V
    cases y:sw sz n (cs.drop sz)with
    |none=>rw[y]at h;cases h
    |some I=>
     rw[y]at h;cases h;obtain⟨h1,h2,h3,h4⟩:=BM y;obtain⟨p1,p2⟩:=rD (A:=A) (L:=L) (w:=w) Z;have J:sz<=cs.length:=by rw[List.length_take]at p1;omega
     refine⟨by simp[h1],by rw[List.length_drop]at h2;rw[Nat.add_mul];omega,fun k D u=>?_,fun k j D x s v u z hs G=>?_⟩
     ·cases k with
      |zero=>cases u;exact V
      |succ k=>exact h3 k D (by simpa using u)
     ·cases k with
      |zero=>
       cases u;have U:=aC z;refine p2 j s x v ?_ z G;rw[List.getElem?_take,if_pos (by omega)];simpa using hs
      |succ k=>
       refine h4 k j D x s v (by simpa using u) z ?_ G;rw[List.getElem?_drop,<- hs];congr 1;rw[Nat.add_mul];omega
   ·cases h
  ·cases h
def rH{t e sz u:Nat}(h:eQ P t=some (e,sz,u)):∃i z,P.underlying t=some (.slice e)/\P.info? e=some i/\i.zero=some z/\i.size=sz/\i.bytes=u/\z.cells.size=sz/\0 <sz:=by
 unfold eQ at h;split at h
 ·rename_i G I
  cases v:P.info? G with
  |none=>rw[v]at h;cases h
  |some i=>
   rw[v]at h;simp only at h
   cases y:i.zero with
   |none=>rw[y]at h;cases h
   |some z=>
    rw[y]at h;simp only at h;split at h
    ·rename_i D;cases h;exact⟨i,z,I,v,y,rfl,rfl,D.1,D.2⟩
    ·cases h
 ·cases h
def BB{t len:Nat}{sp:List (Nat×SV)}{vs:List (Nat×Value)}{es:List (List AV)}(hb:sn P t len sp=some es)(hl:sp.length=vs.length)
  (hp:∀(k:Nat) (p:Nat×SV) (q:Nat×Value),sp[k]?=some p->vs[k]?=some q->p.1=q.1/\(bw p.2).length=q.2.cells.size/\∀(j:Nat) (y:SV) (u:Value),(bw p.2)[j]?=some y->q.2.cells[j]?=some u->SR A L w y u):
  ∃(e sz:Nat) (us:Array Value),(Instr.buildSlice t len vs.toArray).run P w=.ok (.slice (some ⟨w.heap.size,0,none⟩) len len) (w.alloc (.cells us e))/\0 <sz/\len<=16777216/\us.size=len*sz/\es.length=len/\(∀(k:Nat) (cs:List AV),es[k]?=some cs->cs.length=sz)/\
   ∀(k j:Nat) (cs:List AV) (x:AV),es[k]?=some cs->cs[j]?=some x->∃u,us[k*sz+j]?=some u/\VR A w x u:=by
 unfold sn at hb;split at hb
 ·rename_i e hu;split at hb
  ·rename_i v hi;split at hb
   ·rename_i z hz;split at hb
    ·rename_i hc
     cases hf:pq (fun k=>some (k*v.size,v.size)) ((List.range (len*v.size)).map fun q=>cv (z.cells.getD (q %v.size) undef)) sp with
     |none=>rw[hf]at hb;cases hb
     |some cs=>
      rw[hf]at hb;obtain⟨c1,c2,c3,c4⟩:=BM (A:=A) (L:=L) (w:=w) hb;have ag:=hc.1;have G:=hc.2.1
      obtain⟨us,J,f2,f3⟩:=u3 (A:=A) (L:=L) (w:=w) sp vs _ cs ((Array.range (len*v.size)).map (z.cells[· %z.cells.size]!)) hf hl (by simp) (fun k x u hx ab=>by
       rw[List.getElem?_map]at hx
       cases hr:(List.range (len*v.size))[k]? with
       |none=>rw[hr]at hx;cases hx
       |some q=>
        rw[hr]at hx;cases hx;have I:k <len*v.size:=by have:=aC hr;simpa using this
        rw[List.getElem?_range I]at hr;cases hr;have D:k %v.size <z.cells.size:=by rw[ag];exact Nat.mod_lt _ G
        simp[I,ag]at ab;rw[<- ab]
        have e1:z.cells.getD (k %v.size) undef=z.cells[k %v.size]!:=by
         rw[Array.getD_eq_getD_getElem?,Array.getElem?_eq_getElem D,getElem!_pos z.cells _ D];rfl
        show SR A L w (cv (z.cells.getD (k %v.size) undef)) _
        rw[e1];exact j6 _) hp
      have ad:len<=16777216:=by
       have:len*1<=len*v.size:=Nat.mul_le_mul_left _ G;omega
      refine⟨e,v.size,us,?_,G,ad,by rw[f2,c2],c1,c3,fun k j xs x I hj=>?_⟩
      ·have U:¬(len*v.size>2^24):=by have:=hc.2.2;omega
       generalize hZ:((Array.range (len*v.size)).map (z.cells[· %z.cells.size]!))=Z at J;by_cases h0:len*v.size=0
       ·have an:(Array.range (len*v.size)).map (fun x=>((#[]:Array Value)[x % (#[]:Array Value).size]!))=Z:=by rw[<- hZ,h0];simp
        unfold Instr.buildSlice;simp only[Sem.run_bind,run_underlying hu,Result.andThen_ok,jO hi,if_neg U,if_pos h0,Sem.run_pure,an,List.map_toArray,Array.toList_map,J];simp[J,newRow,newObj,Sem.run_bind,pure,Sem.run]
       ·unfold Instr.buildSlice;simp only[Sem.run_bind,run_underlying hu,Result.andThen_ok,jO hi,if_neg U,if_neg h0,Sem.run_pure,Ac hi hz,hZ,Array.toList_map,J];simp[J,newRow,newObj,Sem.run_bind,pure,Sem.run]
      ·have al:=aC I;have ao:j <v.size:=by rw[<- c3 k xs I];exact aC hj
       have D:k*v.size+j <us.size:=by
        rw[f2,c2,<- c1];have:(k+1)*v.size<=es.length*v.size:=Nat.mul_le_mul_right _ al;rw[Nat.add_mul]at this;omega
       have V:k*v.size+j <cs.length:=by rw[<- f2];exact D
       exact⟨us[k*v.size+j],Array.getElem?_eq_getElem D,c4 k j xs x _ _ I hj (List.getElem?_eq_getElem V) (f3 _ _ _ (List.getElem?_eq_getElem V) (Array.getElem?_eq_getElem D))⟩
    ·cases hb
   ·cases hb
  ·cases hb
 ·cases hb
end
section
variable {P:Program} {A:Nat->Prop} {L:Ls} {w:World}
def Bz{x:Option SV}{u:Option Value}{d y r:Nat}(h:eI x d y=some r)(G:∀s,x=some s->∃v,u=some v/\SR A L w s v)(hn:x=none->u=none):(u=none/\r=d)\/∃k m,u=some (.int k m)/\0<=m/\m<=y/\r=m.toNat/\r<=y:=by
 unfold eI at h;split at h
 ·cases h;exact .inl ⟨hn rfl,rfl⟩
 ·rename_i k m;obtain⟨v,rfl,I⟩:=G _ rfl;obtain rfl:=QT I;split at h
  ·rename_i z;cases h;rw[Bool.and_eq_true,Nat.ble_eq]at z;have D:0<=m:=of_decide_eq_true z.1;exact .inr ⟨k,m,rfl,D,by omega,rfl,z.2⟩
  ·cases h
 ·cases h
def xJ{lo hi:Option SV}{ul uh:Option Value}{n l h:Nat}(hc:lj lo hi n=some (l,h))(h1:∀s,lo=some s->∃v,ul=some v/\SR A L w s v)(h2:lo=none->ul=none)(h3:∀s,hi=some s->∃v,uh=some v/\SR A L w s v)(h4:hi=none->uh=none){b:Bool}{c:Nat}(ab:n<=c):
  (Instr.sliceBounds b n c ul uh none).run P w=.ok (l,h,c) w/\l<=h/\h<=n:=by
 unfold lj at hc;split at hc
 ·cases hc
 ·rename_i h' hh;split at hc
  ·cases hc
  ·rename_i l' hl;cases hc;have u:∀{y:Nat},y=h->((ul=none/\l=0)\/∃k m,ul=some (.int k m)/\0<=m/\m<=y/\l=m.toNat/\l<=y):=fun e=>by subst e;exact Bz hl h1 h2
   rcases Bz hh h3 h4 with⟨rfl,rfl⟩|⟨k,m,rfl,z,m1,rfl,U⟩
   ·rcases u rfl with⟨rfl,rfl⟩|⟨k',J,rfl,D,Z,rfl,I⟩
    ·exact⟨by simp[Instr.sliceBounds,Sem.run_bind,pure,Sem.run],by omega,Nat.le_refl _⟩
    ·exact⟨by simp[Instr.sliceBounds,Sem.run_bind,run_sliceBound,D,Z,pure,Sem.run],I,Nat.le_refl _⟩
   ·have V:m<=(c:Int):=by omega
    rcases u rfl with⟨rfl,rfl⟩|⟨k',J,rfl,D,Z,rfl,I⟩
    ·exact⟨by simp[Instr.sliceBounds,Sem.run_bind,run_sliceBound,z,V,pure,Sem.run],by omega,U⟩
    ·have G:J<=m:=by omega
     exact⟨by simp[Instr.sliceBounds,Sem.run_bind,run_sliceBound,z,V,D,G,Int.toNat_of_nonneg z,pure,Sem.run],I,U⟩
def Bl{es:List (List AV)}{a:Option Addr}{n c l h:Nat}(hv:VR A w (.arr es) (.slice a n c))(hlh:l<=h)(hn:h<=n){S:Nat}(U:pW S es=true):
  VR A w (.arr ((es.take h).drop l)) (.slice (if c=l then a else a.map (·.add (l*S))) (h - l) (c - l)):=by
 rcases Nat.eq_zero_or_pos (h - l)with J|J
 ·have:(es.take h).drop l=[]:=List.drop_eq_nil_of_le (by rw[List.length_take];omega);rw[this,J];exact .bS _ _
 ·cases hv with
  |bS=>omega
  |arr b o _ sz _ us hne hlen hcap hb hM hs hc hr=>
   have I:sz=S:=by
    obtain⟨Z,V⟩:=am (xs:=es) (k:=0) (by cases es with|nil=>exact absurd rfl hne|cons=>simp);rw[<- hs 0 Z V]
    cases es with
    |nil=>exact absurd rfl hne
    |cons e1 es=>cases V;unfold pW at U;simpa using U
   subst I;have D:((es.take h).drop l).length=h - l:=by rw[List.length_drop,List.length_take];omega
   have y:∀(k:Nat) (v:List AV),((es.take h).drop l)[k]?=some v->es[l+k]?=some v/\k <h - l:=fun k v u=>by
    have z:=aC u;rw[List.getElem?_drop,List.getElem?_take]at u;rw[D]at z;rw[if_pos (by omega)]at u;exact⟨u,z⟩
   rw[if_neg (by omega),<- D];simp only[Option.map_some,iv];refine .arr b (o+l*sz) (c - l) sz _ (fun k j=>us (l+k) j) (fun e=>by rw[e]at D;simp at D;omega) (by omega) (by omega) hb hM (fun k v u=>hs _ _ (y k v u).1) (fun k j u G=>?_) (fun k j v x u G=>hr _ _ _ _ (y k v u).1 G);have:=hc (l+k) j (by omega) G;rwa[Nat.add_mul,Nat.add_assoc,<- Nat.add_assoc o,Nat.add_assoc,<- Nat.add_assoc]at this
def P5{x:SV}{es:List (List AV)}{v:Value}(h:tW x=some es)(hv:SR A L w x v):VR A w (.arr es) v:=by
 unfold tW at h;split at h <;>cases h
 ·exact gy hv (.inl rfl)
 ·exact gy hv (.inr (.inl rfl))
 ·exact gy hv (.inr (.inr (.inl rfl)))
 ·exact gy hv (.inr (.inr (.inr ⟨rfl,rfl⟩)))
def Pk{t:Nat}{s x:SV}{lo hi mx:Option SV}{v:Value}{ul uh um:Option Value}(h:oO P t s lo hi mx=some x)(hs:SR A L w s v)(h1:∀s,lo=some s->∃v,ul=some v/\SR A L w s v)(h2:lo=none->ul=none)(h3:∀s,hi=some s->∃v,uh=some v/\SR A L w s v)(h4:hi=none->uh=none)(h5:mx=none->um=none):
  ∃y,(Instr.sliceAt t v ul uh um).run P w=.ok y w/\SR A L w x y:=by
 unfold oO at h;split at h
 ·cases h
 ·obtain rfl:=h5 rfl;split at h
  ·rename_i str;obtain rfl:=q8 hs;split at h
   ·cases h
   ·rename_i u;unfold mr at u;split at u
    ·rename_i Z;split at h
     ·rename_i l r D;cases h;obtain⟨z,_,_⟩:=xJ (P:=P) D h1 h2 h3 h4 (b:=false) (Nat.le_refl _);exact⟨_,by simp[Instr.sliceAt,Instr.slice,Sem.run_bind,run_underlying Z,z,pure,Sem.run],.t _ _ (.str _)⟩
     ·cases h
    ·cases u
  ·split at h
   ·cases h
   ·rename_i e sz u;obtain⟨i,Z,hi,rfl⟩:=uS u;split at h
    ·cases h
    ·rename_i es V;have hv:=P5 V hs;split at h
     ·cases h
     ·rename_i J;split at h
      ·rename_i l r D;cases h
       obtain⟨a,c,rfl,G⟩:∃a c,v=.slice a es.length c/\es.length<=c:=by
        cases hv with
        |bS a c=>exact⟨a,c,rfl,Nat.zero_le _⟩
        |arr b o c _ _ _ _ _ hcap=>exact⟨_,c,rfl,hcap⟩
       obtain⟨z,I,U⟩:=xJ (P:=P) D h1 h2 h3 h4 (b:=true) G;exact⟨_,by simp[Instr.sliceAt,Instr.slice,Sem.run_bind,run_underlying Z,z,jO hi,pure,Sem.run],.t _ _ (Bl hv I U J)⟩
      ·cases h
def Fs{t e sz n c l h:Nat}{q:Option Addr}{lo hi:Option SV}{ul uh:Option Value}(ht:eZ P t=some (e,sz))(hc:lj lo hi n=some (l,h))(y:n<=c)(h1:∀s,lo=some s->∃v,ul=some v/\SR A L w s v)(h2:lo=none->ul=none)(h3:∀s,hi=some s->∃v,uh=some v/\SR A L w s v)(h4:hi=none->uh=none):
  (Instr.sliceAt t (.slice q n c) ul uh none).run P w=.ok (.slice (if c=l then q else q.map (·.add (l*sz))) (h - l) (c - l)) w/\l<=h/\h<=n:=by
 obtain⟨i,G,hi,rfl⟩:=uS ht;obtain⟨D,u,z⟩:=xJ (P:=P) hc h1 h2 h3 h4 (b:=true) y;exact⟨by simp[Instr.sliceAt,Instr.slice,Sem.run_bind,run_underlying G,D,jO hi,pure,Sem.run],u,z⟩
def GI{t e r sz a n len b c:Nat}{x:SV}{lo hi:Option SV}{ul uh:Option Value}(ht:eZ P t=some (e,sz))(h:jg r sz a n len lo hi=some x)(V:L r=some (.slice (some ⟨b,0,none⟩) len c))(Z:len<=c)(ab:a+n<=len)(h1:∀s,lo=some s->∃v,ul=some v/\SR A L w s v)(h2:lo=none->ul=none)(h3:∀s,hi=some s->∃v,uh=some v/\SR A L w s v)(h4:hi=none->uh=none):
  ∃y,(Instr.sliceAt t (.slice (some ⟨b,a*sz,none⟩) n (c - a)) ul uh none).run P w=.ok y w/\SR A L w x y:=by
 unfold jg at h;split at h
 ·rename_i l u hc;obtain⟨G,ad,ag⟩:=Fs (q:=some ⟨b,a*sz,none⟩) (c:=c - a) ht hc (by omega) h1 h2 h3 h4;refine⟨_,G,?_⟩;split at h
  ·rename_i D;rw[Bool.and_eq_true,Nat.beq_eq,Nat.beq_eq]at D;cases h;obtain rfl:a=0:=by omega
   obtain rfl:l=0:=by omega
   obtain rfl:u=len:=D.2
   have e:(Value.slice (if c - 0=0 then some ⟨b,0*sz,none⟩else(some ⟨b,0*sz,none⟩:Option Addr).map (·.add (0*sz))) (u - 0) (c - 0 - 0))=.slice (some ⟨b,0,none⟩) u c:=by
    simp[iv]
   rw[e];exact .ls _ _ V rfl
  ·rename_i D;split at h
   ·rename_i z;rw[Bool.and_eq_true,Nat.beq_eq]at z;cases h;rw[z.1];exact .t _ _ (.bS _ _)
   ·rename_i z;cases h
    have I:¬(c - a=l):=fun e=>by
     have D:¬(a+l=0/\u=len):=fun⟨J,U⟩=>by simp[J,U]at D
     have z:¬(u - l=0/\0 <a+l):=fun⟨J,U⟩=>by rw[J,show Nat.blt 0 (a+l)=true from by rw[Nat.blt_eq];exact U]at z;exact absurd z (by decide)
     omega
    rw[if_neg I];simp only[Option.map_some,iv];rw[<- Nat.add_mul,Nat.sub_sub];exact .lv r sz (a+l) (u - l) b len c V
 ·cases h
def Pj{γ:Glob}{κ:Ctx}{fr:Fr}{t:Nat}{s x:SV}{lo hi mx:Option SV}{v:Value}{ul uh um:Option Value}(hC:ar γ κ fr L w)(h:ww P fr t s lo hi mx=some x)(hs:SR (MA κ.M fr L) L w s v)(h1:∀s,lo=some s->∃v,ul=some v/\SR (MA κ.M fr L) L w s v)(h2:lo=none->ul=none)(h3:∀s,hi=some s->∃v,uh=some v/\SR (MA κ.M fr L) L w s v)(h4:hi=none->uh=none)(h5:mx=none->um=none)(h6:∀s,mx=some s->∃v,um=some v/\SR (MA κ.M fr L) L w s v):
  ∃y,(Instr.sliceAt t v ul uh um).run P w=.ok y w/\SR (MA κ.M fr L) L w x y:=by
 unfold ww at h;split at h
 ·split at h
  ·cases h
  ·rename_i m e sz ht;split at h
   ·rename_i r kl l kh Z km mm;split at h
    ·rename_i ro ag G U V;split at h
     ·rename_i D;cases h;simp only[Bool.and_eq_true,decide_eq_true_eq]at D;obtain⟨_,z1,z2,z3,z4⟩:=D;obtain⟨J,_⟩:=kH hs;obtain⟨T,us,z,_,⟨q,c,rfl⟩,_⟩:=fR hC V J;obtain⟨v1,rfl,w1⟩:=h1 _ rfl;obtain rfl:=QT w1;obtain⟨v2,rfl,w2⟩:=h3 _ rfl;obtain rfl:=QT w2;obtain⟨v3,rfl,w3⟩:=h6 _ rfl;obtain rfl:=QT w3
      have u:(mm:Int)<=c:=by
       rcases z with⟨I,_⟩|z
       ·omega
       ·rcases z.2 with⟨e,I⟩|⟨_,_,_,e,_,_,u,_⟩
        ·omega
        ·cases e;omega
      obtain⟨i,hu,hi,rfl⟩:=uS ht;have m0:0<=mm:=by omega
      have b1:Z<=((mm.toNat:Nat):Int):=by omega
      have b2:l<=((Z.toNat:Nat):Int):=by omega
      have p0:0<=Z:=by omega
      exact⟨_,by simp[Instr.sliceAt,Instr.slice,Sem.run_bind,run_underlying hu,Instr.sliceBounds,run_sliceBound,m0,u,p0,z1,z2,z3,Int.toNat_of_nonneg m0,Int.toNat_of_nonneg p0,jO hi,pure,Sem.run];rfl,.dead _⟩
     ·cases h
    ·cases h
   ·cases h
 ·obtain rfl:=h5 rfl;split at h
  ·cases h
  ·rename_i e sz ht;split at h
   ·rename_i r;split at h
    ·rename_i ro ag G U V;split at h
     ·rename_i D;obtain rfl:sz=G:=by simpa using D
      obtain⟨J,_⟩:=kH hs;obtain⟨T,us,z,_,⟨q,c,rfl⟩,_⟩:=fR hC V J;rcases Nat.eq_zero_or_pos U.length with I|I
      ·unfold jg at h;split at h
       ·rename_i l Z hc;have u:U.length<=c:=by omega
        obtain⟨ab,an,ao⟩:=Fs (q:=q) (c:=c) ht hc u h1 h2 h3 h4;refine⟨_,ab,?_⟩;obtain rfl:l=0:=by omega
        obtain rfl:Z=0:=by omega
        simp only[I]at h;cases h
        have e:(Value.slice (if c=0 then q else q.map (·.add (0*sz))) (0 - 0) (c - 0))=.slice q U.length c:=by
         rw[I]
         cases q with
         |none=>simp
         |some ad=>
          obtain⟨b,o,p⟩:=ad;simp[Addr.add]
        rw[e];exact .ls _ _ J rfl
       ·cases h
      ·rcases(z.own I).2 with⟨e,D⟩|⟨b,cap,al,e,_,_,u,_⟩
       ·omega
       ·cases e;have:=GI (a:=0) (n:=U.length) ht h J u (by omega) h1 h2 h3 h4;rw[Nat.zero_mul,Nat.sub_zero]at this;exact this
     ·cases h
    ·cases h
   ·rename_i r eD a n;split at h
    ·rename_i ro ag G U V;split at h
     ·rename_i D;rw[Bool.and_eq_true,Bool.and_eq_true,Nat.ble_eq]at D;obtain rfl:sz=G:=by simpa using D.1
      obtain rfl:eD=sz:=by simpa using D.2.1
      obtain⟨b,m,c,J,rfl⟩:=ns hs;obtain⟨T,us,z,_,⟨q,c',hv⟩,_⟩:=fR hC V J;cases hv
      have u:U.length<=c:=by
       rcases z with⟨I,_⟩|z
       ·omega
       ·rcases z.2 with⟨e,I⟩|⟨_,_,_,e,_,_,u,_⟩
        ·omega
        ·cases e;exact u
      exact GI ht h J u D.2.2 h1 h2 h3 h4
     ·cases h
    ·cases h
   ·cases h
def tC{env:Env}{a:Act}{ops:List Operand}(u:∀y∈ops,SR A L w (rd env y) (a.eval y))(o:Option Operand)(ho:∀q,o=some q->q∈ops):∀s,o.map (rd env)=some s->∃v,o.map a.eval=some v/\SR A L w s v:=fun s hs=>by
 cases o with
 |none=>cases hs
 |some q=>cases hs;exact⟨_,rfl,u q (ho q rfl)⟩
def rz{env:Env}{a:Act}(o:Option Operand)(h:o.map (rd env)=none):o.map a.eval=none:=by
 cases o with
 |none=>rfl
 |some q=>cases h
end
section
variable {P:Program} {w:World} {γ:Glob} {κ:Ctx} {fr:Fr} {L:Ls}
def Hs{b:BinOp}{t:Nat}{x y:Operand}{s s':SV}{z:AV}{u v:Value}(hC:ar γ κ fr L w)(h:qx P fr b t s s'=some z)(hs:SR (MA κ.M fr L) L w s u)(D:SR (MA κ.M fr L) L w s' v):∃r,(do eqGuard b t x y u v;binOp b t u v).run P w=.ok r w/\VR (MA κ.M fr L) w z r:=by
 have fin:∀{q:Addr} {n c e:Nat},P.underlying t=some (.slice e)->gw b false=some z->u=.slice (some q) n c->v=.slice none 0 0->∃r,(do eqGuard b t x y u v;binOp b t u v).run P w=.ok r w/\VR (MA κ.M fr L) w z r:=fun{q n c e} G h U V=>by
  subst U V;obtain⟨r,h3,h4⟩:=kW (M:=MA κ.M fr L) h (uU G q n c) (fun _ _ h=>by cases h) (fun _ _ h=>by cases h) (fun _ _ _ h=>by cases h) (fun _ h=>by cases h);exact⟨r,by simp only[Sem.run_bind,Fo (x:=x) (y:=y) (b:=b) (t:=t) (u:=.slice (some q) n c) (v:=.slice none 0 0) (fun _ _ h=>by cases h) (fun h=>by cases h),Result.andThen_ok,h3],h4⟩
 unfold qx at h;split at h
 ·rename_i i;cases D;split at h
  ·rename_i J;obtain⟨e,G⟩:=q_ J;split at h
   ·rename_i ro ad sz e0 et hb;obtain⟨hL,_⟩:=kH hs;obtain⟨T,us,I,_,⟨q,c,rfl⟩,_⟩:=fR hC hb hL;rcases(I.own (by simp)).2 with⟨e,hz⟩|⟨Z,cap,ab,e,_⟩
    ·simp at hz
    ·exact fin G h e rfl
   ·cases h
  ·cases h
 ·cases D;split at h
  ·rename_i J;obtain⟨e,G⟩:=q_ J;obtain⟨Z,m,c,_,rfl⟩:=ns hs;exact fin G h rfl rfl
  ·cases h
 ·cases h
end
section
variable {P:Program} {A:Nat->Prop} {L:Ls} {w:World} {γ:Glob} {κ:Ctx} {fr:Fr}
def Cf{d:TypeDesc}{x y:AV}{b:Bool}{u v:Value}(h:jx d [x] [y]=some b)(G:VR A w x u)(hv:VR A w y v):Instr.sameNow d u v=some b:=by
 unfold jx at h;split at h
 ·rename_i z D;cases z;cases D;cases G;cases hv;split at h
  ·rename_i I;cases h;simp[Instr.sameNow,I];rfl
  ·cases h
 ·rename_i z D;cases z;cases D;cases G;cases hv;cases h;rfl
 ·rename_i z D;cases z;cases D;cases G;cases hv;cases h;rfl
 ·cases h
theorem qO{d:TypeDesc}{k:AV}{u:Value}(z:VR A w k u):∀(ks:List AV) (es:List MapEntry) (i:Nat) (r:Option Nat),ks.length=es.length->(∀(j:Nat) (x:AV) (e:MapEntry),ks[j]?=some x->es[j]?=some e->VR A w x e.key)->dW d k ks i=some r->
  (r=none/\Instr.findNow d u es i=some none)\/∃j e,r=some (i+j)/\es[j]?=some e/\Instr.findNow d u es i=some (some (i+j,e.val))/\∃x,ks[j]?=some x/\jx d [k] [x]=some true
 |[],[],i,r,_,_,h=>by unfold dW at h;cases h;exact .inl ⟨rfl,rfl⟩
 |[],_::_,_,_,v,_,_=>by simp at v
 |_::_,[],_,_,v,_,_=>by simp at v
 |x::ks,e::es,i,r,v,D,h=>by
  unfold dW at h;have I:=D 0 x e rfl rfl;split at h
  ·rename_i y;cases h;refine .inr ⟨0,e,rfl,rfl,?_,x,rfl,y⟩;unfold Instr.findNow;rw[Cf y z I];rfl
  ·rename_i y
   have G:Instr.findNow d u (e::es) i=Instr.findNow d u es (i+1):=by
    conv=>lhs;unfold Instr.findNow
    rw[Cf y z I]
   rcases qO z ks es (i+1) r (by simpa using v) (fun j x e h1 h2=>D (j+1) x e h1 h2) h with⟨h1,h2⟩|⟨j,J,h1,h2,h3,h4⟩
   ·exact .inl ⟨h1,G.trans h2⟩
   ·have U:i+1+j=i+(j+1):=by omega
    rw[U]at h1 h3;exact .inr ⟨j+1,J,h1,h2,G.trans h3,h4⟩
  ·cases h
def yV{t e:Nat}{d:TypeDesc}(h:nx P t=some (e,d)):∃k,P.underlying t=some (.map k e)/\P.underlying k=some d/\tg d=true:=by
 unfold nx at h;split at h
 ·rename_i k z v;split at h
  ·rename_i y hd;split at h
   ·rename_i u;cases h;exact⟨k,v,hd,u⟩
   ·cases h
  ·cases h
 ·cases h
def Fj{k:Nat}{d:TypeDesc}(hk:P.underlying k=some d)(hl:tg d=true)(b:Bool)(v:Value)(n:Nat):(Instr.checkKey b (n+1) k v).run P w=.ok () w:=by
 unfold Instr.checkKey;rw[Sem.run_bind,run_underlying hk,Result.andThen_ok];cases d <;>first|(cases hl;done)|rfl
def run_checkKey{k:Nat}{d:TypeDesc}(hk:P.underlying k=some d)(hl:tg d=true)(b:Bool)(v:Value):(Instr.checkKey b 10000 k v).run P w=.ok () w:=Fj hk hl b v 9999
def run_findKey{k:Nat}{d:TypeDesc}(hk:P.underlying k=some d){v:Value}{es:List MapEntry}{r:Option (Nat×Value)}(h:Instr.findNow d v es 0=some r):(Instr.findKey k v es).run P w=.ok r w:=by
 unfold Instr.findKey;rw[Sem.run_bind,run_underlying hk,Result.andThen_ok];simp only[h];rfl
def QI(v:Value):SR A L w (AQ v) v:=by
 unfold AQ;split
 ·rename_i D;refine uw (.agg _ _ (by simp) fun j x u y z=>?_);rw[List.getElem?_map,Array.getElem?_toList,z]at y;cases y;exact j6 u
 ·exact j6 _
def GZ{e:Nat}{z:SV}(h:ug P e=some z):∃v,(zeroValue e).run P w=.ok v w/\SR A L w z v:=by
 unfold ug at h;split at h
 ·rename_i i u;split at h
  ·rename_i z y;cases h;exact⟨z,Ac u y w,QI z⟩
  ·cases h
 ·cases h
def DG{x:SV}{ks:List AV}{vs:List SV}{v:Value}(V:ar γ κ fr L w)(h:mapOf fr x=some (ks,vs))(hx:SR (MA κ.M fr L) L w x v):∃es:Array MapEntry,((v=.map none/\es=#[])\/∃r c,v=.map (some r)/\w.heap[r]?=some (.map es c))/\es.size=ks.length/\es.size=vs.length/\(∀(j:Nat) (y:AV) (e:MapEntry),ks[j]?=some y->es[j]?=some e->VR (MA κ.M fr L) w y e.key)/\∀(j:Nat) (y:SV) (e:MapEntry),vs[j]?=some y->es[j]?=some e->SR (MA κ.M fr L) L w y e.val:=by
 unfold mapOf at h;split at h
 ·cases h
  cases hx with
  |t _ _ hx=>
   cases hx with
   |mp r _ _ D u hb hM hh hk hv hrk hrv=>
    refine⟨D,.inr ⟨r,u,rfl,hh⟩,hk,by simpa using hv,hrk,fun j y e G Z=>?_⟩;rw[List.getElem?_map]at G;rename_i vs
    cases I:vs[j]? with
    |none=>rw[I]at G;cases G
    |some z=>rw[I]at G;cases G;exact .t _ _ (hrv j z e I Z)
 ·rename_i i;split at h
  ·rename_i ro ab ad hi;cases h;obtain⟨r,D,u,h1,h2,h3,h4,J,U,_⟩:=V.blk i _ hi
   cases hx with
   |lm _ r' hL=>
    rw[h1]at hL;cases hL;exact⟨D,.inr ⟨r,u,rfl,h2⟩,h3,h4,J,U⟩
  ·cases h
 ·cases h;obtain rfl:=nr hx;exact⟨#[],.inl ⟨rfl,rfl⟩,rfl,rfl,fun j y e G _=>by simp at G,fun j y e G _=>by simp at G⟩
 ·cases h
def DH{t e k n:Nat}(h:vE P t=some (e,k,n)):∃fs,P.underlying t=some (.map k e)/\P.underlying k=some (.struct fs)/\bn P k=some (true,n)/\qQ P n fs.toList=true:=by
 unfold vE at h;split at h
 ·rename_i D z y;split at h
  ·rename_i fs v;split at h
   ·rename_i G hs;split at h
    ·rename_i u;cases h;exact⟨fs,y,v,hs,u⟩
    ·cases h
   ·cases h
  ·cases h
 ·cases h
theorem Fi{b:Bool}{m n:Nat}{cs:List AV}{us:Array Value}(z:ma A w cs us)(hn:cs.length=n):∀(fs:List Field),qQ P n fs=true->(forIn (m:=Sem) fs PUnit.unit fun f _=>
   if f.name≠ "_" then(do
    let l <- part f.type us f.offset
    Instr.checkKey b (m+1) f.type l
    pure (ForInStep.yield PUnit.unit))
   else pure (ForInStep.yield PUnit.unit)).run P w=.ok PUnit.unit w
 |[],_=>rfl
 |f::fs,h=>by
  unfold qQ at h;split at h
  ·cases h
  ·rename_i u;split at h
   ·rename_i d hd hs;split at h
    ·rename_i y;rw[Bool.and_eq_true,Nat.ble_eq]at y;have u :f.name≠ "_" :=by simpa using u
     obtain⟨v,D,_⟩:=Ab hs z (by rw[hn];exact y.2) (fun _=>rfl);rw[List.forIn_cons];simp only[Sem.run_bind,if_pos u,D,Result.andThen_ok,Fj hd y.1,Sem.run_pure];exact Fi z hn fs h
    ·cases h
   ·cases h
def Rc{k n:Nat}{fs:Array Field}{cs:List AV}{us:Array Value}(hk:P.underlying k=some (.struct fs))(hf:qQ P n fs.toList=true)(u:ma A w cs us)(hn:cs.length=n)(b:Bool):(Instr.checkKey b 10000 k (.agg us)).run P w=.ok () w:=by
 unfold Instr.checkKey;rw[Sem.run_bind,run_underlying hk,Result.andThen_ok];simp only;rw[<- Array.forIn_toList,Sem.run_bind,Fi (m:=9998) u hn _ hf];rfl
theorem tL{u n:Nat}{cs:List AV}{us:Array Value}(ht:bn P u=some (true,n))(Z:ma A w cs us):∀(ks:List AV) (es:List MapEntry) (i:Nat) (r:Option Nat),ks.length=es.length->(∀(j:Nat) (x:AV) (e:MapEntry),ks[j]?=some x->es[j]?=some e->VR A w x e.key)->qP P u cs ks i=some r->
  (r=none/\(Instr.findAsking u (.agg us) es i).run P w=.ok none w)\/∃j e,r=some (i+j)/\es[j]?=some e/\(Instr.findAsking u (.agg us) es i).run P w=.ok (some (i+j,e.val)) w
 |[],[],i,r,_,_,h=>by unfold qP at h;cases h;exact .inl ⟨rfl,rfl⟩
 |[],_::_,_,_,y,_,_=>by simp at y
 |_::_,[],_,_,y,_,_=>by simp at y
 |x::ks,e::es,i,r,y,U,h=>by
  unfold qP at h;have hx:=U 0 x e rfl rfl;split at h
  ·rename_i ds
   obtain⟨v,D,I⟩:∃v,e.key=.agg v/\ma A w ds v:=by
    generalize e.key=z at hx
    cases hx with
    |agg _ v hl2 hr2=>exact⟨v,rfl,hl2,hr2⟩
   have J:∀r,gI P 20 u cs ds=some r->(Op.equal u (.agg us) e.key).run P w=.ok r w:=fun r hr=>by
    rw[D];exact z8 (M:=A) (w:=w) 20 10000 u true n cs ds r _ _ (by decide) ht hr ⟨us,rfl,Z⟩ ⟨v,rfl,I⟩
   split at h
   ·rename_i G;cases h;refine .inr ⟨0,e,rfl,rfl,?_⟩;unfold Instr.findAsking;simp only[Sem.run_bind,J _ G,Result.andThen_ok];rfl
   ·rename_i G
    have V:(Instr.findAsking u (.agg us) (e::es) i).run P w=(Instr.findAsking u (.agg us) es (i+1)).run P w:=by
     conv=>lhs;unfold Instr.findAsking
     simp only[Sem.run_bind,J _ G,Result.andThen_ok];rfl
    rcases tL ht Z ks es (i+1) r (by simpa using y) (fun j x e h1 h2=>U (j+1) x e h1 h2) h with⟨h1,h2⟩|⟨j,e',h1,h2,h3⟩
    ·exact .inl ⟨h1,V.trans h2⟩
    ·have e1:i+1+j=i+(j+1):=by omega
     rw[e1]at h1 h3;exact .inr ⟨j+1,e',h1,h2,V.trans h3⟩
   ·cases h
  ·cases h
def we{k:Nat}{fs:Array Field}(hk:P.underlying k=some (.struct fs)){us:Array Value}{es:List MapEntry}{r:Option (Nat×Value)}(h:(Instr.findAsking k (.agg us) es 0).run P w=.ok r w):(Instr.findKey k (.agg us) es).run P w=.ok r w:=by
 unfold Instr.findKey;rw[Sem.run_bind,run_underlying hk,Result.andThen_ok]
 cases es with
 |nil=>
  have:r=none:=by
   have h:(Result.ok (none:Option (Nat×Value)) w)=.ok r w:=h;cases h;rfl
  subst this;rfl
 |cons e es=>
  have:Instr.findNow (.struct fs) (.agg us) (e::es) 0=none:=by
   unfold Instr.findNow;rfl
  simp only[this];exact h
def Lo{t:Nat}{s key x:SV}{v u:Value}{ok:Bool}(hC:ar γ κ fr L w)(h:yS P fr t s key ok=some x)(hs:SR (MA κ.M fr L) L w s v)(hu:SR (MA κ.M fr L) L w key u):∃y,(Instr.lookup t v u ok).run P w=.ok y w/\SR (MA κ.M fr L) L w x y:=by
 unfold yS at h;split at h
 ·cases h
 ·rename_i e kt n ht;obtain⟨fs,ap,D,ag,ad⟩:=DH ht;split at h
  ·rename_i cs
   obtain⟨U,rfl,G⟩:∃U,u=.agg U/\ma (MA κ.M fr L) w cs U:=by
    cases hu with|t _ _ h=>cases h with|agg _ U h1 h2=>exact⟨U,rfl,h1,h2⟩
   split at h
   ·cases h
   ·rename_i al;have ab:cs.length=n:=by simpa using al
    split at h
    ·cases h
    ·rename_i ks vs hm;obtain⟨es,hv,h1,h2,h3,h4⟩:=DG hC hm hs
     have I:∀(r:Option (Nat×Value)) (q:Value) (b:Bool),(Instr.findAsking kt (.agg U) es.toList 0).run P w=.ok r w->(r=none->b=false/\(zeroValue e).run P w=.ok q w)->(∀j z,r=some (j,z)->b=true/\q=z)->(Instr.lookup t v (.agg U) ok).run P w=.ok (if ok then .tuple #[q,.bool b]else q) w:=fun r q b Z hn hy=>by
      unfold Instr.lookup;rw[Sem.run_bind,run_underlying ap,Result.andThen_ok];rcases hv with⟨rfl,rfl⟩|⟨r',c,rfl,hh⟩
      ·simp only[Sem.run_bind,Sem.run_pure,Result.andThen_ok,Rc D ad G ab,we D Z]
       cases r with
       |none=>obtain⟨rfl,h⟩:=hn rfl;simp only[Sem.run_bind,h,Result.andThen_ok,Sem.run_pure];try(cases ok <;>rfl)
       |some p=>obtain⟨rfl,rfl⟩:=hy p.1 p.2 rfl;cases ok <;>rfl
      ·have hg:(getObj r').run P w=.ok (.map es c) w:=by simp[getObj,Sem.run,hh]
       simp only[Sem.run_bind,Sem.run_pure,hg,Result.andThen_ok,Rc D ad G ab,we D Z]
       cases r with
       |none=>obtain⟨rfl,h⟩:=hn rfl;simp only[Sem.run_bind,h,Result.andThen_ok,Sem.run_pure];try(cases ok <;>rfl)
       |some p=>obtain⟨rfl,rfl⟩:=hy p.1 p.2 rfl;cases ok <;>rfl
     have fin:∀(z:SV) (q:Value) (b:Bool),SR (MA κ.M fr L) L w z q->SR (MA κ.M fr L) L w (mA ok z b) (if ok then .tuple #[q,.bool b]else q):=fun z q b hz=>by
      unfold mA
      cases ok with
      |false=>exact hz
      |true=>
       refine .aN _ _ rfl fun j x u J hu=>?_
       match j with
       |0=>cases J;cases hu;exact hz
       |1=>cases J;cases hu;exact .t _ _ (.bool _)
       |j+2=>simp at J
     split at h
     ·cases h
     ·rename_i i Z;rcases tL ag G ks es.toList 0 _ (by simpa using h1.symm) (fun j x e J he=>h3 j x e J (by simpa using he)) Z with⟨V,_⟩|⟨j,e',V,h6,h7⟩
      ·cases V
      ·rw[Nat.zero_add]at V h7;cases V;split at h
       ·rename_i z hz;cases h;exact⟨_,I _ e'.val true h7 (fun h=>nomatch h) (fun j z h=>by cases h;exact⟨rfl,rfl⟩),fin z e'.val true (h4 _ z e' hz (by simpa using h6))⟩
       ·cases h
     ·rename_i Z;rcases tL ag G ks es.toList 0 _ (by simpa using h1.symm) (fun j x e J he=>h3 j x e J (by simpa using he)) Z with⟨_,h6⟩|⟨j,e',V,_⟩
      ·split at h
       ·rename_i z hz;cases h;obtain⟨q,an,ao⟩:=GZ (P:=P) (w:=w) (A:=MA κ.M fr L) (L:=L) hz;exact⟨_,I _ q false h6 (fun _=>⟨rfl,an⟩) (fun j z h=>nomatch h),fin z q false ao⟩
       ·cases h
      ·cases V
  ·cases h
def Lr{t:Nat}{s key x:SV}{v u:Value}{ok:Bool}(hC:ar γ κ fr L w)(h:tu P fr t s key ok=some x)(hs:SR (MA κ.M fr L) L w s v)(hu:SR (MA κ.M fr L) L w key u):∃y,(Instr.lookup t v u ok).run P w=.ok y w/\SR (MA κ.M fr L) L w x y:=by
 unfold tu at h;split at h
 ·exact Lo hC h hs hu
 ·rename_i e d ht;obtain⟨k,ag,D,hl⟩:=yV ht;split at h
  ·rename_i ka;have Z:VR (MA κ.M fr L) w ka u:=by cases hu with|t _ _ h=>exact h
   split at h
   ·cases h
   ·rename_i ks vs hm;obtain⟨es,hv,h1,h2,h3,h4⟩:=DG hC hm hs
    have G:∀(r:Option (Nat×Value)) (q:Value) (b:Bool),Instr.findNow d u es.toList 0=some r->(r=none->b=false/\(zeroValue e).run P w=.ok q w)->(∀j z,r=some (j,z)->b=true/\q=z)->(Instr.lookup t v u ok).run P w=.ok (if ok then .tuple #[q,.bool b]else q) w:=fun r q b U hn hy=>by
     unfold Instr.lookup;rw[Sem.run_bind,run_underlying ag,Result.andThen_ok];rcases hv with⟨rfl,rfl⟩|⟨r',c,rfl,hh⟩
     ·simp only[Sem.run_bind,Sem.run_pure,Result.andThen_ok,run_checkKey D hl,run_findKey D U]
      cases r with
      |none=>obtain⟨rfl,h⟩:=hn rfl;simp only[Sem.run_bind,h,Result.andThen_ok,Sem.run_pure];try(cases ok <;>rfl)
      |some p=>obtain⟨rfl,rfl⟩:=hy p.1 p.2 rfl;cases ok <;>rfl
     ·have hg:(getObj r').run P w=.ok (.map es c) w:=by simp[getObj,Sem.run,hh]
      simp only[Sem.run_bind,Sem.run_pure,hg,Result.andThen_ok,run_checkKey D hl,run_findKey D U]
      cases r with
      |none=>obtain⟨rfl,h⟩:=hn rfl;simp only[Sem.run_bind,h,Result.andThen_ok,Sem.run_pure];try(cases ok <;>rfl)
      |some p=>obtain⟨rfl,rfl⟩:=hy p.1 p.2 rfl;cases ok <;>rfl
    have fin:∀(z:SV) (q:Value) (b:Bool),SR (MA κ.M fr L) L w z q->SR (MA κ.M fr L) L w (mA ok z b) (if ok then .tuple #[q,.bool b]else q):=fun z q b V=>by
     unfold mA
     cases ok with
     |false=>exact V
     |true=>
      refine .aN _ _ rfl fun j x u I hu=>?_
      match j with
      |0=>cases I;cases hu;exact V
      |1=>cases I;cases hu;exact .t _ _ (.bool _)
      |j+2=>simp at I
    split at h
    ·cases h
    ·rename_i i U;rcases qO Z ks es.toList 0 _ (by simpa using h1.symm) (fun j x e I he=>h3 j x e I (by simpa using he)) U with⟨J,_⟩|⟨j,e',J,h6,h7,_⟩
     ·cases J
     ·rw[Nat.zero_add]at J h7;cases J;split at h
      ·rename_i z V;cases h;exact⟨_,G _ e'.val true h7 (fun h=>nomatch h) (fun j z h=>by cases h;exact⟨rfl,rfl⟩),fin z e'.val true (h4 _ z e' V (by simpa using h6))⟩
      ·cases h
    ·rename_i U;rcases qO Z ks es.toList 0 _ (by simpa using h1.symm) (fun j x e I he=>h3 j x e I (by simpa using he)) U with⟨_,h6⟩|⟨j,e',J,_⟩
     ·split at h
      ·rename_i z V;cases h;obtain⟨q,ab,ad⟩:=GZ (P:=P) (w:=w) (A:=MA κ.M fr L) (L:=L) V;exact⟨_,G _ q false h6 (fun _=>⟨rfl,ab⟩) (fun j z h=>nomatch h),fin z q false ad⟩
      ·cases h
     ·cases J
  ·cases h
end
def ut(P:Program)(γ:Glob)(fr:Fr)(env:Env)(o:Oper)(x:SV):Prop:=
 ∀(κ:Ctx) (L:Ls) (a:Act) (w:World),ar γ κ fr L w->(∀y∈o.op.operands,SR (MA κ.M fr L) L w (dp env y) (a.eval y))->cN P o a w fun v w'=>Below w.heap.size w w'/\SR (MA κ.M fr L) L w' x v
section
variable {P:Program} {γ:Glob} {fr:Fr} {env:Env} {dst:Option Tmp} {ty:TypeId} {pos:String} {after:Array Edge} {g:Option (Nat×Bool)}
def fJ{o:Oper}{a:Act}{w w':World}{s:Sem Value}{v:Value}(he:execOp a.eval o=(do pure (.value (<- s))))(h:s.run P w=.ok v w'):(execOp a.eval o).run P w=.ok (.value v) w':=by
 rw[he];simp only[Sem.run_bind,h,Result.andThen_ok];rfl
def iF{o:Oper}{x:SV}(h:∀(κ:Ctx) (L:Ls) (a:Act) (w:World),ar γ κ fr L w->(∀y∈o.op.operands,SR (MA κ.M fr L) L w (rd env y) (a.eval y))->∃(s:Sem Value) (v:Value),execOp a.eval o=(do pure (.value (<- s)))/\s.run P w=.ok v w/\SR (MA κ.M fr L) L w x v):ut P γ fr env o x:=fun κ L a w z u=>by
 obtain⟨s,v,h1,h2,h3⟩:=h κ L a w z fun y D=>cu (u y D);exact .value (fJ h1 h2) ⟨Below.refl _ _,h3⟩
def N4{b:Builtin}{args:Array Operand}{tys:Array TypeId}{a:Act}:execOp a.eval ⟨dst,.call ⟨.builtin b,args,tys⟩,ty,pos,after,g⟩=(do let d <- (pure {target:=.builtin b tys ty (args.map fun|.const _=>true|_=>false),args:=args.map a.eval}:Sem Deferred);invoke d.target d.args):=rfl
def It{A:Nat->Prop}{L:Ls}{w:World}{z D:Nat}{s x:SV}{v:Value}(h:sA P z D s=some x)(hs:SR A L w s v):∃u,(convert z D v).run P w=.ok u w/\SR A L w x u:=by
 unfold sA at h;split at h
 ·rename_i k n;obtain rfl:=QT hs;split at h
  ·rename_i ds G h1 h2;cases h;exact⟨.int G (G.wrap n),by simp[convert,run_underlying h1,run_underlying h2,Conv.intToInt],.t _ _ (.int _ _)⟩
  ·cases h
 ·rename_i y;obtain rfl:=q8 hs;split at h
  ·rename_i ds h1 h2;cases h;exact⟨.string y,by cases ds <;>simp[convert,run_underlying h1,run_underlying h2],.t _ _ (.str _)⟩
  ·cases h
 ·cases h
def ye{o:Oper}{x:SV}(h:bD P fr env o.op=some x):ut P γ fr env o x:=by
 obtain⟨dst,op,ty,pos,after,g⟩:=o;simp only at h;unfold bD at h;split at h
 case h_1 y=>cases h;exact fun κ L a w _ z=>.value rfl ⟨Below.refl _ _,cu (z y (by simp[Op.operands]))⟩
 case h_2 y=>cases h;exact fun κ L a w _ z=>.value rfl ⟨Below.refl _ _,cu (z y (by simp[Op.operands]))⟩
 case h_3 c p q=>
  intro κ L a w _ z;have hc:=cu (z c (by simp[Op.operands]));split at h
  ·rename_i hr;rw[hr]at hc;cases h;have hc:=kG hc;exact .value (v:=a.eval p) (by simp[execOp,hc,asBool,pure,Sem.run,Sem.run_bind]) ⟨Below.refl _ _,cu (z p (by simp[Op.operands]))⟩
  ·rename_i hr;rw[hr]at hc;cases h;have hc:=kG hc;exact .value (v:=a.eval q) (by simp[execOp,hc,asBool,pure,Sem.run,Sem.run_bind]) ⟨Below.refl _ _,cu (z q (by simp[Op.operands]))⟩
  ·cases h
 case h_4 t y=>exact iF fun κ L a w D z=>by
                obtain⟨u,h1,h2⟩:=tn D h (z y (by simp[Op.operands]));exact⟨_,u,rfl,h1,h2⟩
 case h_5 y=>
  intro κ L a w _ z;obtain⟨⟨q,G⟩,h2⟩:=L7 h (cu (z y (by simp[Op.operands])));exact .value (v:=a.eval y) (by simp[execOp,G,pure,Sem.run]) ⟨Below.refl _ _,h2⟩
 case h_6 b xt p q yt=>
  split at h
  ·rename_i r hb;cases h
   exact iF fun κ L a w D z=>by
    obtain⟨u,h1,h2⟩:=Bo (L:=L) (x:=p) (y:=q) hb (z p (by simp[Op.operands])) (z q (by simp[Op.operands]));exact⟨_,u,rfl,h1,.t _ _ h2⟩
  ·split at h
   ·rename_i r hb;cases h
    exact iF fun κ L a w D z=>by
     obtain⟨u,h1,h2⟩:=Hs (x:=p) (y:=q) D hb (z p (by simp[Op.operands])) (z q (by simp[Op.operands]));exact⟨_,u,rfl,h1,.t _ _ h2⟩
   ·cases h
 case h_7 b xt p=>exact iF fun κ L a w D z=>by
                   obtain⟨u,h1,h2⟩:=Qc h (z p (by simp[Op.operands]));exact⟨_,u,rfl,h1,h2⟩
 case h_8 st y f=>exact iF fun κ L a w D z=>by
                   obtain⟨u,h1,h2⟩:=Jk h (z y (by simp[Op.operands]));exact⟨_,u,rfl,h1,h2⟩
 case h_9 st y f=>exact iF fun κ L a w D z=>by
                   obtain⟨u,h1,h2⟩:=Jl h (z y (by simp[Op.operands]));exact⟨_,u,rfl,h1,h2⟩
 case h_10 t p q=>exact iF fun κ L a w D z=>by
                   obtain⟨u,h1,h2⟩:=J8 D h (z p (by simp[Op.operands])) (z q (by simp[Op.operands]));exact⟨_,u,rfl,h1,h2⟩
 case h_11 t p q=>exact iF fun κ L a w D z=>by
                   obtain⟨u,h1,h2⟩:=J_ h (z p (by simp[Op.operands])) (z q (by simp[Op.operands]));exact⟨_,u,rfl,h1,h2⟩
 case h_12 p i=>exact iF fun κ L a w D z=>by
                 obtain⟨u,h1,h2⟩:=Jg h (z p (by simp[Op.operands]));exact⟨_,u,rfl,h1,h2⟩
 case h_13 t y k ok=>
  exact iF fun κ L a w D z=>by
           obtain⟨u,h1,h2⟩:=Lr D h (z y (by simp[Op.operands])) (z k (by simp[Op.operands]));exact⟨_,u,rfl,h1,h2⟩
 case h_14 t y lo U mx=>
  split at h
  rotate_left
  ·exact iF fun κ L a w D z=>by
           obtain⟨u,h1,h2⟩:=Pj (ul:=lo.map a.eval) (uh:=U.map a.eval) (um:=mx.map a.eval) D h (z y (by simp[Op.operands])) (tC (ops:=(Op.slice t y lo U mx).operands.toList) (fun q G=>z q (by simpa using G)) lo (by simp+contextual [Op.operands])) (rz lo) (tC (ops:=(Op.slice t y lo U mx).operands.toList) (fun q G=>z q (by simpa using G)) U (by simp+contextual [Op.operands])) (rz U) (rz mx) (tC (ops:=(Op.slice t y lo U mx).operands.toList) (fun q G=>z q (by simpa using G)) mx (by simp+contextual [Op.operands]));exact⟨_,u,rfl,h1,h2⟩
  rename_i y' an;cases h;have h:=an
  exact iF fun κ L a w D z=>by
           obtain⟨u,h1,h2⟩:=Pk (ul:=lo.map a.eval) (uh:=U.map a.eval) (um:=mx.map a.eval) h (z y (by simp[Op.operands])) (tC (ops:=(Op.slice t y lo U mx).operands.toList) (fun q G=>z q (by simpa using G)) lo (by simp+contextual [Op.operands])) (rz lo) (tC (ops:=(Op.slice t y lo U mx).operands.toList) (fun q G=>z q (by simpa using G)) U (by simp+contextual [Op.operands])) (rz U) (rz mx);exact⟨_,u,rfl,h1,h2⟩
 case h_15 f first ab=>
  split at h
  ·cases h
   exact iF fun κ L a w D z=>by
    have e:first.size=(first.map a.eval).size:=by simp
    refine⟨_,.func f (first.map a.eval) (ab.map a.eval),rfl,by simp[Instr.makeFunc,pure,Sem.run],?_⟩;rw[e];refine CK (.fn _ _ _ _ (by simp) fun j x u hx hu=>?_);rw[<- Array.map_append,Array.getElem?_map]at hu;rw[List.getElem?_map]at hx
    cases J:(first++ab)[j]? with
    |none=>rw[J]at hu;cases hu
    |some y=>
     rw[Array.getElem?_toList,J]at hx;rw[J]at hu;cases hx;cases hu;exact z y (by simp only[Op.operands];exact Array.mem_of_getElem? J)
  ·cases h
 case h_16 t I=>
  split at h
  ·rename_i Z;split at h
   ·rename_i cs hb;cases h
    exact iF fun κ L a w D z=>by
     obtain⟨us,h1,h2,h3⟩:=HB (A:=MA κ.M fr L) (L:=L) (w:=w) hb (vs:=(I.map fun(i,x)=>(i,a.eval x)).toList) (by simp) fun k p q V G=>by
      rw[Array.toList_map,List.getElem?_map]at G;rw[List.getElem?_map]at V
      cases J:I.toList[k]? with
      |none=>rw[J]at G;cases G
      |some y=>
       rw[J]at G V;cases G;cases V;refine⟨rfl,qB (z y.2 ?_) (List.all_eq_true.1 (List.all_eq_true.1 Z y (List.mem_of_getElem? J)))⟩;have:=List.mem_of_getElem? J;simp[Op.operands];exact⟨y.1,by simpa using this⟩
     exact⟨_,.agg us,rfl,run_build w t _ us h1,uw (.agg _ _ h2 h3)⟩
   ·cases h
  ·cases h
 case h_17 t len I=>
  split at h
  ·rename_i Z;split at h
   ·rename_i es hb;cases h;intro κ L a w D z
    obtain⟨e,sz,us,h1,ap,hl,h2,h3,h4,h5⟩:=BB (A:=MA κ.M fr L) (L:=L) (w:=w) hb (vs:=(I.map fun(i,x)=>(i,a.eval x)).toList) (by simp) fun k p q V G=>by
      rw[Array.toList_map,List.getElem?_map]at G;rw[List.getElem?_map]at V
      cases J:I.toList[k]? with
      |none=>rw[J]at G;cases G
      |some y=>
       rw[J]at G V;cases G;cases V;refine⟨rfl,qB (cu (z y.2 ?_)) (List.all_eq_true.1 (List.all_eq_true.1 Z y (List.mem_of_getElem? J)))⟩;have:=List.mem_of_getElem? J;simp[Op.operands];exact⟨y.1,by simpa using this⟩
    have ad:Below w.heap.size w (w.alloc (.cells us e)):=(Below.refl _ _).alloc (Nat.le_refl _) _;refine .nK (fJ rfl h1) ⟨ad,?_⟩;rw[<- h3];refine .tc es _ ?_;rcases Nat.eq_zero_or_pos len with h0|h0
    ·subst h0;rw[List.eq_nil_of_length_eq_zero h3];exact .bS _ _
    ·refine .arr _ 0 es.length sz es (fun k j=>us.getD (k*sz+j) undef) (by intro h;rw[h]at h3;simp at h3;omega) (by omega) (Nat.le_refl _) (by simp) D.DZ h4 (fun k j V hj=>?_) (fun k j cs x V hj=>?_)
     ·have al:k*sz+j <us.size:=by
       rw[h2,<- h3];have:(k+1)*sz<=es.length*sz:=Nat.mul_le_mul_right _ V;rw[Nat.add_mul]at this;omega
      simp[al]
     ·obtain⟨u,h6,h7⟩:=h5 k j cs x V hj;rw[Array.getD_eq_getD_getElem?,h6];exact h7.later ad
   ·cases h
  ·cases h
 case h_18 c=>
  obtain⟨ag,⟨ao⟩,tys⟩:=c;simp only at h;unfold xC at h;split at h
  ·rename_i _ b y;split at h
   ·exact fun κ L a w D z=>by
     obtain⟨u,h1,h2⟩:=KW (ty:=ty) (tys:=tys) D rfl h (cu (z y (by simp[Op.operands,Call.operands])));exact .value (v:=u) (by simp only[execOp,resolve,invoke,builtin,Sem.run_bind,Sem.run_pure,Result.andThen_ok,List.map_toArray,List.map_cons,List.map_nil,h1]) ⟨Below.refl _ _,h2⟩
   ·cases h
  ·rename_i _ b p q;split at h
   ·rename_i m n hm hn;split at h
    ·cases h
     exact fun κ L a w D z=>by
      have h1:=cu (z p (by simp[Op.operands,Call.operands]));have h2:=cu (z q (by simp[Op.operands,Call.operands]));rw[hm]at h1;rw[hn]at h2;have h1:=QT h1;have h2:=QT h2
      have hm:(Builtin.max_ tys ty #[.int .i64 m,.int .i64 n]).run P w=.ok (.int .i64 (max m n)) w:=by
       rw[run_max_int2];congr 2;split <;>omega
      exact .value (v:=.int .i64 (max m n)) (by simp only[execOp,resolve,invoke,builtin,Sem.run_bind,Sem.run_pure,Result.andThen_ok,List.map_toArray,List.map_cons,List.map_nil,h1,h2,hm]) ⟨Below.refl _ _,.t _ _ (.int _ _)⟩
    ·cases h
     exact fun κ L a w D z=>by
      have h1:=cu (z p (by simp[Op.operands,Call.operands]));have h2:=cu (z q (by simp[Op.operands,Call.operands]));rw[hm]at h1;rw[hn]at h2;have h1:=QT h1;have h2:=QT h2
      have hm:(Builtin.min_ tys ty #[.int .i64 m,.int .i64 n]).run P w=.ok (.int .i64 (min m n)) w:=by
       rw[run_min_int2];congr 2;split <;>omega
      exact .value (v:=.int .i64 (min m n)) (by simp only[execOp,resolve,invoke,builtin,Sem.run_bind,Sem.run_pure,Result.andThen_ok,List.map_toArray,List.map_cons,List.map_nil,h1,h2,hm]) ⟨Below.refl _ _,.t _ _ (.int _ _)⟩
    ·cases h
   ·cases h
  ·cases h
 case h_19 au av y=>
  exact iF fun κ L a w D z=>by
           obtain⟨u,h1,h2⟩:=It h (z y (by simp[Op.operands]));exact⟨_,u,rfl,h1,h2⟩
 case h_20=>cases h
end
def wo:Lb->Lb
 | .box _ T cs=>.box true T cs
 | .row _ tch sz es=>.row true tch sz es
 | .map _ ks vs=>.map true ks vs
 | .own _ x=>.own true x
def cU:Lb->Lb
 | .row ro _ sz es=>.row ro false sz es
 |b=>b
def bI(l:List Nat)(i:Nat):Bool:=l.any (Nat.beq i)
def Q1:Bool->Lb->Lb
 |true,b=>wo b
 |false,b=>b
def od(l:List Nat):Nat->Fr->Fr
 |_,[]=>[]
 |k,b::r=>Q1 (bI l k) b::od l (k+1) r
def freeze(fr:Fr)(l:List Nat):Fr:=match l with
 |[]=>fr
 |_=>od l 0 fr
def dD(ks:List Nat)(i:Nat):Option Nat:=match bI ks i with|true=>none|false=>some i
def dR(ks:List Nat)(env:Env):Env:=match ks with
 |[]=>env
 |_=>fun t=>(env t).sub (dD ks)
def e_(ks:List Nat)(fr:Fr):Fr:=match ks with
 |[]=>fr
 |_=>fr.map (Lb.sub (dD ks))
def lF(h:Nat)(i:Nat):Option Nat:=match Nat.blt i h with|true=>some i|false=>none
def trim(h:Nat)(fr:Fr):Fr:=match Nat.ble fr.length h with
 |true=>fr
 |false=>(fr.take h).map (Lb.sub (lF h))
def bc(u:List Nat)(i:Nat):Option Nat:=u.findIdx? (Nat.beq i)
def cB:List Nat->List Nat->List Nat
 |u,[]=>u
 |u,i::r=>match bI u i with
  |true=>cB u r
  |false=>cB (u++[i]) r
mutual
def nD(fr:Fr):Nat->SV->List Nat
 |0,_=>[]
 |n+1,s=>match s with
  | .ls i=>[i]
  | .lv i _ _ _=>[i]
  | .lo i _=>[i]
  | .lm i=>match fr[i]? with
   |some (.map _ _ vs)=>i::oI fr n vs
   |_=>[i]
  | .lp i j=>match fr[i]? with
   |some (.box _ _ u)=>i::oI fr n (u.drop j)
   |_=>[i]
  | .agg u=>oI fr n u
  | .aN u=>oI fr n u
  | .fn _ _ u=>oI fr n u
  |_=>[]
def oI(fr:Fr):Nat->List SV->List Nat
 |0,_=>[]
 |_+1,[]=>[]
 |n+1,c::u=>nD fr n c++oI fr n u
end
def deep:Nat:=60
def cJ(fr:Fr):List SV->Option (List AV)
 |[]=>some []
 |c::u=>match iN fr deep c with
  |none=>none
  |some x=>match cJ fr u with
   |none=>none
   |some xs=>some (x::xs)
def br(fr:Fr):List SV->List Nat
 |[]=>[]
 |c::u=>nD fr deep c++br fr u
mutual
def np:AV->Bool
 | .int ..|.bool _|.str _|.lit _|.lz=>true
 | .agg u=>sO u
 | .aN u=>sO u
 |_=>false
def sO:List AV->Bool
 |[]=>true
 |c::u=>np c&&sO u
end
mutual
def dq:SV->Bool
 | .t x=>np x
 | .nil=>true
 | .agg u=>sP u
 | .aN u=>sP u
 |_=>false
def sP:List SV->Bool
 |[]=>true
 |c::u=>dq c&&sP u
end
def rv:AV->Bool
 | .agg _|.aN _=>false
 |_=>true
def fu(sz:Nat)(es:List (List AV)):Bool:=es.all fun u=>Nat.beq u.length sz&&u.all rv
def cn(n u:Nat):Bool:=Nat.ble n 140737488351232&&Nat.ble (n*u) 140737488355328
def lO(cs:List AV)(j:Nat):List AV->List AV
 |[]=>cs
 |x::xs=>lO (cs.set j x) (j+1) xs
abbrev eH:=SV×Fr×List Nat
def Aw(fr:Fr)(i:Nat)(p:List Nat)(k:Nat)(val:SV):Option eH:=match fr[i]? with
 |some (.own false x)=>match fg x p with
  |some (.arr u)=>match u[k]?,val with
   |some [.int k1 _],.t (.int k2 m)=>if k1=k2 then some (.dead,fr.set i (.own false (setAt x p k (.int k2 m))),[])else none
   |_,_=>none
  |_=>none
 |_=>none
def ik(P:Program)(fr:Fr)(t:Nat)(D val:SV):Option eH:=match bn P t with
 |none=>none
 |some (_,n)=>match(bw val).all du&&Nat.beq (bw val).length n with
  |false=>none
  |true=>match D with
   | .lp i j=>match fr[i]? with
    |some (.box false T u)=>match Nat.ble (j+n) u.length with
     |true=>some (.dead,fr.set i (.box false T (jM u j (bw val))),[])
     |false=>none
    |_=>none
   | .le i sz k j=>match fr[i]? with
    |some (.row false y v z)=>match Nat.beq sz v with
     |false=>none
     |true=>match z[k]? with
      |none=>none
      |some u=>match Nat.ble (j+n) u.length with
       |false=>none
       |true=>match cJ fr (bw val)with
        |none=>none
        |some xs=>match bI (br fr (bw val)) i with
         |true=>none
         |false=>some (.dead,(freeze fr (br fr (bw val))).set i (.row false y sz (z.set k (lO u j xs))),[])
    |_=>none
   | .lr i p k=>Aw fr i p k val
   |_=>none
def sk(P:Program)(fr:Fr)(t:Nat)(s x:SV):Option eH:=match eQ P t with
 |none=>none
 |some (_,sz,by_)=>match gO fr x with
  |none=>none
  |some u=>match fu sz u with
   |false=>none
   |true=>match s with
    | .ls i=>match fr[i]? with
     |some (.row false _ sz' v)=>match Nat.beq sz sz'&&cn (v.length+u.length) by_ with
      |true=>some (.ls i,(e_ [i] fr).set i (.row false true sz (v++u)),[i])
      |false=>none
     |_=>none
    | .lv i eD 0 n=>match fr[i]? with
     |some (.row false _ sz' v)=>match Nat.beq sz sz'&&(Nat.beq eD sz&&(Nat.ble n v.length&&cn (n+u.length) by_))with
      |true=>some (.ls i,(e_ [i] fr).set i (.row false true sz (v.take n++u)),[i])
      |false=>none
     |_=>none
    | .nil=>match cn u.length by_ with
     |true=>some (.ls fr.length,fr++[.row false false sz u],[])
     |false=>none
    | .tc []=>match cn u.length by_ with
     |true=>some (.ls fr.length,fr++[.row false false sz u],[])
     |false=>none
    | .tc (e::v)=>match u with
     |c::y=>match fu sz (e::v)&&cn ((e::v).length+(c::y).length) by_ with
      |true=>some (.ls fr.length,fr++[.row false false sz ((e::v)++(c::y))],[])
      |false=>none
     |[]=>none
    |_=>none
def nW(fr:Fr)(zs:List (List AV))(r sz a n:Nat):Option eH:=match fr[r]? with
 |some (.row false y v u)=>match Nat.beq sz v&&Nat.ble (a+n) u.length with
  |true=>some (.t (.int .i64 ((Nat.min zs.length n:Nat):Int)),fr.set r (.row false y sz (u.take a++zs.take n++u.drop (a+Nat.min zs.length n))),[])
  |false=>none
 |_=>none
def jr(P:Program)(fr:Fr)(t:Nat)(x y:SV):Option eH:=match eQ P t with
 |none=>none
 |some (_,sz,_)=>match gO fr y with
  |none=>none
  |some v=>match fu sz v with
   |false=>none
   |true=>match x with
    | .lv r u a n=>match Nat.beq u sz with
     |true=>nW fr v r sz a n
     |false=>none
    | .ls r=>match fr[r]? with
     |some (.row _ _ _ es)=>nW fr v r sz 0 es.length
     |_=>none
    |_=>none
def gZ(P:Program)(fr:Fr)(t:Nat)(l c:SV):Option eH:=match P.underlying t with
 |some (.slice e)=>match P.info? e with
  |some i=>match i.zero with
   |some z=>match iH (z.cells.toList.map cv),decide (z.cells.size=i.size/\0 <i.size)with
    |some u,true=>match l,c with
     | .t (.int .i64 m),.t (.int .i64 n)=>match decide (0<=m)&&decide (m<=n)&&Nat.ble (n.toNat*i.bytes) 281474976710656&&Nat.ble n.toNat 140737488351232 with
      |true=>some (.ls fr.length,fr++[.row false false i.size (List.replicate m.toNat u)],[])
      |false=>none
     |_,_=>none
    |_,_=>none
   |none=>none
  |none=>none
 |_=>none
def tv(P:Program)(fr:Fr)(t:Nat)(l c:SV):Option eH:=match gZ P [] t l c with
 |some (_,[.row _ _ _ es],_)=>some (.t (.arr es),fr,[])
 |_=>none
def s8:TypeDesc->AV->Bool
 | .int _,.int _ _=>true
 | .bool,.bool _=>true
 | .string,.str _=>true
 |_,_=>false
def jc:List AV->List AV->Bool
 |[],[]=>true
 | .int k m::xs,.int j n::u=>decide (k=j)&&(decide (m=n)&&jc xs u)
 | .bool a::xs,.bool b::u=>(a==b)&&jc xs u
 | .str a::xs,.str b::u=>decide (a=b)&&jc xs u
 |_,_=>false
def yE(P:Program)(fr:Fr)(t:Nat)(m k x:SV):Option eH:=match vE P t with
 |none=>none
 |some (_,kt,n)=>match m,k with
  | .lm i,.t (.agg u)=>match fr[i]? with
   |some (.map false ks v)=>match Nat.beq u.length n with
    |false=>none
    |true=>match qP P kt u ks 0 with
     |none=>none
     |some (some j)=>match ks[j]? with
      |some (.agg ds)=>match jc u ds with
       |true=>some (.dead,fr.set i (.map false ks (v.set j x)),[])
       |false=>none
      |_=>none
     |some none=>some (.dead,fr.set i (.map false (ks++[.agg u]) (v++[x])),[])
   |_=>none
  |_,_=>none
def q7(P:Program)(fr:Fr)(t:Nat)(m k x:SV):Option eH:=match nx P t with
 |none=>yE P fr t m k x
 |some (_,d)=>match m,k with
  | .lm i,.t u=>match fr[i]? with
   |some (.map false ks v)=>match s8 d u with
    |false=>none
    |true=>match dW d u ks 0 with
     |none=>none
     |some (some j)=>some (.dead,fr.set i (.map false ks (v.set j x)),[])
     |some none=>some (.dead,fr.set i (.map false (ks++[u]) (v++[x])),[])
   |_=>none
  |_,_=>none
inductive Out where
 |normal
 |exit (id:Nat)
 |ret
abbrev CallF:=Nat->List SV->Fr->Option (SV×Fr)
abbrev LoopF:=Nat->Code->Env->Fr->Option (Out×Env×Fr)
structure Cfg where
 P:Program
 ok:Nat->Bool
 ext:Nat->List AV->Option (SV×Fr)
 lv:Nat->Nat->Option (List Nat)
 own:Nat->Nat->List (Nat×Nat)
 eff:Nat->Nat->List Nat
 hand:Nat->Nat->Bool
 /-- What an iterator yields (its captured trees): the tuples;whether these are all. -/
 seq:Nat->List AV->Option (List (List AV)×Bool):=fun _ _=>none
 /-- What a function answers,and makes of own blocks that it gets (contracts that are proved elsewhere). -/
 exh:Nat->List SV->Fr->Option (SV×Fr):=fun _ _ _=>none
 /-- Functions whose answers are told as trees. -/
 tre:Nat->Bool:=fun _=>false
def JN:SV->Bool
 | .lp _ _=>true
 | .le _ _ _ _=>true
 |_=>false
def aQ(g:Cfg)(f:Nat):Nat->List SV->List Bool
 |_,[]=>[]
 |k,s::r=>(JN s ||g.hand f k)::aQ g f (k+1) r
def vW(fr:Fr):List Nat->List Nat
 |[]=>[]
 |i::r=>(match fr[i]? with|some b=>b.refs|none=>[])++vW fr r
def close(fr:Fr):Nat->List Nat->List Nat
 |0,l=>l
 |n+1,l=>close fr n (cB l (vW fr l))
def fo:List Bool->List SV->List Nat
 |true::bs,s::r=>s.refs++fo bs r
 |false::bs,_::r=>fo bs r
 |_,_=>[]
def bp:List Bool->List SV->List SV
 |false::bs,s::r=>s::bp bs r
 |true::bs,_::r=>bp bs r
 |_,_=>[]
def dt(σ:Nat->Option Nat):List Bool->List SV->List AV->List SV
 |true::bs,s::r,xs=>s.sub σ::dt σ bs r xs
 |false::bs,_::r,x::xs=>.t x::dt σ bs r xs
 |_,_,_=>[]
def dX(fr:Fr):List Nat->Option Fr
 |[]=>some []
 |i::r=>match fr[i]? with
  |none=>none
  |some b=>match dX fr r with
   |none=>none
   |some l=>some (b::l)
def nA:Option Lb->Lb->Lb
 |some (.row _ true _ _),.row ro _ sz es=>.row ro true sz es
 |_,b=>b
def nu(τ:Nat->Option Nat):List Nat->Fr->Fr->Fr
 |i::hs,b::bs,fr=>nu τ hs bs (fr.set i (nA fr[i]? (b.sub τ)))
 |_,_,fr=>fr
def dL:List Nat->Fr->List Nat
 |i::hs,b::bs=>match b.tch with
  |true=>i::dL hs bs
  |false=>dL hs bs
 |_,_=>[]
def mZ(hs:List Nat):Fr->Bool
 |[]=>true
 |b::r=>b.refs.all (bI hs)&&mZ hs r
def dO(hs:List Nat)(n i:Nat):Option Nat:=match hs[i]? with
 |some j=>some j
 |none=>some (n+(i - hs.length))
def back(hs:List Nat)(fr1 fr':Fr):Fr:=nu (dO hs fr1.length) hs fr' (e_ (dL hs fr') fr1)++(fr'.drop hs.length).map fun b=>cU (b.sub (dO hs fr1.length))
def kindOk:List Nat->Fr->Fr->Bool
 |i::hs,b::bs,fr=>(match fr[i]?,b with
  |some (.row _ true _ _),.row _ _ _ _=>true
  |some (.row _ true _ _),_=>false
  |_,_=>true)&&kindOk hs bs fr
 |_,_,_=>true
def iy(g:Cfg)(C:CallF)(u:Bool)(fr:Fr)(f:Nat)(args:List SV):Option eH:=
 match cJ fr (bp (aQ g f 0 args) args)with
 |none=>none
 |some xs=>match cB [] (fo (aQ g f 0 args) args)with
  |[]=>match C f (dt (bc []) (aQ g f 0 args) args xs) []with
   |none=>none
   |some (r,v)=>match dq r with
    |true=>some (r,fr,[])
    |false=>match u with
     |false=>some (r.sub (dO [] fr.length),freeze fr (br fr (bp (aQ g f 0 args) args))++v.map (fun b=>cU (b.sub (dO [] fr.length))),[])
     |true=>match br fr (bp (aQ g f 0 args) args)with
      |[]=>match r.refs with
       |[]=>some (r,fr,[])
       |_=>match iN v deep r with
        |some x=>some (.t x,fr,[])
        |none=>none
      |_=>none
  |y::z=>match u with
   |true=>none
   |false=>
    let hs:=close fr 4 (y::z)
    let fr1:=freeze fr (br fr (bp (aQ g f 0 args) args))
    match dX fr1 hs with
    |none=>none
    |some bs=>match mZ hs bs with
     |false=>none
     |true=>match C f (dt (bc hs) (aQ g f 0 args) args xs) (bs.map fun b=>cU (b.sub (bc hs)))with
      |none=>none
      |some (r,fr')=>match kindOk hs fr' fr1 with
       |false=>none
       |true=>some (r.sub (dO hs fr.length),back hs fr1 fr',dL hs fr')
def eK:SV->Option (Nat×List SV×List SV)
 | .t (.fn (.func f) v u)=>some (f,(u.take v).map .t,(u.drop v).map .t)
 | .fn (.func f) v u=>some (f,u.take v,u.drop v)
 |_=>none
def mX(g:Cfg)(C:CallF)(u:Bool)(env:Env)(fr:Fr)(c:Operand)(args:List Operand):Option eH:=match eK (rd env c)with
 |none=>none
 |some (f,a,b)=>iy g C u fr f (a++args.map (rd env)++b)
def gW:Op->Bool
 | .alloc _|.box ..|.store ..|.makeSlice ..|.makeMap ..|.insert ..|.mapUpdate ..=>true
 | .buildSlice _ 0 _=>true
 | .call ⟨.value _,_,_⟩=>true
 | .call ⟨.builtin .append,_,_⟩=>true
 | .call ⟨.builtin .copy,_,_⟩=>true
 |_=>false
def bT(g:Cfg)(C:CallF)(G:Bool)(env:Env)(fr:Fr):Op->Option eH:=fun op=>match op with
 | .alloc T=>match nM g.P T with
  |some I=>some (.lp fr.length 0,fr++[.box false T I],[])
  |none=>none
 | .box T x=>match(bw (rd env x)).all du with
  |true=>some (.lp fr.length 0,fr++[.box false T (bw (rd env x))],[])
  |false=>none
 | .store t a x=>ik g.P fr t (rd env a) (rd env x)
 | .makeSlice t l c=>match G with
  |true=>tv g.P fr t (rd env l) (rd env c)
  |false=>gZ g.P fr t (rd env l) (rd env c)
 | .makeMap _ none=>some (.lm fr.length,fr++[.map false [] []],[])
 | .insert t m k x=>q7 g.P fr t (rd env m) (rd env k) (rd env x)
 | .mapUpdate t m k x=>q7 g.P fr t (rd env m) (rd env k) (rd env x)
 | .buildSlice t len z=>match len,z.toList with
  |0,[]=>match eQ g.P t with
   |some (_,sz,_)=>some (.ls fr.length,fr++[.row false false sz []],[])
   |none=>none
  |_,_=>none
 | .call ⟨.value c,v,_⟩=>mX g C G env fr c v.toList
 | .call ⟨.builtin .append,v,D⟩=>match v.toList,D.toList with
  |[s,x],[t,u]=>match Nat.beq t u with
   |true=>sk g.P fr t (rd env s) (rd env x)
   |false=>none
  |_,_=>none
 | .call ⟨.builtin .copy,v,D⟩=>match v.toList,D.toList with
  |[x,y],[t,_]=>jr g.P fr t (rd env x) (rd env y)
  |_,_=>none
 |_=>none
def uc(fr:Fr):Option SV->Option eH
 |some x=>some (x,fr,[])
 |none=>none
def jS:List Operand->List Nat
 |[]=>[]
 | .tmp t::r=>t::jS r
 |_::r=>jS r
def qg(env:Env):List Nat->List AV->Env
 |t::u,x::xs=>cV (qg env u xs) t (.t x)
 |_,_=>env
def uX(P:Program)(env:Env)(fr:Fr)(op:Op):Option eH:=match op with
 | .buildSlice _ _ parts=>match cJ fr ((jS (parts.toList.map (·.2))).map fun t=>un (env t))with
  |none=>none
  |some xs=>uc (freeze fr (br fr ((jS (parts.toList.map (·.2))).map fun t=>un (env t)))) (bD P (freeze fr (br fr ((jS (parts.toList.map (·.2))).map fun t=>un (env t)))) (qg env (jS (parts.toList.map (·.2))) xs) op)
 |_=>none
def bX(g:Cfg)(C:CallF)(env:Env)(fr:Fr)(op:Op):Option eH:=match gW op with
 |true=>bT g C false env fr op
 |false=>match bD g.P fr env op with
  |some x=>some (x,fr,[])
  |none=>uX g.P env fr op
def mq:Op->Bool
 | .makeSlice ..=>true
 | .call ⟨.value _,_,_⟩=>true
 |_=>false
def gU(g:Cfg)(C:CallF)(env:Env)(fr:Fr)(op:Op):Option eH:=match mq op with
 |true=>bT g C true env fr op
 |false=>uc fr (bD g.P fr env op)
def step(g:Cfg)(C:CallF)(d:Option (List Nat))(i:Nat)(env:Env)(fr:Fr)(op:Op):Option eH:=match d with
 |none=>bX g C env fr op
 |some effs=>match bI effs i with
  |true=>bX g C env fr op
  |false=>gU g C env fr op
def dQ(g:Cfg)(C:CallF)(d:Option (List Nat))(ops:Array Oper):Nat->List Oper->Env->Fr->Option (Env×Fr)
 |_,[],env,fr=>some (env,fr)
 |i,o::r,env,fr=>match o.guard with
  |none=>match step g C d i env fr o.op with
   |some (x,fr',ks)=>dQ g C d ops (i+1) r (aE (dR ks env) o.dst x) fr'
   |none=>none
  |some (j,u)=>match cG ops env j u with
   |none=>none
   |some true=>match step g C d i env fr o.op with
    |some (x,fr',ks)=>dQ g C d ops (i+1) r (aE (dR ks env) o.dst (.aT x)) fr'
    |none=>none
   |some false=>dQ g C d ops (i+1) r (aE env o.dst .no) fr
def tV(op:Op):List Nat:=op.operands.toList.filterMap fun|.tmp t=>some t|_=>none
def jE:SV->Bool
 | .t _=>true
 |_=>false
def dy(env:Env):Op->Option (List Nat)
 | .move _=>some []
 | .assign _=>some []
 | .fieldAddr ..=>some []
 | .nilCheck _=>some []
 | .unOp ..=>some []
 | .convert ..=>some []
 | .extract ..=>some []
 | .binOp _ _ x _ _=>match rd env x with
  | .ls _=>none
  |_=>some []
 | .index ..=>some []
 | .pick ..=>some []
 | .build ..=>some []
 | .makeFunc ..=>some []
 | .makeSlice ..=>some []
 | .buildSlice ..=>some []
 | .call ⟨.value c,args,_⟩=>match eK (rd env c)with
  |some (_,pa,qa)=>match(pa++args.toList.map (rd env)++qa).all jE with
   |true=>some []
   |false=>none
  |none=>none
 | .load _ y=>match rd env y with
  | .lp i _=>some [i]
  | .le i _ _ _=>some [i]
  | .lr ..=>none
  |_=>some []
 | .indexAddr _ x _=>match rd env x with
  | .ls i=>some [i]
  | .lv ..=>none
  | .lo ..=>none
  |_=>some []
 |_=>none
def gF(env:Env):Op->Option (List Nat)
 | .alloc _=>some []
 | .box ..=>some []
 | .makeSlice ..=>some []
 | .store _ a x=>match rd env a with
  | .lp i _=>some [i]
  | .le i _ _ _=>match(bw (rd env x)).all jE with
   |true=>some [i]
   |false=>none
  |_=>none
 | .call ⟨.builtin .copy,args,_⟩=>match args.toList with
  |[x,_]=>match rd env x with
   | .ls i=>some [i]
   | .lv i _ _ _=>some [i]
   |_=>none
  |_=>none
 | .call ⟨.value c,args,_⟩=>match eK (rd env c)with
  |some (_,pa,qa)=>match(pa++args.toList.map (rd env)++qa).all jE with
   |true=>some []
   |false=>none
  |none=>none
 |_=>none
def uO:Option (List Nat)->Option (List Nat)->Bool
 |some w,some r=>w.all fun i=>!bI r i
 |_,_=>false
def oQ(ops:Array Oper)(op:Op)(j m:Nat):Bool:=(List.range m).all fun q=>Nat.blt q j ||match ops[q]? with
 |some u=>match u.dst with
  |some d=>!bI (tV op) d
  |none=>true
 |none=>true
def u9(effs:List Nat)(ops:Array Oper)(env:Env)(m j:Nat):Bool:=match ops[j]?,ops[m]? with
 |some u,some om=>match bI effs j,bI effs m with
  |true,false=>((Region.before ops).getD m 0).testBit j ||(oQ ops u.op j m&&uO (gF env u.op) (dy env om.op))
  |false,true=>((Region.before ops).getD m 0).testBit j ||(oQ ops u.op j m&&uO (gF env om.op) (dy env u.op))
  |_,_=>true
 |_,_=>true
def sR(effs:List Nat)(ops:Array Oper)(env:Env)(m:Nat):Bool:=(List.range m).all (u9 effs ops env m)
def f_(g:Cfg)(C:CallF)(effs:List Nat)(ops:Array Oper):Nat->List Oper->Env->Fr->Option (Env×Fr)
 |_,[],env,fr=>some (env,fr)
 |i,o::r,env,fr=>match sR effs ops env i with
  |false=>none
  |true=>match o.guard with
   |none=>match step g C (some effs) i env fr o.op with
    |some (x,fr',[])=>f_ g C effs ops (i+1) r (aE env o.dst x) fr'
    |_=>none
   |some (j,u)=>match cG ops env j u with
    |none=>none
    |some true=>match step g C (some effs) i env fr o.op with
     |some (x,fr',[])=>f_ g C effs ops (i+1) r (aE env o.dst (.aT x)) fr'
     |_=>none
    |some false=>f_ g C effs ops (i+1) r (aE env o.dst .no) fr
def qH(l:List Nat):Nat:=match bI l 1000001 with
 |true=>2
 |false=>match bI l 1000000 with
  |true=>1
  |false=>match bI l 1000004 with
   |true=>5
   |false=>match bI l 1000002 with
   |true=>3
   |false=>match bI l 1000003 with
    |true=>4
    |false=>0
def CW:List Nat->Nat
 |[]=>0
 |k::r=>match Nat.ble 2000000 k with
  |true=>k - 2000000
  |false=>CW r
def sU(l:List Nat):List Nat:=l.filter fun k=>Nat.blt k 1000000
def xA:Lb->Bool
 | .box _ _ cs=>cs.all jE
 |_=>false
def pj(u:Nat)(ds:List Nat)(e:Env)(r:Fr):Bool:=(r.drop u).all xA&&ds.all fun d=>(e d).refs.all fun i=>Nat.blt i u
def xS(l:List Oper):List Nat:=l.filterMap (·.dst)
def pm(g:Cfg)(C:CallF)(effs:List Nat)(ops:Array Oper)(env:Env)(fr:Fr):Option (Env×Fr):=match effs with
 |[]=>none
 |N::_=>match f_ g C effs ops 0 ops.toList env fr with
  |none=>none
  |some (e,r)=>match pj fr.length (xS (ops.toList.take N)) e r with
   |true=>some (e,r)
   |false=>none
def vu(ks:List Nat)(x:SV):Bool:=x.refs.all fun r=>!bI ks r
def sZ(ks:List Nat)(b:Lb):Bool:=b.refs.all fun r=>!bI ks r
def p9(ops:Array Oper)(o:Oper):List Nat:=tV o.op++(o.dst.toList++o.after.toList.filterMap fun e=>match ops[e.on]? with
 |some u=>u.dst
 |none=>none)
def vo:Op->Bool
 | .call ⟨.builtin .append,_,_⟩=>true
 |_=>false
def yG(effs:List Nat)(ops:Array Oper)(m:Nat)(env:Env)(fr:Fr)(om:Oper)(ks:List Nat):Bool:=bI effs m&&(vo om.op&&((effs.all fun e=>Nat.ble e m ||Nat.ble ops.size e)&&(List.range ops.size).all fun i=>Nat.beq i m ||match Nat.blt i m with
 |false=>((Region.before ops).getD i 0).testBit m
 |true=>((Region.before ops).getD m 0).testBit i ||match ops[i]? with
  |some o=>!bI effs i&&(oQ ops o.op i m&&((p9 ops o).all (fun t=>vu ks (env t))&&match dy env o.op with
   |some v=>v.all fun b=>!bI ks b&&match fr[b]? with
    |some u=>sZ ks u
    |none=>true
   |none=>false))
  |none=>true))
def qM(g:Cfg)(C:CallF)(m:Nat)(effs:List Nat)(ops:Array Oper)(env:Env)(fr:Fr):Option (Env×Fr):=match f_ g C effs ops 0 (ops.toList.take m) env fr with
 |none=>none
 |some (e,r)=>match ops.toList.drop m with
  |[]=>none
  |o::l=>match o.guard with
   |some _=>none
   |none=>match bX g C e r o.op with
    |none=>none
    |some (x,u,ks)=>match yG effs ops m e r o ks with
     |true=>f_ g C effs ops (m+1) l (aE (dR ks e) o.dst x) u
     |false=>none
def x_(P:Program)(env:Env)(fr:Fr)(op:Op):Option (SV×Fr):=match op with
 | .buildSlice t len u=>match(u.toList.all fun p=>(bw (rd env p.2)).all du)with
  |true=>match sn P t len (u.toList.map fun p=>(p.1,rd env p.2))with
   |some (c::v)=>some (.ls fr.length,fr++[.row false false c.length (c::v)])
   |_=>none
  |false=>none
 |_=>none
def sI(g:Cfg)(C:CallF)(k:Nat)(ops:Array Oper)(env:Env)(fr:Fr):Option (Env×Fr):=match dQ g C none ops 0 (ops.toList.take k) env fr with
 |none=>none
 |some (e,r)=>match ops.toList.drop k with
  |[]=>none
  |o::l=>match o.guard with
   |some _=>none
   |none=>match x_ g.P e r o.op with
    |none=>none
    |some (x,u)=>dQ g C none ops (k+1) l (aE e o.dst x) u
def nj(g:Cfg)(f:Nat)(C:CallF)(id:Nat)(ops:Array Oper)(u:Bool)(env:Env)(fr:Fr):Option (Env×Fr):=match u with
 |false=>match g.eff f id with
  |[]=>dQ g C none ops 0 ops.toList env fr
  |k::_=>sI g C k ops env fr
 |true=>match qH (g.eff f id)with
  |0=>dQ g C (some (g.eff f id)) ops 0 ops.toList env fr
  |1=>f_ g C (g.eff f id) ops 0 ops.toList env fr
  |4=>pm g C (sU (g.eff f id)) ops env fr
  |5=>qM g C (CW (g.eff f id)) (sU (g.eff f id)) ops env fr
  |_=>none
def c9:List (Nat×SV)->Env
 |[]=>fun _=>.dead
 |(t,v)::r=>fun u=>match Nat.beq u t with
  |true=>v
  |false=>c9 r u
def cX:Code->Nat
 | .region i _ _=>i
 | .seq a _=>cX a
 | .block _ b=>cX b
 | .loop b=>cX b
 |_=>0
def vO(fr:Fr):SV->Option (Nat×TypeId)
 | .lp i 0=>match fr[i]? with
  |some (.box false T [.nil])=>some (i,T)
  |_=>none
 |_=>none
def vP(fr:Fr):List SV->Option (Nat×TypeId)
 |[]=>none
 |s::r=>match vO fr s with
  |some x=>some x
  |none=>vP fr r
def zj(fr:Fr):SV->Option (Nat×TypeId)
 | .fn _ _ cs=>vP fr cs
 |s=>vO fr s
def gK(sl:List (Nat×Nat))(env:Env)(fr:Fr):Env×Fr:=match sl with
 |[]=>(env,fr)
 |(t,sz)::r=>match Nat.beq sz 0 with
  |true=>match iN fr deep (un (env t))with
   |some x=>gK r (cV env t (.t x)) (freeze fr (nD fr deep (un (env t))))
   |none=>gK r env fr
  |false=>match env t with
   | .nil=>gK r (cV env t (.ls fr.length)) (fr++[.row false false sz []])
   | .tc []=>gK r (cV env t (.ls fr.length)) (fr++[.row false false sz []])
   |s=>match zj fr s with
    |some (i,T)=>gK r env (fr.set i (.box false T [.ls fr.length])++[.row false false sz []])
    |none=>gK r env fr
def nX(fr:Fr)(h:Nat)(s:SV):SV:=match s.refs.any (Nat.ble h)with
 |false=>s.sub (lF h)
 |true=>match(nD fr deep s).all (Nat.ble h),iN fr deep s with
  |true,some x=>.t x
  |_,_=>s.sub (lF h)
def kz(l:List Nat)(h:Nat)(fr:Fr):Nat:=match bI l 1000000 with
 |true=>fr.length
 |false=>h
def JK(l:List Nat)(fr:Fr):kz l fr.length fr=fr.length:=by unfold kz;split <;>rfl
def head(lv:Option (List Nat))(h:Nat)(env:Env)(fr:Fr):Env×Fr:=match lv with
 |none=>(env,fr)
 |some l=>(c9 (l.map fun t=>(t,nX fr (kz l h fr) (un (env t)))),trim (kz l h fr) fr)
def oK:List Nat->List AV->Env->Env
 |p::u,y::v,env=>oK u v (cV env p (.t y))
 |_,_,env=>env
def lR(lv:Option (List Nat))(A B:Env->Fr->Option (Out×Env×Fr))(u:List Nat)(y:List AV)(env:Env)(fr:Fr):Option (Out×Env×Fr):=
 match Nat.beq y.length u.length with
 |false=>none
 |true=>match dX fr (List.range fr.length)with
  |none=>none
  |some bs=>match A (oK u y fun t=>(env t).sub (bc (List.range fr.length))) (bs.map fun b=>cU (b.sub (bc (List.range fr.length))))with
   |some (.normal,e,r)=>match B e r with
    |none=>none
    |some (o,_,r')=>match kindOk (List.range fr.length) r' fr with
     |false=>none
     |true=>match o with
      | .normal=>some (.normal,(head lv fr.length (dR (dL (List.range fr.length) r') env) (back (List.range fr.length) fr r')).1,(head lv fr.length (dR (dL (List.range fr.length) r') env) (back (List.range fr.length) fr r')).2)
      |o=>some (o,dR (dL (List.range fr.length) r') env,back (List.range fr.length) fr r')
   |_=>none
def kV(lv:Option (List Nat))(A B:Env->Fr->Option (Out×Env×Fr))(u:List Nat)(wh:Bool):List (List AV)->Env->Fr->Option (Out×Env×Fr)
 |[],env,fr=>match wh with
  |true=>some (.normal,env,fr)
  |false=>none
 |y::v,env,fr=>match lR lv A B u y env fr with
  |some (.normal,e,r)=>kV lv A B u wh v e r
  |x=>x
def bq(g:Cfg)(f:Nat)(C:CallF)(Lp:LoopF):Code->Env->Fr->Option (Out×Env×Fr)
 | .skip,env,fr=>some (.normal,env,fr)
 | .region id ops u,env,fr=>match nj g f C id ops u env fr with
  |some (e,r)=>some (.normal,e,r)
  |none=>none
 | .seq a b,env,fr=>match bq g f C Lp a env fr with
  |some (.normal,e,r)=>bq g f C Lp b e r
  |x=>x
 | .cond c a b,env,fr=>match rd env c with
  | .t (.bool true)=>bq g f C Lp a env fr
  | .t (.bool false)=>bq g f C Lp b env fr
  |_=>none
 | .block id b,env,fr=>match bq g f C Lp b env fr with
  |some (.exit i,e,r)=>match Nat.beq i id with
   |true=>some (.normal,e,r)
   |false=>some (.exit i,e,r)
  |x=>x
 | .loop b,env,fr=>Lp f b (head (g.lv f (cX b)) (gK (g.own f (cX b)) env fr).2.length (gK (g.own f (cX b)) env fr).1 (gK (g.own f (cX b)) env fr).2).1 (head (g.lv f (cX b)) (gK (g.own f (cX b)) env fr).2.length (gK (g.own f (cX b)) env fr).1 (gK (g.own f (cX b)) env fr).2).2
 | .exit id,env,fr=>some (.exit id,env,fr)
 | .ret,env,fr=>some (.ret,env,fr)
 | .rangeFunc op D asg body,env,fr=>match eK (rd env op)with
  |some (z,[],bs)=>match cJ fr bs with
   |none=>none
   |some y=>match g.seq z y with
    |none=>none
    |some (v,G)=>kV (g.lv f (cX body)) (bq g f C Lp asg) (bq g f C Lp body) D.toList G v env (freeze fr (br fr bs))
  |_=>none
 |_,_,_=>none
mutual
def eT(fr:Fr):SV->SV
 | .ls i=>match fr[i]? with
  |some (.row true _ _ es)=>.t (.arr es)
  |_=>.ls i
 | .agg u=>match iH (lY fr u)with
  |some xs=>.t (.agg xs)
  |none=>.agg (lY fr u)
 | .aN u=>.aN (lY fr u)
 | .fn f v u=>u_ f v (lY fr u)
 | .aT s=>eT fr s
 |s=>s
def lY(fr:Fr):List SV->List SV
 |[]=>[]
 |c::u=>eT fr c::lY fr u
end
def Em(P:Program)(env:Env)(fr:Fr):Nat×Option Nat->Option SV
 |(t,none)=>some (env t)
 |(t,some T)=>fO P fr T (un (env t))
def tD(P:Program)(env:Env)(fr:Fr):List (Nat×Option Nat)->Option (List SV)
 |[]=>some []
 |r::u=>match Em P env fr r with
  |none=>none
  |some x=>match tD P env fr u with
   |none=>none
   |some xs=>some (x::xs)
def oH(P:Program)(env:Env)(fr:Fr)(u:List (Nat×Option Nat)):Option SV:=match tD P env fr u with
 |none=>none
 |some [x]=>some x
 |some xs=>some (.aN xs)
def inner(m:Nat)(fr:Fr):List Nat->List Nat
 |[]=>[]
 |i::r=>(match fr[i]? with
  |some (.box _ _ cs)=>(br fr (cs.filter fun c=>c.refs.any fun k=>Nat.ble m k)).filter (Nat.ble m)
  |_=>[])++inner m fr r
def v8(fr:Fr):List Nat->Bool
 |[]=>true
 |i::r=>match fr[i]? with
  |some b=>b.ro&&v8 fr r
  |none=>false
def zN(m:Nat)(fr:Fr)(c:SV):SV:=match c.refs.any fun k=>Nat.ble m k with
 |false=>c
 |true=>match iN fr deep c,v8 fr (nD fr deep c)with
  |some x,true=>.t x
  |_,_=>c
def jb(m:Nat)(fr:Fr):Lb->Lb
 | .box v T u=>.box v T (u.map (zN m fr))
 |b=>b
def gP:Nat->Fr->Fr
 |_,[]=>[]
 |0,b::bs=>cU b::gP 0 bs
 |n+1,b::bs=>b::gP n bs
def fin(m:Nat)(D:SV)(fr:Fr):Option (SV×Fr):=
 let z:=eT fr (un D)
 let u:=cB (List.range m) z.refs
 match u with
 |[]=>some (z,[])
 |_=>
  let fr1:=freeze fr (inner m fr u)
  match dX fr1 u with
  |none=>none
  |some bs=>
   let v:=bs.map (jb m fr1)
   match mZ u v with
   |false=>match dX fr (close fr 4 u)with
    |none=>none
    |some y=>match mZ (close fr 4 u) y with
     |false=>none
     |true=>some (z.sub (bc (close fr 4 u)),gP m (y.map (Lb.sub (bc (close fr 4 u)))))
   |true=>some (z.sub (bc u),gP m (v.map (Lb.sub (bc u))))
def nl(m:Nat)(o:Option SV)(fr:Fr):Option (SV×Fr):=match o with
 |some r=>fin m r fr
 |none=>none
def qf(b:Bool)(m:Nat)(o:Option (SV×Fr)):Option (SV×Fr):=match b with
 |false=>o
 |true=>match o with
  |none=>none
  |some (r,u)=>match m with
   |0=>match iN u deep r with
    |some x=>some (.t x,[])
    |none=>some (r,u)
   |_+1=>some (r,u)
def kR(xs:List SV):Env:=fun t=>match xs[t]? with|some x=>x|none=>.dead
def fP:List ResultVar->List (Nat×Option Nat)
 |[]=>[]
 | .tmp t::r=>(t,none)::fP r
 | .cell t T::r=>(t,some T)::fP r
mutual
def cO(g:Cfg):Nat->Nat->List SV->Fr->Option (SV×Fr)
 |0,_,_,_=>none
 |n+1,f,u,fr=>match g.ok f with
  |false=>match fr,iH u with
   |[],some xs=>g.ext f xs
   |_,_=>g.exh f u fr
  |true=>match g.P.funcs[f]? with
   |none=>none
   |some fn=>match fn.body with
    |some c=>match Nat.ble u.length fn.ntmps with
     |false=>none
     |true=>match bq g f (cO g n) (dE g n) c (kR u) fr with
      |some (.normal,e,r)=>qf (g.tre f) fr.length (nl fr.length (oH g.P e r (fP fn.results.toList)) r)
      |some (.ret,e,r)=>qf (g.tre f) fr.length (nl fr.length (oH g.P e r (fP fn.results.toList)) r)
      |_=>none
    |none=>none
def dE(g:Cfg):Nat->Nat->Code->Env->Fr->Option (Out×Env×Fr)
 |0,_,_,_,_=>none
 |n+1,f,b,env,fr=>match bq g f (cO g n) (dE g n) b env fr with
  |some (.normal,e,r)=>dE g n f b (head (g.lv f (cX b)) fr.length e r).1 (head (g.lv f (cX b)) fr.length e r).2
  |x=>x
end
mutual
theorem SV.wC:∀x:SV,SV.sub some x=x
 | .t x=>by rw[SV.sub]
 | .nil=>by rw[SV.sub]
 | .tc v=>by rw[SV.sub]
 | .nn v=>by rw[SV.sub]
 | .lp i j=>by rw[SV.sub]
 | .ls i=>by rw[SV.sub]
 | .lv i sz a n=>by rw[SV.sub]
 | .le i sz k j=>by rw[SV.sub]
 | .lm i=>by rw[SV.sub]
 | .lo i p=>by rw[SV.sub]
 | .lr i p k=>by rw[SV.sub]
 | .agg u=>by rw[SV.sub,SV.mK u]
 | .aN u=>by rw[SV.sub,SV.mK u]
 | .fn f y u=>by rw[SV.sub,SV.mK u]
 | .aT s=>by rw[SV.sub,SV.wC s]
 | .no=>by rw[SV.sub]
 | .dead=>by rw[SV.sub]
theorem SV.mK:∀cs:List SV,SV.cC some cs=cs
 |[]=>by rw[SV.cC]
 |c::cs=>by rw[SV.cC,SV.wC c,SV.mK cs]
end
def qV{l:List Nat}{i:Nat}:bI l i=true↔i∈l:=by
 unfold bI;rw[List.any_eq_true];constructor
 ·rintro⟨j,u,h⟩;rw[Nat.beq_eq]at h;rw[h];exact u
 ·intro h;exact⟨i,h,by simp⟩
def fp{l:List Nat}{i:Nat}:bI l i=false↔i∉l:=by
 rw[<- Bool.not_eq_true,qV]
def yH{ks:List Nat}{i j:Nat}(h:dD ks i=some j):j=i/\i∉ks:=by
 unfold dD at h;split at h
 ·cases h
 ·rename_i u;cases h;exact⟨rfl,fp.1 u⟩
def DB{h i j:Nat}(hh:lF h i=some j):j=i/\i <h:=by
 unfold lF at hh;split at hh
 ·rename_i u;cases hh;exact⟨rfl,by simpa[Nat.blt_eq]using u⟩
 ·cases hh
theorem CP(l:List Nat):∀(fr:Fr) (k i:Nat),(od l k fr)[i]?=(fr[i]?).map (Q1 (bI l (k+i)))
 |[],k,i=>by simp[od]
 |b::r,k,0=>by simp[od]
 |b::r,k,i+1=>by
  rw[od,List.getElem?_cons_succ,List.getElem?_cons_succ,CP l r (k+1) i];rw[show k+1+i=k+(i+1) by omega]
def sT(l:List Nat)(fr:Fr)(i:Nat):(freeze fr l)[i]?=(fr[i]?).map (Q1 (bI l i)):=by
 unfold freeze;split
 ·cases fr[i]? <;>rfl
 ·rw[CP,Nat.zero_add]
def qR(l:List Nat)(fr:Fr):(freeze fr l).length=fr.length:=by
 have u:∀(fr:Fr) (k:Nat),(od l k fr).length=fr.length:=fun fr=>by
  induction fr with
  |nil=>intro k;rfl
  |cons b r v=>intro k;rw[od];simp[v]
 unfold freeze;split
 ·rfl
 ·exact u fr 0
def vx(ks:List Nat)(fr:Fr)(i:Nat):(e_ ks fr)[i]?=(fr[i]?).map (Lb.sub (dD ks)):=by
 unfold e_;split
 ·have:dD []=some:=rfl;rw[this]
  have:Lb.sub some=id:=by
   funext b;cases b <;>simp[Lb.sub,SV.mK]
  rw[this];simp
 ·rw[List.getElem?_map]
def oo(ks:List Nat)(fr:Fr):(e_ ks fr).length=fr.length:=by
 unfold e_;split
 ·rfl
 ·simp
def Lb.wC(b:Lb):Lb.sub some b=b:=by cases b <;>simp[Lb.sub,SV.mK]
def Lb.oS(σ:Nat->Option Nat)(b:Lb):(b.sub σ).ro=b.ro:=by cases b <;>rfl
def Lb.wE(σ:Nat->Option Nat)(b:Lb):(b.sub σ).tch=b.tch:=by cases b <;>rfl
def iP(σ:Nat->Option Nat):Lb->Lb->Prop
 | .box v T I,.box u G y=>(v=true->u=true)/\G=T/\y=SV.cC σ I
 | .row v _ sz es,.row u _ sz' es'=>(v=true->u=true)/\sz'=sz/\es'=es
 | .map v ks J,.map u z D=>(v=true->u=true)/\z=ks/\D=SV.cC σ J
 | .own v x,.own u U=>(v=true->u=true)/\U=x
 |_,_=>False
theorem iP.ro{σ:Nat->Option Nat}{b u:Lb}(h:iP σ b u)(hr:u.ro=false):b.ro=false:=by
 cases b <;>cases u <;>first|exact h.elim|skip
 all_goals
  rw[<- Bool.not_eq_true];intro h1;have:=h.1 h1;exact absurd (this.symm.trans hr) (by decide)
def nR(σ:Nat->Option Nat)(b:Lb):iP σ b (b.sub σ):=by cases b <;>first|exact⟨id,rfl,rfl⟩|exact⟨id,rfl⟩
def Bs(b:Lb):iP some b b:=by
 cases b with
 |box=>exact⟨id,rfl,(SV.mK _).symm⟩
 |row=>exact⟨id,rfl,rfl⟩
 |map=>exact⟨id,rfl,(SV.mK _).symm⟩
 |own=>exact⟨id,rfl⟩
def Hx(b:Lb):iP some b (wo b):=by
 cases b with
 |box=>exact⟨fun _=>rfl,rfl,(SV.mK _).symm⟩
 |row=>exact⟨fun _=>rfl,rfl,rfl⟩
 |map=>exact⟨fun _=>rfl,rfl,(SV.mK _).symm⟩
 |own=>exact⟨fun _=>rfl,rfl⟩
def Hv(b:Lb)(q:Bool):iP some b (Q1 q b):=by
 cases q
 ·exact Bs b
 ·exact Hx b
def Ot(b:Lb):(wo b).ro=true:=by cases b <;>rfl
def Ou(b:Lb):(wo b).tch=b.tch:=by cases b <;>rfl
def JB(b:Lb)(q:Bool):(Q1 q b).tch=b.tch:=by
 cases q
 ·rfl
 ·exact Ou b
def QW(n:Nat)(L:Ls)(π:Nat->Nat):Ls:=fun j=>if j <n then L (π j)else none
section
variable {γ:Glob} {κ:Ctx} {fr:Fr} {L:Ls} {w:World}
def py{A A':Nat->Prop}{L L':Ls}{w w':World}{σ:Nat->Option Nat}{i j:Nat}{b U:Lb}(hs:w.heap.size<=w'.heap.size)(hA:∀b,b <w.heap.size->A b->A' b/\w'.heap[b]?=w.heap[b]?)(hL:∀i j v,σ i=some j->L i=some v->L' j=some v)
  (D:∀v,L i=some v->L' j=some v)(z:∀v k,L i=some v->Bk v k->w'.heap[k]?=w.heap[k]?)(Z:∀T sz v n us,L i=some v->cm w T sz v n us->cm w' T sz v n us)(hb:iP σ b U)(h:jV A L w i b):jV A' L' w' j U:=by
 cases b with
 |box ro T cs=>
  cases U with
  |box J T' ag=>
   obtain⟨_,rfl,rfl⟩:=hb;obtain⟨g,us,h1,h2,h3,h4⟩:=h;refine⟨g,us,D _ h1,(z _ g h1 (.one rfl)).trans h2,by rw[SV.rS];exact h3,fun k x u y hu=>?_⟩;rw[SV.rR]at y
   cases I:cs[k]? with
   |none=>rw[I]at y;cases y
   |some c=>rw[I]at y;cases y;exact SR.sub σ hs hA hL (h4 k c u I hu)
  |row=>exact hb.elim
  |map=>exact hb.elim
  |own=>exact hb.elim
 |row ro ap sz es=>
  cases U with
  |box=>exact hb.elim
  |map=>exact hb.elim
  |own=>exact hb.elim
  |row J ad ao al=>
   obtain⟨_,rfl,rfl⟩:=hb;obtain⟨T,v,us,h1,h2,ab,h3,h4⟩:=h;refine⟨T,v,us,D _ h1,Z T _ v _ us h1 h2,ab,h3,fun k q cs x hk hq=>?_⟩;obtain⟨u,h5,h6⟩:=h4 k q cs x hk hq;exact⟨u,h5,VR.on hs hA h6⟩
 |map ro ks vs=>
  cases U with
  |box=>exact hb.elim
  |row=>exact hb.elim
  |own=>exact hb.elim
  |map J an au=>
   obtain⟨_,rfl,rfl⟩:=hb;obtain⟨r,V,G,h1,h2,h3,h4,h5,h6,h7⟩:=h;refine⟨r,V,G,D _ h1,(z _ r h1 (.one rfl)).trans h2,h3,by rw[SV.rS];exact h4,fun k x u y hu=>VR.on hs hA (h5 k x u y hu),fun k x u y hu=>?_,h7⟩;rw[SV.rR]at y
   cases I:vs[k]? with
   |none=>rw[I]at y;cases y
   |some c=>rw[I]at y;cases y;exact SR.sub σ hs hA hL (h6 k c u I hu)
 |own ro x=>
  cases U with
  |box=>exact hb.elim
  |row=>exact hb.elim
  |map=>exact hb.elim
  |own J x'=>
   obtain⟨_,rfl⟩:=hb;obtain⟨v,t,h1,h2⟩:=h;exact⟨v,t,D _ h1,h2.same fun b hb=>z _ b h1 hb⟩
def ar.tI(y:ar γ κ fr L w)(fr':Fr)(π:Nat->Nat)(σ:Nat->Option Nat)(ab:∀j k,j <fr'.length->k <fr'.length->π j=π k->j=k)(hσ:∀i j v,σ i=some j->L i=some v->j <fr'.length/\π j=i)
  (D:∀j lb',fr'[j]?=some lb'->∃z,fr[π j]?=some z/\iP σ z lb')(U:∀j v,κ.L j=some v->∃z lb',fr[j]?=some z/\fr'[j]?=some lb'/\π j=j/\(lb'.tch=false->z.tch=false)):
  ar γ κ fr' (QW fr'.length L π) w/\(∀b,MA κ.M fr L b->MA κ.M fr' (QW fr'.length L π) b)/\∀i j v,σ i=some j->L i=some v->QW fr'.length L π j=some v:=by
 have u:∀j v,QW fr'.length L π j=some v->j <fr'.length/\L (π j)=some v:=fun j v h=>by
  unfold QW at h;split at h
  ·rename_i G;exact⟨G,h⟩
  ·cases h
 have V:∀i j v,σ i=some j->L i=some v->QW fr'.length L π j=some v:=fun i j v h1 h2=>by
  obtain⟨G,hp⟩:=hσ i j v h1 h2;unfold QW;rw[if_pos G,hp];exact h2
 have Z:∀b,MA κ.M fr L b->MA κ.M fr' (QW fr'.length L π) b:=fun b hb=>⟨hb.1,fun⟨j,v,lb',h1,h2,h3,h4⟩=>by
  obtain⟨G,h1⟩:=u j v h1;obtain⟨z,I,J⟩:=D j lb' h3;exact hb.2 ⟨π j,v,z,h1,h2,I,J.ro h4⟩⟩
 refine⟨⟨y.glob,y.gn,y.gx,y.fresh,y.os,y.tape,y.output,y.size,y.kept,fun j v h=>(u j v h).1,fun j v b lb' h1 h2 h3=>?_,fun j k v v' b h1 h2 h3 h4=>?_,fun j v h=>?_,fun j lb' h=>?_⟩,Z,V⟩
 ·obtain⟨G,h1⟩:=u j v h1;obtain⟨z,I,J⟩:=D j lb' h3;obtain⟨a1,a2,a0,a3⟩:=y.new (π j) v b z h1 h2 I;exact⟨a1,a2,a0,fun hr=>a3 (J.ro hr)⟩
 ·obtain⟨G,h1⟩:=u j v h1;obtain⟨hk,h2⟩:=u k v' h2;exact ab j k G hk (y.dis _ _ v v' b h1 h2 h3 h4)
 ·obtain⟨z,lb',h1,h2,h3,h4⟩:=U j v h;refine⟨lb',h2,fun ht=>?_⟩;obtain⟨ad,I,J⟩:=y.hand j v h;rw[h1]at I;cases I;unfold QW;rw[if_pos (aC h2),h3];exact J (h4 ht)
 ·obtain⟨z,I,J⟩:=D j lb' h;have G:=aC h;refine py (i:=π j) (Nat.le_refl _) (fun b _ hb=>⟨Z b hb,rfl⟩) V (fun v hv=>?_) (fun _ _ _ _=>rfl) (fun _ _ _ _ _ _ h=>h) J (y.blk (π j) z I);unfold QW;rw[if_pos G];exact hv
end
end Go.Proofs.YtcgdbhlnkificaaGreatDoor
