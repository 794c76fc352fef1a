/- The tree evaluator,1: values as trees,slots,blocks of a. No condition. -/
import Derived.Test.YtgbfedgghjcdcaaGreatDoorProg
import Derived.WalkKit
import Derived.OrdersIn
import Derived.TacticsIn
import Derived.RangeFuncCalls
import Derived.WalkSpells
import Derived.WalkLawsBesides
import Derived.Below
import Derived.Laws.OwnMore
import Derived.Deep.AppendLies
import Derived.Deep.Draws
import Derived.Deep.QuietTactic
import Derived.BigQuiet
import Derived.Lib.Hide
import Derived.Deep.LoopGhost
import Derived.Deep.Cut
import Derived.Laws.Tables
import Derived.Laws.StructEq
set_option linter.all false
namespace Go.Proofs.YtgbfedgghjcdcaaGreatDoor
open Go.RowKit
theorem aC{α:Type}{xs:List α}{k:Nat}{n:α}(h:xs[k]?=some n):k <xs.length:=(List.getElem?_eq_some_iff.1 h).1
theorem av{α:Type}{xs:List α}{k:Nat}(h:k <xs.length):∃n,xs[k]?=some n:=⟨xs[k],List.getElem?_eq_getElem h⟩
theorem yZ{w w':World}{base:Nat}{e:TypeId}{size:Nat}{v:Value}{n:Nat}{xs:List Value}(h:w.ownsRow base e size v n xs)(hb:Below w.heap.size w w'):w'.ownsRow base e size v n xs:=
 h.kept (row:=none) ⟨hb.os,hb.tape,hb.output,hb.size,fun k u _=>hb.block k u⟩ (by cases h:v.ownBlock <;>simp)
inductive AV where
 |int (k:IntKind) (n:Int)
 |bool (b:Bool)
 |str (s:ByteArray)
 |arr (es:List (List AV))
 |tp (cs:List AV)
 |agg (cs:List AV)
 |aL (vs:List AV)
 |fn (f:Fn) (nf:Nat) (caps:List AV)
 |mp (ks vs:List AV)
 |lit (v:Value)
 |gI
instance:Inhabited AV:=⟨.bool false⟩
def xp:Value->Bool
 | .bool _|.int ..|.float ..|.complex ..|.string _|.nilFunc|.nilIface=>true
 | .pointer none|.map none|.chan none=>true
 | .slice none _ _=>true
 |_=>false
inductive VR (M:Nat->Prop) (w:World):AV->Value->Prop where
 |int (k n):VR M w (.int k n) (.int k n)
 |bool (b):VR M w (.bool b) (.bool b)
 |str (s):VR M w (.str s) (.string s)
 |bj (A c):VR M w (.arr []) (.slice A 0 c)
 |arr (b o c sz:Nat) (es:List (List AV)) (us:Nat->Nat->Value) (hne:es≠[]) (hlen:es.length<=140737488351232) (hcap:es.length<=c) (hb:b <w.heap.size) (hM:M b) (hsz:∀(k:Nat) (cs:List AV),es[k]?=some cs->cs.length=sz)
   (hc:∀(k j:Nat),k <es.length->j <sz->w.cell? ⟨b,o+(k*sz+j),none⟩=some (us k j))
   (hr:∀(k j:Nat) (cs:List AV) (x:AV),es[k]?=some cs->cs[j]?=some x->VR M w x (us k j)):VR M w (.arr es) (.slice (some ⟨b,o,none⟩) es.length c)
 |tp (b o:Nat) (cs:List AV) (us:Nat->Value) (hne:cs≠[]) (hb:b <w.heap.size) (hM:M b) (hc:∀(j:Nat),j <cs.length->w.cell? ⟨b,o+j,none⟩=some (us j))
   (hr:∀(j:Nat) (x:AV),cs[j]?=some x->VR M w x (us j)):VR M w (.tp cs) (.pointer (some ⟨b,o,none⟩))
 |agg (cs:List AV) (us:Array Value) (hl:us.size=cs.length) (hr:∀(j:Nat) (x:AV) (u:Value),cs[j]?=some x->us[j]?=some u->VR M w x u):VR M w (.agg cs) (.agg us)
 |aL (cs:List AV) (us:Array Value) (hl:us.size=cs.length) (hr:∀(j:Nat) (x:AV) (u:Value),cs[j]?=some x->us[j]?=some u->VR M w x u):VR M w (.aL cs) (.tuple us)
 |fn (f:Fn) (cs:List AV) (fs us:Array Value) (hl:(fs++us).size=cs.length) (hr:∀(j:Nat) (x:AV) (u:Value),cs[j]?=some x->(fs++us)[j]?=some u->VR M w x u):VR M w (.fn f fs.size cs) (.func f fs us)
 |mp (r:Nat) (ks vs:List AV) (ents:Array MapEntry) (clock:Nat) (hb:r <w.heap.size) (hM:M r) (hh:w.heap[r]?=some (.map ents clock)) (hk:ents.size=ks.length) (hv:ents.size=vs.length)
   (hrk:∀(j:Nat) (x:AV) (u:MapEntry),ks[j]?=some x->ents[j]?=some u->VR M w x u.key) (hrv:∀(j:Nat) (x:AV) (u:MapEntry),vs[j]?=some x->ents[j]?=some u->VR M w x u.val):VR M w (.mp ks vs) (.map (some r))
 |lit (v) (h:xp v=true):VR M w (.lit v) v
 |gI (t:TypeId) (v:Value):VR M w .gI (.iface t v)
def VR.on{M M':Nat->Prop}{w w':World}(hs:w.heap.size<=w'.heap.size)(O:∀b,b <w.heap.size->M b->M' b/\w'.heap[b]?=w.heap[b]?)
  {x:AV}{v:Value}(h:VR M w x v):VR M' w' x v:=by
 induction h with
 |int k n=>exact .int k n
 |bool b=>exact .bool b
 |str s=>exact .str s
 |bj A c=>exact .bj A c
 |arr b o c sz es D J Z U y u ad hc hr z=>exact .arr b o c sz es D J Z U (Nat.lt_of_lt_of_le y hs) (O b y u).1 ad (fun k j hk hj=>by rw[World.cell?_of_block (w:=w) (O b y u).2];exact hc k j hk hj) z
 |tp b o I D J y u hc hr z=>exact .tp b o I D J (Nat.lt_of_lt_of_le y hs) (O b y u).1 (fun j hj=>by rw[World.cell?_of_block (w:=w) (O b y u).2];exact hc j hj) z
 |agg I D V hr z=>exact .agg I D V z
 |aL I D V hr z=>exact .aL I D V z
 |fn f I fs D V hr z=>exact .fn f I fs D V z
 |mp r ks vs Q G y u hh hk hv ak al af ag=>exact .mp r ks vs Q G (Nat.lt_of_lt_of_le y hs) (O r y u).1 (by rw[(O r y u).2];exact hh) hk hv af ag
 |lit v h=>exact .lit v h
 |gI t v=>exact .gI t v
def VR.len{M:Nat->Prop}{w:World}{es:List (List AV)}{v:Value}(h:VR M w (.arr es) v):es.length<=140737488351232:=by
 cases h with
 |bj A c=>simp
 |arr b o c sz es z y u=>exact u
inductive SV where
 |t (x:AV)
 |nil
 |tc (es:List (List AV))
 |nn (es:List (List AV))
 |lp (i j:Nat)
 |ls (i:Nat)
 |lv (i sz a n:Nat)
 |le (i sz k j:Nat)
 |lm (i:Nat)
 |lo (i:Nat) (p:List Nat)
 |lr (i:Nat) (p:List Nat) (k:Nat)
 |agg (cs:List SV)
 |aL (cs:List SV)
 |fn (f:Fn) (nf:Nat) (caps:List SV)
 |aN (s:SV)
 |no
 |dead
instance:Inhabited SV:=⟨.dead⟩
inductive Lb where
 |box (ro:Bool) (T:TypeId) (cs:List SV)
 |row (ro tch:Bool) (sz:Nat) (es:List (List AV))
 |map (ro:Bool) (ks:List AV) (vs:List SV)
 |own (ro:Bool) (x:AV)
def Lb.ro:Lb->Bool
 | .box ro _ _=>ro
 | .row ro _ _ _=>ro
 | .map ro _ _=>ro
 | .own ro _=>ro
abbrev Fr:=List Lb
abbrev Env:=Nat->SV
mutual
def SV.sub(σ:Nat->Option Nat):SV->SV
 | .t x=>.t x
 | .nil=>.nil
 | .tc v=>.tc v
 | .nn v=>.nn v
 | .lp i j=>match σ i with|some k=>.lp k j|none=>.dead
 | .ls i=>match σ i with|some k=>.ls k|none=>.dead
 | .lv i sz a n=>match σ i with|some k=>.lv k sz a n|none=>.dead
 | .le i sz e j=>match σ i with|some k=>.le k sz e j|none=>.dead
 | .lm i=>match σ i with|some k=>.lm k|none=>.dead
 | .lo i p=>match σ i with|some k=>.lo k p|none=>.dead
 | .lr i p e=>match σ i with|some k=>.lr k p e|none=>.dead
 | .agg u=>.agg (SV.ca σ u)
 | .aL u=>.aL (SV.ca σ u)
 | .fn f y u=>.fn f y (SV.ca σ u)
 | .aN s=>.aN (SV.sub σ s)
 | .no=>.no
 | .dead=>.dead
def SV.ca(σ:Nat->Option Nat):List SV->List SV
 |[]=>[]
 |c::u=>SV.sub σ c::SV.ca σ u
end
mutual
def SV.refs:SV->List Nat
 | .t _|.nil|.tc _|.nn _|.no|.dead=>[]
 | .lp i _|.ls i|.lv i _ _ _|.le i _ _ _|.lm i|.lo i _|.lr i _ _=>[i]
 | .agg cs|.aL cs|.fn _ _ cs=>SV.fH cs
 | .aN s=>SV.refs s
def SV.fH:List SV->List Nat
 |[]=>[]
 |c::u=>SV.refs c++SV.fH u
end
def Lb.sub(σ:Nat->Option Nat):Lb->Lb
 | .box u T y=>.box u T (SV.ca σ y)
 | .row u v sz z=>.row u v sz z
 | .map u ks D=>.map u ks (SV.ca σ D)
 | .own u x=>.own u x
def Lb.refs:Lb->List Nat
 | .box _ _ cs=>SV.fH cs
 | .row ..=>[]
 | .map _ _ vs=>SV.fH vs
 | .own ..=>[]
theorem SV.oc(σ:Nat->Option Nat):∀cs:List SV,(SV.ca σ cs).length=cs.length
 |[]=>rfl
 |c::cs=>by rw[SV.ca];simp[SV.oc σ cs]
theorem SV.n_(σ:Nat->Option Nat):∀(cs:List SV) (j:Nat),(SV.ca σ cs)[j]?=(cs[j]?).map (SV.sub σ)
 |[],j=>by simp[SV.ca]
 |c::cs,0=>by simp[SV.ca]
 |c::cs,j+1=>by simp[SV.ca,SV.n_ σ cs j]
def bI:Value->Option Nat
 | .pointer (some a)=>some a.block
 | .slice (some a) _ (_+1)=>some a.block
 | .map (some r)=>some r
 |_=>none
def de:Value->Bool
 | .agg _|.tuple _=>false
 |_=>true
inductive Bk:Value->Nat->Prop where
 |one {v:Value} {b:Nat} (h:bI v=some b):Bk v b
 |many {us:Array Value} {k:Nat} {u:Value} {b:Nat} (hu:us[k]?=some u) (h:Bk u b):Bk (.tuple us) b
def Bk.of{v:Value}{b:Nat}(h:Bk v b)(hp:de v=true):bI v=some b:=by
 cases h with
 |one h=>exact h
 |many=>cases hp
theorem Bk.none{v:Value}{b:Nat}(h:Bk v b)(hp:de v=true)(hn:bI v=none):False:=by
 have:=h.of hp;rw[hn]at this;cases this
def fc:Value->List Nat->Option Value
 |t,[]=>some t
 | .tuple u,k::p=>match u[k+1]? with
  |some t=>fc t p
  |none=>none
 |_,_::_=>none
def jy(t:Value)(p:List Nat):Option Value:=match fc t p with
 |some (.tuple u)=>u[0]?
 |_=>none
abbrev Ls:=Nat->Option Value
def Own(fr:Fr)(L:Ls)(b:Nat):Prop:=∃i v u,L i=some v/\Bk v b/\fr[i]?=some u/\u.ro=false
def MA(M:Nat->Prop)(fr:Fr)(L:Ls)(b:Nat):Prop:=M b/\¬Own fr L b
inductive SR (A:Nat->Prop) (L:Ls) (w:World):SV->Value->Prop where
 |t (x:AV) (v:Value) (h:VR A w x v):SR A L w (.t x) v
 |nil:SR A L w .nil (.slice none 0 0)
 |tc (es:List (List AV)) (a:Option Addr) (h:VR A w (.arr es) (.slice a es.length es.length)):SR A L w (.tc es) (.slice a es.length es.length)
 |nn (es:List (List AV)) (a:Addr) (c:Nat) (h:VR A w (.arr es) (.slice (some a) es.length c)):SR A L w (.nn es) (.slice (some a) es.length c)
 |lp (i j g:Nat) (h:L i=some (.pointer (some ⟨g,0,none⟩))):SR A L w (.lp i j) (.pointer (some ⟨g,j,none⟩))
 |ls (i:Nat) (v:Value) (h:L i=some v) (hp:de v=true):SR A L w (.ls i) v
 |lv (i sz a n b m c:Nat) (h:L i=some (.slice (some ⟨b,0,none⟩) m c)):SR A L w (.lv i sz a n) (.slice (some ⟨b,a*sz,none⟩) n (c - a))
 |le (i sz k j b m c:Nat) (h:L i=some (.slice (some ⟨b,0,none⟩) m c)):SR A L w (.le i sz k j) (.pointer (some ⟨b,k*sz+j,none⟩))
 |lm (i r:Nat) (h:L i=some (.map (some r))):SR A L w (.lm i) (.map (some r))
 |lo (i:Nat) (p:List Nat) (t v:Value) (h:L i=some t) (hv:jy t p=some v) (hp:de v=true):SR A L w (.lo i p) v
 |lr (i:Nat) (p:List Nat) (k b n c:Nat) (t:Value) (h:L i=some t) (hv:jy t p=some (.slice (some ⟨b,0,none⟩) n c)):SR A L w (.lr i p k) (.pointer (some ⟨b,k,none⟩))
 |agg (cs:List SV) (us:Array Value) (hl:us.size=cs.length) (hr:∀(j:Nat) (x:SV) (u:Value),cs[j]?=some x->us[j]?=some u->SR A L w x u):SR A L w (.agg cs) (.agg us)
 |aL (cs:List SV) (us:Array Value) (hl:us.size=cs.length) (hr:∀(j:Nat) (x:SV) (u:Value),cs[j]?=some x->us[j]?=some u->SR A L w x u):SR A L w (.aL cs) (.tuple us)
 |fn (f:Fn) (cs:List SV) (fs us:Array Value) (hl:(fs++us).size=cs.length) (hr:∀(j:Nat) (x:SV) (u:Value),cs[j]?=some x->(fs++us)[j]?=some u->SR A L w x u):SR A L w (.fn f fs.size cs) (.func f fs us)
 |aN (x:SV) (v:Value) (h:SR A L w x v):SR A L w (.aN x) v
 |no:SR A L w .no undef
 |dead (v):SR A L w .dead v
section
variable {A A':Nat->Prop} {L L':Ls} {w w':World}
theorem SR.on(hs:w.heap.size<=w'.heap.size)(J:∀b,b <w.heap.size->A b->A' b/\w'.heap[b]?=w.heap[b]?)(u:∀i v,L i=some v->L' i=some v)
  {x:SV}{v:Value}(h:SR A L w x v):SR A' L' w' x v:=by
 induction h with
 |t x v h=>exact .t x v (VR.on hs J h)
 |nil=>exact .nil
 |tc I a h=>exact .tc I a (VR.on hs J h)
 |nn I a c h=>exact .nn I a c (VR.on hs J h)
 |lp i j g h=>exact .lp i j g (u i _ h)
 |ls i v h O=>exact .ls i v (u i _ h) O
 |lv i sz a n b m c h=>exact .lv i sz a n b m c (u i _ h)
 |le i sz k j b m c h=>exact .le i sz k j b m c (u i _ h)
 |lm i r h=>exact .lm i r (u i _ h)
 |lo i p t v h Q O=>exact .lo i p t v (u i _ h) Q O
 |lr i p k b n c t h Q=>exact .lr i p k b n c t (u i _ h) Q
 |agg z G D U y=>exact .agg z G D y
 |aL z G D U y=>exact .aL z G D y
 |fn f z V G D U y=>exact .fn f z V G D y
 |aN x v h y=>exact .aN x v y
 |no=>exact .no
 |dead v=>exact .dead v
theorem SR.sub(σ:Nat->Option Nat)(hs:w.heap.size<=w'.heap.size)(Z:∀b,b <w.heap.size->A b->A' b/\w'.heap[b]?=w.heap[b]?)(G:∀i j v,σ i=some j->L i=some v->L' j=some v)
  {x:SV}{v:Value}(h:SR A L w x v):SR A' L' w' (x.sub σ) v:=by
 induction h with
 |t x v h=>rw[SV.sub];exact .t x v (VR.on hs Z h)
 |nil=>rw[SV.sub];exact .nil
 |tc V a h=>rw[SV.sub];exact .tc V a (VR.on hs Z h)
 |nn V a c h=>rw[SV.sub];exact .nn V a c (VR.on hs Z h)
 |lp i j g h=>rw[SV.sub];cases z:σ i with|none=>exact .dead _|some k=>exact .lp k j g (G i k _ z h)
 |ls i v h hp=>rw[SV.sub];cases z:σ i with|none=>exact .dead _|some k=>exact .ls k v (G i k _ z h) hp
 |lv i sz a n b m c h=>rw[SV.sub];cases z:σ i with|none=>exact .dead _|some k=>exact .lv k sz a n b m c (G i k _ z h)
 |le i sz e j b m c h=>rw[SV.sub];cases z:σ i with|none=>exact .dead _|some k=>exact .le k sz e j b m c (G i k _ z h)
 |lm i r h=>rw[SV.sub];cases z:σ i with|none=>exact .dead _|some k=>exact .lm k r (G i k _ z h)
 |lo i p t v h hv hp=>rw[SV.sub];cases z:σ i with|none=>exact .dead _|some k=>exact .lo k p t v (G i k _ z h) hv hp
 |lr i p e b n c t h hv=>rw[SV.sub];cases z:σ i with|none=>exact .dead _|some k=>exact .lr k p e b n c t (G i k _ z h) hv
 |agg J U O hr I=>
  rw[SV.sub];refine .agg _ U (by rw[SV.oc];exact O) fun j x u y Q=>?_;rw[SV.n_]at y
  cases D:J[j]? with
  |none=>rw[D]at y;cases y
  |some c=>rw[D]at y;cases y;exact I j c u D Q
 |aL J U O hr I=>
  rw[SV.sub];refine .aL _ U (by rw[SV.oc];exact O) fun j x u y Q=>?_;rw[SV.n_]at y
  cases D:J[j]? with
  |none=>rw[D]at y;cases y
  |some c=>rw[D]at y;cases y;exact I j c u D Q
 |fn f J fs U O hr I=>
  rw[SV.sub];refine .fn _ _ fs U (by rw[SV.oc];exact O) fun j x u y Q=>?_;rw[SV.n_]at y
  cases D:J[j]? with
  |none=>rw[D]at y;cases y
  |some c=>rw[D]at y;cases y;exact I j c u D Q
 |aN x v h I=>rw[SV.sub];exact .aN _ v I
 |no=>rw[SV.sub];exact .no
 |dead v=>rw[SV.sub];exact .dead v
def SR.later(hb:Below w.heap.size w w'){x:SV}{v:Value}(h:SR A L w x v):SR A L w' x v:=SR.on hb.size (fun b u y=>⟨y,hb.block b u⟩) (fun _ _ h=>h) h
def VR.later(hb:Below w.heap.size w w'){x:AV}{v:Value}(h:VR A w x v):VR A w' x v:=VR.on hb.size (fun b u y=>⟨y,hb.block b u⟩) h
end
structure Glob where
 G:World->Prop
 n:Nat
 stays:∀w w',G w->(∀k,k <n->w'.heap[k]?=w.heap[k]?)->G w'
def b8(w:World)(T:TypeId)(sz:Nat)(v:Value)(n:Nat)(us:List Value):Prop:=(n=0/\us=[]/\∃a,v=.slice a 0 0)\/w.ownsRow 0 T sz v n us
def b8.own{w:World}{T:TypeId}{sz n:Nat}{v:Value}{us:List Value}(h:b8 w T sz v n us)(hn:0 <n):w.ownsRow 0 T sz v n us:=by
 rcases h with⟨h,_⟩|h
 ·omega
 ·exact h
def b8.below{w w':World}{T:TypeId}{sz n:Nat}{v:Value}{us:List Value}(h:b8 w T sz v n us)(hb:Below w.heap.size w w'):b8 w' T sz v n us:=h.imp id fun h=>yZ h hb
def b8.same{w w':World}{T:TypeId}{sz n:Nat}{v:Value}{us:List Value}(h:b8 w T sz v n us)(hb:∀k,bI v=some k->w'.heap[k]?=w.heap[k]?):b8 w' T sz v n us:=by
 rcases h with h|h
 ·exact .inl h
 ·rcases h.2 with⟨rfl,u⟩|⟨g,cap,y,rfl,z,I,J,D,G,O⟩
  ·exact .inr ⟨h.1,.inl ⟨rfl,u⟩⟩
  ·rcases Nat.eq_zero_or_pos cap with u|u
   ·subst u;obtain rfl:n=0:=by omega
    exact .inl ⟨rfl,List.eq_nil_of_length_eq_zero (by have:=h.1;omega),_,rfl⟩
   ·obtain⟨c,rfl⟩:∃c,cap=c+1:=⟨cap - 1,by omega⟩;exact .inr ⟨h.1,.inr ⟨g,c+1,y,rfl,z,(hb g rfl).trans I,J,D,G,O⟩⟩
def b8.len{w:World}{T:TypeId}{sz n:Nat}{v:Value}{us:List Value}(h:b8 w T sz v n us):us.length=n*sz:=by
 rcases h with⟨rfl,rfl,_⟩|h
 ·simp
 ·exact h.1
def b8.form{w:World}{T:TypeId}{sz n:Nat}{v:Value}{us:List Value}(h:b8 w T sz v n us):∃q c,v=.slice q n c:=by
 rcases h with⟨rfl,rfl,a,rfl⟩|h
 ·exact⟨a,0,rfl⟩
 ·rcases h.2 with⟨rfl,y⟩|⟨b,cap,u,rfl,_⟩
  ·exact⟨none,0,by rw[y]⟩
  ·exact⟨_,cap,rfl⟩
structure Ctx where
 M:Nat->Prop
 X:Nat->Prop
 H:Nat->Prop
 W:World
 L:Ls
def Lb.tch:Lb->Bool
 | .box ..=>false
 | .map ..=>false
 | .row _ tch _ _=>tch
 | .own ..=>false
structure fk (ents:Array MapEntry) (clock:Nat):Prop where
 up:(ents.toList.map (·.born)).Pairwise (· < ·)
 lt:∀e∈ents.toList,e.born <clock
theorem fk.nil(c:Nat):fk #[] c:=⟨List.Pairwise.nil,fun e h=>by simp at h⟩
theorem fk.push{y:Array MapEntry}{u:Nat}(h:fk y u)(k v:Value):fk (y.push {key:=k,val:=v,born:=u}) (u+1) where
 up:=by
  rw[Array.toList_push,List.map_append,List.pairwise_append];refine⟨h.up,by simp,fun a D b z=>?_⟩;obtain⟨e,he,rfl⟩:=List.mem_map.1 D;simp at z;rw[z];exact h.lt e he
 lt:=fun e he=>by
  rw[Array.toList_push]at he;rcases List.mem_append.1 he with he|he
  ·exact Nat.lt_succ_of_lt (h.lt e he)
  ·simp at he;rw[he];exact Nat.lt_succ_self _
def wz(u:Array MapEntry)(j:Nat)(k v:Value):(u.modify j fun e=>{e with key:=k,val:=v}).toList.map (·.born)=u.toList.map (·.born):=by
 apply List.ext_getElem?;intro i;rw[List.getElem?_map,List.getElem?_map,Array.getElem?_toList,Array.getElem?_toList,Array.getElem?_modify];split
 ·rename_i h;subst h;cases u[j]? <;>rfl
 ·rfl
theorem fk.modify{y:Array MapEntry}{u:Nat}(h:fk y u)(j:Nat)(k v:Value):fk (y.modify j fun e=>{e with key:=k,val:=v}) u where
 up:=by rw[wz];exact h.up
 lt:=fun e I=>by
  have:e.born∈(y.modify j fun e=>{e with key:=k,val:=v}).toList.map (·.born):=List.mem_map.2 ⟨e,I,rfl⟩;rw[wz]at this;obtain⟨D,z,G⟩:=List.mem_map.1 this;rw[<- G];exact h.lt D z
inductive OV (w:World):AV->Value->Value->Prop where
 |int (k n):OV w (.int k n) (.int k n) (.tuple #[])
 |bj (a:Option Addr):OV w (.arr []) (.slice a 0 0) (.tuple #[.slice a 0 0])
 |arr (b c:Nat) (T:TypeId) (cs:Array Value) (es:List AV) (fs:List (List AV)) (us:Nat->Value) (ts:List Value) (he:fs=es.map fun x=>[x]) (hg:w.heap[b]?=some (.cells cs T (0,0))) (hl:ts.length=es.length) (hn:es.length<=140737488351232) (hc:es.length<=c+1)
   (hu:∀k,k <es.length->cs[k]?=some (us k)) (hr:∀(k:Nat) (x:AV) (t:Value),es[k]?=some x->ts[k]?=some t->OV w x (us k) t) (hb:∀(k:Nat) (t:Value),ts[k]?=some t->¬Bk t b) (hd:∀(k k':Nat) (t t':Value) (b':Nat),ts[k]?=some t->ts[k']?=some t'->Bk t b'->Bk t' b'->k=k'):OV w (.arr fs) (.slice (some ⟨b,0,none⟩) es.length (c+1)) (.tuple (.slice (some ⟨b,0,none⟩) es.length (c+1)::ts).toArray)
def tb{b n c:Nat}{v:List Value}:Bk (.tuple (.slice (some ⟨b,0,none⟩) n (c+1)::v).toArray) b:=.many (k:=0) (u:=.slice (some ⟨b,0,none⟩) n (c+1)) (by simp) (.one rfl)
def ta{v:Value}{u:List Value}{k b:Nat}{t:Value}(ht:u[k]?=some t)(h:Bk t b):Bk (.tuple (v::u).toArray) b:=.many (k:=k+1) (by simpa using ht) h
def BK{b v n c:Nat}{y:List Value}(h:Bk (.tuple (.slice (some ⟨b,0,none⟩) n (c+1)::y).toArray) v):v=b\/∃(k:Nat) (t:Value),y[k]?=some t/\Bk t v:=by
 cases h with
 |one h=>cases h
 | @many _ k u _ hu hb=>
  cases k with
  |zero=>
   obtain rfl:Value.slice (some ⟨b,0,none⟩) n (c+1)=u:=by simpa using hu
   have:=hb.of rfl;cases this;exact .inl rfl
  |succ k=>exact .inr ⟨k,u,by simpa using hu,hb⟩
def BM{b:Nat}(h:Bk (.tuple #[]) b):False:=by
 cases h with
 |one h=>cases h
 |many hu _=>simp at hu
def BL{a:Option Addr}{b:Nat}(h:Bk (.tuple #[.slice a 0 0]) b):False:=by
 cases h with
 |one h=>cases h
 | @many _ k u _ hu hb=>
  cases k with
  |zero=>
   obtain rfl:Value.slice a 0 0=u:=by simpa using hu
   exact hb.none rfl (by cases a <;>rfl)
  |succ k=>simp at hu
def OV.same{w w':World}{x:AV}{v t:Value}(h:OV w x v t)(hb:∀b,Bk t b->w'.heap[b]?=w.heap[b]?):OV w' x v t:=by
 induction h with
 |int k n=>exact .int k n
 |bj a=>exact .bj a
 |arr b c T D G I us ts O Q U V J Z hr h1 h2 ih=>exact .arr b c T D G I us ts O ((hb b tb).trans Q) U V J Z (fun k x t hx y=>ih k x t hx y fun z u=>hb z (ta y u)) h1 h2
def OV.lt{w:World}{x:AV}{v t:Value}(h:OV w x v t):∀b,Bk t b->b <w.heap.size/\∃cs T,w.heap[b]?=some (.cells cs T (0,0)):=by
 induction h with
 |int k n=>exact fun b u=>(BM u).elim
 |bj a=>exact fun b u=>(BL u).elim
 |arr b c T cs G O us ts U z V Z Q hu hr h1 h2 J=>
  intro D y;rcases BK y with rfl|⟨k,t,hk,h3⟩
  ·exact⟨(Array.getElem?_eq_some_iff.1 z).1,cs,T,z⟩
  ·have I:=aC hk;exact J k G[k] t (List.getElem?_eq_getElem (by omega)) hk D h3
def OV.plain{w:World}{x:AV}{v t:Value}(h:OV w x v t):de v=true:=by cases h <;>rfl
def nO{es:List AV}{k:Nat}{cs:List AV}(h:(es.map fun x=>[x])[k]?=some cs):∃y,es[k]?=some y/\cs=[y]:=by
 rw[List.getElem?_map]at h
 cases u:es[k]? with
 |none=>rw[u]at h;cases h
 |some y=>rw[u]at h;cases h;exact⟨y,rfl,rfl⟩
def OV.vr{w:World}{A:Nat->Prop}{x:AV}{v t:Value}(h:OV w x v t)(Q:∀b,Bk t b->A b):VR A w x v:=by
 induction h with
 |int k n=>exact .int k n
 |bj a=>exact .bj a 0
 |arr b c T O D fs us ts he U hl hn hc hu hr h1 h2 ih=>
  subst he
  cases D with
  |nil=>exact .bj _ _
  |cons e D=>
   have u:((e::D).map fun x=>[x]).length=(e::D).length:=List.length_map ..
   have:=VR.arr (M:=A) (w:=w) b 0 (c+1) 1 ((e::D).map fun x=>[x]) (fun k _=>us k) (by simp) (by rw[u];exact hn) (by rw[u];exact hc) (Array.getElem?_eq_some_iff.1 U).1 (Q b tb) (fun k O z=>by
     obtain⟨y,_,rfl⟩:=nO z;rfl) (fun k j z J=>by
     obtain rfl:j=0:=by omega
     rw[u]at z;have h1:=hu k z;simp only[Nat.mul_one,Nat.add_zero,Nat.zero_add];simp[World.cell?,U,h1]) (fun k j O x z J=>by
     obtain⟨y,V,rfl⟩:=nO z;obtain rfl:j=0:=by have:=aC J;simpa using this
     cases J;have G:k <ts.length:=by rw[hl];exact aC V
     exact ih k _ _ V (List.getElem?_eq_getElem G) fun Z I=>Q Z (ta (List.getElem?_eq_getElem G) I))
   rw[u]at this;exact this
def h_(A:Nat->Prop)(L:Ls)(w:World)(i:Nat):Lb->Prop
 | .box _ T D=>∃(g:Nat) (G:Array Value),L i=some (.pointer (some ⟨g,0,none⟩))/\w.heap[g]?=some (.cells G T (0,0))/\G.size=D.length/\∀(j:Nat) (x:SV) (u:Value),D[j]?=some x->G[j]?=some u->SR A L w x u
 | .row _ _ sz es=>∃(T:TypeId) (v:Value) (G:List Value),L i=some v/\b8 w T sz v es.length G/\es.length<=140737488351232/\(∀(k:Nat) (D:List AV),es[k]?=some D->D.length=sz)/\∀(k j:Nat) (D:List AV) (x:AV),es[k]?=some D->D[j]?=some x->∃u,G[k*sz+j]?=some u/\VR A w x u
 | .map _ ks vs=>∃(r:Nat) (y:Array MapEntry) (z:Nat),L i=some (.map (some r))/\w.heap[r]?=some (.map y z)/\y.size=ks.length/\y.size=vs.length/\(∀(j:Nat) (x:AV) (u:MapEntry),ks[j]?=some x->y[j]?=some u->VR A w x u.key)/\(∀(j:Nat) (x:SV) (u:MapEntry),vs[j]?=some x->y[j]?=some u->SR A L w x u.val)/\fk y z
 | .own _ x=>∃(v t:Value),L i=some t/\OV w x v t
structure ar (γ:Glob) (κ:Ctx) (fr:Fr) (L:Ls) (w:World):Prop where
 bN:γ.G w
 gn:γ.n<=κ.W.heap.size
 gx:∀b,κ.X b->γ.n<=b/\b <κ.W.heap.size
 fresh:∀b,κ.W.heap.size<=b->κ.M b
 os:w.os=κ.W.os
 tape:w.tape=κ.W.tape
 output:w.output=κ.W.output
 size:κ.W.heap.size<=w.heap.size
 kept:∀k,k <κ.W.heap.size->¬κ.X k->w.heap[k]?=κ.W.heap[k]?
 lim:∀i v,L i=some v->i <fr.length
 new:∀i v b lb,L i=some v->Bk v b->fr[i]?=some lb->b <w.heap.size/\κ.M b/\(κ.W.heap.size<=b\/κ.H b)/\(lb.ro=false->κ.W.heap.size<=b\/κ.X b)
 bW:∀i j v v' b,L i=some v->L j=some v'->Bk v b->Bk v' b->i=j
 hand:∀j v,κ.L j=some v->∃lb,fr[j]?=some lb/\(lb.tch=false->L j=some v)
 blk:∀i lb,fr[i]?=some lb->h_ (MA κ.M fr L) L w i lb
section
variable {γ:Glob} {κ:Ctx} {fr:Fr} {L:Ls} {w w':World}
theorem ar.later(h:ar γ κ fr L w)(hb:Below w.heap.size w w'):ar γ κ fr L w' where
 bN:=γ.stays _ _ h.bN fun k D=>hb.block k (Nat.lt_of_lt_of_le D (Nat.le_trans h.gn h.size))
 gn:=h.gn
 gx:=h.gx
 fresh:=h.fresh
 os:=hb.os.trans h.os
 tape:=hb.tape.trans h.tape
 output:=hb.output.trans h.output
 size:=Nat.le_trans h.size hb.size
 kept:=fun k D z=>(hb.block k (Nat.lt_of_lt_of_le D h.size)).trans (h.kept k D z)
 lim:=h.lim
 new:=fun i v b G h1 h2 h3=>⟨Nat.lt_of_lt_of_le (h.new i v b G h1 h2 h3).1 hb.size,(h.new i v b G h1 h2 h3).2⟩
 bW:=h.bW
 hand:=h.hand
 blk:=fun i G hi=>by
  have h1:=h.blk i G hi;have V:∀v b,L i=some v->Bk v b->w'.heap[b]?=w.heap[b]?:=fun v b hv Z=>hb.block b (h.new i v b G hv Z hi).1
  cases G with
  |box ro T cs=>
   obtain⟨g,us,h1,h2,h3,h4⟩:=h1;exact⟨g,us,h1,(V _ g h1 (.one rfl)).trans h2,h3,fun j x u z J=>(h4 j x u z J).later hb⟩
  |row ro ad sz es=>
   obtain⟨T,v,us,h1,h2,O,h3,h4⟩:=h1;refine⟨T,v,us,h1,h2.below hb,O,h3,fun k j cs x D hj=>?_⟩;obtain⟨u,Q,U⟩:=h4 k j cs x D hj;exact⟨u,Q,U.later hb⟩
  |map ro ks vs=>
   obtain⟨r,I,y,h1,h2,h3,h4,Q,U,h7⟩:=h1;exact⟨r,I,y,h1,(V _ r h1 (.one rfl)).trans h2,h3,h4,fun j x u z J=>(Q j x u z J).later hb,fun j x u z J=>(U j x u z J).later hb,h7⟩
  |own ro x=>
   obtain⟨v,t,h1,h2⟩:=h1;exact⟨v,t,h1,h2.same fun b hb=>V _ b h1 hb⟩
theorem ar.box(h:ar γ κ fr L w)(i:Nat)(ro:Bool)(T:TypeId)(cs:List SV)(hi:fr[i]?=some (.box ro T cs)):∃(g:Nat) (us:Array Value),L i=some (.pointer (some ⟨g,0,none⟩))/\w.heap[g]?=some (.cells us T (0,0))/\us.size=cs.length/\∀(j:Nat) (x:SV) (u:Value),cs[j]?=some x->us[j]?=some u->SR (MA κ.M fr L) L w x u:=h.blk i _ hi
theorem ar.row(h:ar γ κ fr L w)(i:Nat)(ro tch:Bool)(sz:Nat)(es:List (List AV))(hi:fr[i]?=some (.row ro tch sz es)):∃(T:TypeId) (v:Value) (us:List Value),L i=some v/\b8 w T sz v es.length us/\es.length<=140737488351232/\(∀(k:Nat) (cs:List AV),es[k]?=some cs->cs.length=sz)/\∀(k j:Nat) (cs:List AV) (x:AV),es[k]?=some cs->cs[j]?=some x->∃u,us[k*sz+j]?=some u/\VR (MA κ.M fr L) w x u:=h.blk i _ hi
def ar.own(h:ar γ κ fr L w){b:Nat}(hb:Own fr L b):b <w.heap.size/\κ.M b/\(κ.W.heap.size<=b\/κ.X b):=by
 obtain⟨i,v,u,h1,h2,h3,h4⟩:=hb;obtain⟨a,b,_,c⟩:=h.new i v _ u h1 h2 h3;exact⟨a,b,c h4⟩
def ar.yD(h:ar γ κ fr L w):MA κ.M fr L w.heap.size:=⟨h.fresh _ h.size,fun u=>absurd (h.own u).1 (Nat.lt_irrefl _)⟩
end
def o4(P:Program)(s f:Nat):Option Nat:=match P.underlying s with
 |some (.struct v)=>match v[f]? with
  |some u=>match P.info? u.type with
   |some i=>if i.size=0 then none else some u.offset
   |none=>none
  |none=>none
 |_=>none
def xi(P:Program)(s f:Nat):Option (Nat×Nat):=match P.underlying s with
 |some (.struct v)=>match v[f]? with
  |some u=>some (u.offset,u.type)
  |none=>none
 |_=>none
def bm(P:Program)(t:Nat):Option (Bool×Nat):=match P.underlying t with
 |some (.struct _)|some (.array _ _)=>(P.info? t).map fun i=>(true,i.size)
 |some _=>(P.info? t).map fun i=>(false,i.size)
 |none=>none
def da(P:Program)(t:Nat):Option (Nat×Nat):=match P.underlying t with
 |some (.slice e)=>(P.info? e).map fun i=>(e,i.size)
 |_=>none
def qg(P:Program)(t:Nat):Option (Nat×Nat):=match P.underlying t with
 |some (.array n e)=>(P.info? e).map fun i=>(n,i.size)
 |_=>none
def iC(P:Program)(t:Nat):Option (Nat×Nat×Nat):=match P.underlying t with
 |some (.slice e)=>match P.info? e with
  |some i=>match i.zero with
   |some z=>if z.cells.size=i.size/\0 <i.size then some (e,i.size,i.bytes)else none
   |none=>none
  |none=>none
 |_=>none
def gL(P:Program)(t:Nat):Bool:=match P.underlying t with|some (.slice _)=>true|_=>false
def k7(P:Program)(t:Nat):Bool:=match P.underlying t with|some .string=>true|_=>false
def cv:Value->SV
 | .bool b=>.t (.bool b)
 | .int k n=>.t (.int k n)
 | .string s=>.t (.str s)
 | .slice none 0 0=>.nil
 |v=>match xp v with
  |true=>.t (.lit v)
  |false=>.dead
def cE(env:Env):Operand->SV
 | .tmp t=>env t
 | .const v=>cv v
 | .func f=>.t (.fn (.func f) 0 [])
 | .global _=>.dead
def un:SV->SV
 | .aN s=>s
 |s=>s
def rd(env:Env)(y:Operand):SV:=un (cE env y)
def cB(e:Env)(d:Nat)(v:SV):Env:=fun t=>match Nat.beq t d with|true=>v|false=>e t
def aD(e:Env)(d:Option Nat)(v:SV):Env:=match d with|some d=>cB e d v|none=>e
def tx(W:Bool)(s:SV):SV:=match W with|true=>.aN s|false=>.no
def ut(u:Bool):SV->Option Bool
 | .t (.bool b)=>some (b==u)
 | .aN (.t (.bool b))=>some (b==u)
 | .no=>some false
 |_=>none
def db(ops:Array Oper)(env:Env)(j:Nat)(u:Bool):Option Bool:=
 match(ops[j]?).bind (·.dst)with
 |some d=>ut u (env d)
 |none=>none
def ml:List SV->Option (List AV)
 |[]=>some []
 | .t x::r=>match ml r with
  |some xs=>some (x::xs)
  |none=>none
 |_::_=>none
def e7:List SV->Option (List AV)
 |[]=>some []
 | .t x::r=>match e7 r with
  |some xs=>some (x::xs)
  |none=>none
 | .nil::r=>match e7 r with
  |some xs=>some (.arr []::xs)
  |none=>none
 | .tc u::r=>match e7 r with
  |some xs=>some (.arr u::xs)
  |none=>none
 | .nn u::r=>match e7 r with
  |some xs=>some (.arr u::xs)
  |none=>none
 |_::_=>none
def jk(cs:List SV):SV:=match ml cs with
 |some xs=>.t (.agg xs)
 |none=>.agg cs
def qG(f:Fn)(u:Nat)(cs:List SV):SV:=match e7 cs with
 |some xs=>.t (.fn f u xs)
 |none=>.fn f u cs
def eZ(fr:Fr)(i sz a n:Nat):Option (List (List AV)):=match fr[i]? with
 |some (.row _ _ sz' es)=>match Nat.beq sz sz'&&Nat.ble (a+n) es.length with
  |true=>some ((es.drop a).take n)
  |false=>none
 |_=>none
def gT(fr:Fr):SV->Option (List (List AV))
 | .t (.arr u)=>some u
 | .nil=>some []
 | .tc u=>some u
 | .nn u=>some u
 | .ls i=>match fr[i]? with
  |some (.row _ _ _ u)=>some u
  |_=>none
 | .lv i sz a n=>eZ fr i sz a n
 |_=>none
def gX:AV->List Nat->Option AV
 |x,[]=>some x
 | .arr u,k::p=>match u[k]? with
  |some [y]=>gX y p
  |_=>none
 |_,_::_=>none
def rD(fr:Fr)(i:Nat)(p:List Nat):Option (List (List AV)):=match fr[i]? with
 |some (.own _ x)=>match gX x p with
  |some (.arr u)=>some u
  |_=>none
 |_=>none
def setAt:AV->List Nat->Nat->AV->AV
 | .arr u,[],k,y=>.arr (u.set k [y])
 | .arr u,q::p,k,y=>match u[q]? with
  |some [z]=>.arr (u.set q [setAt z p k y])
  |_=>.arr u
 |x,_,_,_=>x
mutual
def fJ(fr:Fr):Nat->SV->Option AV
 |0,_=>none
 |n+1,s=>match s with
  | .t x=>some x
  | .nil=>some (.arr [])
  | .tc v=>some (.arr v)
  | .nn v=>some (.arr v)
  | .ls i=>match fr[i]? with
   |some (.row _ _ _ v)=>some (.arr v)
   |_=>none
  | .lv i sz a k=>match eZ fr i sz a k with
   |some v=>some (.arr v)
   |none=>none
  | .lp i j=>match fr[i]? with
   |some (.box _ _ u)=>match jR fr n (u.drop j)with
    |some (x::xs)=>some (.tp (x::xs))
    |_=>none
   |_=>none
  | .agg u=>match jR fr n u with
   |some xs=>some (.agg xs)
   |none=>none
  | .aL u=>match jR fr n u with
   |some xs=>some (.aL xs)
   |none=>none
  | .fn f y u=>match jR fr n u with
   |some xs=>some (.fn f y xs)
   |none=>none
  | .lm i=>match fr[i]? with
   |some (.map _ ks vs)=>match jR fr n vs with
    |some xs=>some (.mp ks xs)
    |none=>none
   |_=>none
  | .lo i p=>match fr[i]? with
   |some (.own _ x)=>gX x p
   |_=>none
  |_=>none
def jR(fr:Fr):Nat->List SV->Option (List AV)
 |0,_=>none
 |_+1,[]=>some []
 |n+1,c::u=>match fJ fr n c,jR fr n u with
  |some x,some xs=>some (x::xs)
  |_,_=>none
end
def qx(step:Nat->List AV->List AV->Option Bool)(P:Program)(xs u:List AV):List Field->Option Bool
 |[]=>some true
 |f ::y=>match f.name== "_" with
  |true=>none
  |false=>match bm P f.type with
   |none=>none
   |some (v,n)=>match Nat.ble (f.offset+n) xs.length&&Nat.ble (f.offset+n) u.length&&(v ||Nat.beq n 1)with
    |false=>none
    |true=>match step f.type ((xs.drop f.offset).take n) ((u.drop f.offset).take n),qx step P xs u y with
     |some r,some q=>some (r&&q)
     |_,_=>none
def ij:TypeDesc->List AV->List AV->Option Bool
 | .int _,[.int k a],[.int k' b]=>if k=k' then some (decide (a=b))else none
 | .bool,[.bool a],[.bool b]=>some (a==b)
 | .string,[.str a],[.str b]=>some (a==b)
 |_,_,_=>none
def gF(P:Program):Nat->Nat->List AV->List AV->Option Bool
 |0,_,_,_=>none
 |d+1,t,xs,v=>match P.underlying t with
  |some (.struct y)=>match P.stoodInHeld t with
   |false=>qx (gF P d) P xs v y.toList
   |true=>none
  |some u=>ij u xs v
  |none=>none
def j9(b:BinOp)(k:IntKind)(m n:Int):Option AV:=match b with
 | .lss=>some (.bool (decide (m <n)))
 | .leq=>some (.bool (decide (m<=n)))
 | .gtr=>some (.bool (decide (n <m)))
 | .geq=>some (.bool (decide (n<=m)))
 | .eql=>some (.bool (decide (m=n)))
 | .neq=>some (.bool (!decide (m=n)))
 | .add=>some (.int k (k.wrap (m+n)))
 | .sub=>some (.int k (k.wrap (m - n)))
 | .mul=>some (.int k (k.wrap (m*n)))
 | .quo=>if n=0 then none else some (.int k (k.wrap (m.tdiv n)))
 | .rem=>if n=0 then none else some (.int k (m.tmod n))
 | .shr=>if n=1 then some (.int k (m.fdiv 2))else none
 |_=>none
def rY(b:BinOp)(x y:ByteArray):Option AV:=match b with
 | .eql=>some (.bool (decide (x=y)))
 | .neq=>some (.bool (!decide (x=y)))
 | .add=>if x.size+y.size<=9223372036854775807 then some (.str (x++y))else none
 |_=>none
def wy(b:BinOp)(x y:Bool):Option AV:=match b with
 | .eql=>some (.bool (x==y))
 | .neq=>some (.bool (!(x==y)))
 |_=>none
def eA(b:BinOp)(u:Bool):Option AV:=match b with
 | .eql=>some (.bool u)
 | .neq=>some (.bool (!u))
 |_=>none
def oE(P:Program)(b:BinOp)(t:Nat)(cs ds:List AV):Option AV:=match P.eqGuardType P.depth t with
 |true=>none
 |false=>match bm P t with
  |some (true,_)=>match gF P 20 t cs ds with
   |some r=>eA b r
   |none=>none
  |_=>none
def xK(P:Program)(t:Nat):Bool:=match P.underlying t with|some .bool=>true|_=>false
def nU(P:Program)(t:Nat):Bool:=match P.underlying t with|some (.pointer _)=>true|_=>false
def qP(P:Program)(t:Nat):Bool:=match P.underlying t with|some (.interface _)=>true|_=>false
def iT:Operand->Bool
 | .const _=>true
 |_=>false
def gy(P:Program)(b:BinOp)(xt:Nat)(k:Bool):SV->SV->Option AV
 | .t (.int k m),.t (.int v n)=>if k=v then j9 b k m n else none
 | .t (.bool x),.t (.bool y)=>match xK P xt with|true=>wy b x y|false=>none
 | .t (.str x),.t (.str y)=>rY b x y
 | .t (.agg u),.t (.agg ds)=>oE P b xt u ds
 | .t (.tp _),.t (.lit (.pointer none))=>match nU P xt with|true=>eA b false|false=>none
 | .lp _ _,.t (.lit (.pointer none))=>match nU P xt with|true=>eA b false|false=>none
 | .le _ _ _ _,.t (.lit (.pointer none))=>match nU P xt with|true=>eA b false|false=>none
 | .t (.lit (.pointer none)),.t (.lit (.pointer none))=>match nU P xt with|true=>eA b true|false=>none
 | .t (.lit .nilIface),.t (.lit .nilIface)=>match qP P xt&&k with|true=>eA b true|false=>none
 | .t .gI,.t (.lit .nilIface)=>match qP P xt with|true=>eA b false|false=>none
 | .nil,.nil=>match gL P xt with|true=>eA b true|false=>none
 | .t (.arr (_::_)),.nil=>match gL P xt with|true=>eA b false|false=>none
 | .nn _,.nil=>match gL P xt with|true=>eA b false|false=>none
 | .tc (_::_),.nil=>match gL P xt with|true=>eA b false|false=>none
 |_,_=>none
def mP(P:Program)(fr:Fr)(b:BinOp)(xt:Nat):SV->SV->Option AV
 | .ls i,.nil=>match gL P xt with
  |true=>match fr[i]? with
   |some (.row _ _ _ (_::_))=>eA b false
   |_=>none
  |false=>none
 | .lv _ _ _ (_+1),.nil=>match gL P xt with|true=>eA b false|false=>none
 |_,_=>none
def eK(P:Program)(fr:Fr)(t:Nat)(x:SV):Option SV:=match bm P t with
 |none=>none
 |some (v,n)=>match x with
  | .t (.tp u)=>match v with
   |false=>match u[0]? with
    |some c=>some (.t c)
    |none=>none
   |true=>match Nat.beq n u.length with
    |true=>some (.t (.agg u))
    |false=>match Nat.ble n u.length with
     |true=>some (.t (.agg (u.take n)))
     |false=>none
  | .lp i j=>match fr[i]? with
   |some (.box _ _ u)=>match v with
    |false=>u[j]?
    |true=>match Nat.ble (j+n) u.length with
     |true=>some (jk ((u.drop j).take n))
     |false=>none
   |_=>none
  | .le i sz k j=>match fr[i]? with
   |some (.row _ _ sz' es)=>match Nat.beq sz sz' with
    |true=>match es[k]? with
     |some u=>match v with
      |false=>match u[j]? with
       |some c=>some (.t c)
       |none=>none
      |true=>match Nat.ble (j+n) u.length with
       |true=>some (.t (.agg ((u.drop j).take n)))
       |false=>none
     |none=>none
    |false=>none
   |_=>none
  | .lr i p k=>match rD fr i p with
   |some y=>match v,y[k]? with
    |false,some [.arr _]=>some (.lo i (p++[k]))
    |false,some [.int z m]=>some (.t (.int z m))
    |_,_=>none
   |none=>none
  |_=>none
def o0(P:Program)(y f:Nat)(x:SV):Option SV:=match o4 P y f with
 |none=>none
 |some u=>match x with
  | .t (.tp v)=>match v.drop u with
   |c::r=>some (.t (.tp (c::r)))
   |[]=>none
  | .lp i j=>some (.lp i (j+u))
  | .le i sz k j=>some (.le i sz k (j+u))
  |_=>none
def uf(P:Program)(D f:Nat)(x:SV):Option SV:=match xi P D f with
 |none=>none
 |some (u,z)=>match bm P z with
  |none=>none
  |some (y,n)=>match x with
   | .t (.agg v)=>match y with
    |false=>match v[u]? with
     |some c=>some (.t c)
     |none=>none
    |true=>match Nat.ble (u+n) v.length with
     |true=>some (.t (.agg ((v.drop u).take n)))
     |false=>none
   | .agg v=>match y with
    |false=>v[u]?
    |true=>match Nat.ble (u+n) v.length with
     |true=>some (jk ((v.drop u).take n))
     |false=>none
   |_=>none
def gJ(m:Int)(n:Nat):Bool:=decide (0<=m)&&Nat.blt m.toNat n
def elemAt(sz:Nat)(es:List (List AV))(m:Int):Option SV:=match decide (0<=m)with
 |false=>none
 |true=>match es[m.toNat]? with
  |some (c::u)=>match Nat.beq sz (u.length+1)with
   |true=>some (.t (.tp (c::u)))
   |false=>none
  |_=>none
def gK(P:Program)(fr:Fr)(t:Nat)(x i:SV):Option SV:=match da P t with
 |some (_,sz)=>match i with
  | .t (.int _ m)=>match x with
   | .t (.arr v)=>elemAt sz v m
   | .tc v=>elemAt sz v m
   | .nn v=>elemAt sz v m
   | .ls r=>match fr[r]? with
    |some (.row _ _ u v)=>match Nat.beq sz u with
     |true=>match gJ m v.length with
      |true=>some (.le r sz m.toNat 0)
      |false=>none
     |false=>none
    |_=>none
   | .lv r u a n=>match eZ fr r u a n with
    |some _=>match Nat.beq sz u&&gJ m n with
     |true=>some (.le r sz (a+m.toNat) 0)
     |false=>none
    |none=>none
   | .lo r p=>match rD fr r p with
    |some z=>match Nat.beq sz 1&&gJ m z.length with
     |true=>some (.lr r p m.toNat)
     |false=>none
    |none=>none
   |_=>none
  |_=>none
 |none=>match qg P t with
  |some (n,sz)=>match i with
   | .t (.int _ m)=>match gJ m n with
    |false=>none
    |true=>match x with
     | .t (.tp y)=>match y.drop (m.toNat*sz)with
      |c::r=>some (.t (.tp (c::r)))
      |[]=>none
     | .lp b j=>some (.lp b (j+m.toNat*sz))
     |_=>none
   |_=>none
  |none=>none
def qR(P:Program)(t:Nat)(x i:SV):Option SV:=match x,i with
 | .t (.str s),.t (.int _ m)=>match k7 P t with
  |true=>match decide (0<=m)with
   |true=>match s[m.toNat]? with
    |some b=>some (.t (.int .u8 b.toNat))
    |none=>none
   |false=>none
  |false=>none
 |_,_=>none
def pk:TypeDesc->Bool
 | .int _=>true
 | .bool=>true
 | .string=>true
 |_=>false
def iy(P:Program)(t:Nat):Option (Nat×TypeDesc):=match P.underlying t with
 |some (.map k e)=>match P.underlying k with
  |some d=>match pk d with
   |true=>some (e,d)
   |false=>none
  |none=>none
 |_=>none
def dY(d:TypeDesc)(k:AV):List AV->Nat->Option (Option Nat)
 |[],_=>some none
 |e::u,i=>match ij d [k] [e]with
  |some true=>some (some i)
  |some false=>dY d k u (i+1)
  |none=>none
def v_:Value->SV
 | .agg u=>jk (u.toList.map cv)
 |z=>cv z
def mB(P:Program)(e:Nat):Option SV:=match P.info? e with
 |some i=>match i.zero with
  |some z=>some (v_ z)
  |none=>none
 |none=>none
def mapOf(fr:Fr):SV->Option (List AV×List SV)
 | .t (.mp ks u)=>some (ks,u.map .t)
 | .lm i=>match fr[i]? with
  |some (.map _ ks u)=>some (ks,u)
  |_=>none
 | .t (.lit (.map none))=>some ([],[])
 |_=>none
def iz(ok:Bool)(x:SV)(b:Bool):SV:=match ok with
 |true=>.aL [x,.t (.bool b)]
 |false=>x
def nc(P:Program)(n:Nat):List Field->Bool
 |[]=>true
 |f ::u=>match f.name== "_" with
  |true=>false
  |false=>match P.underlying f.type,bm P f.type with
   |some d,some (false,1)=>match pk d&&Nat.ble (f.offset+1) n with
    |true=>nc P n u
    |false=>false
   |_,_=>false
def la(P:Program)(t:Nat):Option (Nat×Nat×Nat):=match P.underlying t with
 |some (.map k e)=>match P.underlying k with
  |some (.struct u)=>match bm P k with
   |some (true,n)=>match nc P n u.toList with
    |true=>some (e,k,n)
    |false=>none
   |_=>none
  |_=>none
 |_=>none
def fx(P:Program)(u:Nat)(cs:List AV):List AV->Nat->Option (Option Nat)
 |[],_=>some none
 |e::v,i=>match e with
  | .agg ds=>match gF P 20 u cs ds with
   |some true=>some (some i)
   |some false=>fx P u cs v (i+1)
   |none=>none
  |_=>none
def po(P:Program)(fr:Fr)(t:Nat)(x key:SV)(ok:Bool):Option SV:=match la P t with
 |none=>none
 |some (e,y,n)=>match key with
  | .t (.agg u)=>match Nat.beq u.length n with
   |false=>none
   |true=>match mapOf fr x with
    |none=>none
    |some (ks,D)=>match fx P y u ks 0 with
     |none=>none
     |some (some i)=>match D[i]? with
      |some v=>some (iz ok v true)
      |none=>none
     |some none=>match mB P e with
      |some z=>some (iz ok z false)
      |none=>none
  |_=>none
def ma(P:Program)(fr:Fr)(t:Nat)(x key:SV)(ok:Bool):Option SV:=match iy P t with
 |none=>po P fr t x key ok
 |some (e,d)=>match key with
  | .t u=>match mapOf fr x with
   |none=>none
   |some (ks,y)=>match dY d u ks 0 with
    |none=>none
    |some (some i)=>match y[i]? with
     |some v=>some (iz ok v true)
     |none=>none
    |some none=>match mB P e with
     |some z=>some (iz ok z false)
     |none=>none
  |_=>none
def fq(x:Option SV)(d y:Nat):Option Nat:=match x with
 |none=>some d
 |some (.t (.int _ m))=>match decide (0<=m)&&Nat.ble m.toNat y with
  |true=>some m.toNat
  |false=>none
 |_=>none
def pR:SV->Option (List (List AV))
 | .t (.arr u)=>some u
 | .tc u=>some u
 | .nn u=>some u
 | .nil=>some []
 |_=>none
def j2(lo hi:Option SV)(n:Nat):Option (Nat×Nat):=match fq hi n n with
 |none=>none
 |some h=>match fq lo 0 h with
  |none=>none
  |some l=>some (l,h)
def mh(sz:Nat):List (List AV)->Bool
 |[]=>true
 |e::_=>Nat.beq e.length sz
def n8(P:Program)(t:Nat)(x:SV)(lo hi v:Option SV):Option SV:=match v with
 |some _=>none
 |none=>match x with
  | .t (.str s)=>match k7 P t with
   |false=>none
   |true=>match j2 lo hi s.size with
    |some (l,h)=>some (.t (.str (s.extract l h)))
    |none=>none
  |x=>match da P t with
   |none=>none
   |some (_,sz)=>match pR x with
    |none=>none
    |some u=>match mh sz u with
     |false=>none
     |true=>match j2 lo hi u.length with
      |some (l,h)=>some (.t (.arr ((u.take h).drop l)))
      |none=>none
def gh(r sz a n len:Nat)(lo hi:Option SV):Option SV:=match j2 lo hi n with
 |some (l,h)=>match Nat.beq (a+l) 0&&Nat.beq h len with
  |true=>some (.ls r)
  |false=>match Nat.beq (h - l) 0&&Nat.blt 0 (a+l)with
   |true=>some (.t (.arr []))
   |false=>some (.lv r sz (a+l) (h - l))
 |none=>none
def rV(P:Program)(fr:Fr)(t:Nat)(x:SV)(lo hi u:Option SV):Option SV:=match u with
 |some m=>match da P t with
  |none=>none
  |some (_,sz)=>match x,lo,hi,m with
   | .ls r,some (.t (.int _ l)),some (.t (.int _ h)),.t (.int _ m)=>match fr[r]? with
    |some (.row _ _ sz' es)=>match Nat.beq sz sz'&&(decide (0<=l)&&(decide (l<=h)&&(decide (h<=m)&&decide (m<=(es.length:Int)))))with
     |true=>some .dead
     |false=>none
    |_=>none
   |_,_,_,_=>none
 |none=>match da P t with
  |none=>none
  |some (_,sz)=>match x with
   | .ls r=>match fr[r]? with
    |some (.row _ _ sz' es)=>match Nat.beq sz sz' with
     |true=>gh r sz 0 es.length es.length lo hi
     |false=>none
    |_=>none
   | .lv r dG a n=>match fr[r]? with
    |some (.row _ _ sz' es)=>match Nat.beq sz sz'&&(Nat.beq dG sz&&Nat.ble (a+n) es.length)with
     |true=>gh r sz a n es.length lo hi
     |false=>none
    |_=>none
   |_=>none
def ue(x:SV)(i:Nat):Option SV:=match x with
 | .aL u=>u[i]?
 | .t (.aL xs)=>match xs[i]? with
  |some x=>some (.t x)
  |none=>none
 |_=>none
def xL(P:Program)(t:Nat):Bool:=match P.underlying t with
 |some (.map _ _)=>true
 |_=>false
def yk(P:Program)(fr:Fr)(t:Nat):SV->Option SV
 | .lm i=>match xL P t,fr[i]? with
  |true,some (.map _ ks _)=>some (.t (.int .i64 ks.length))
  |_,_=>none
 |_=>none
def l_(P:Program)(fr:Fr)(t:Option Nat)(x:SV):Option SV:=match t with
 |none=>none
 |some t=>match x with
  | .t (.str s)=>match k7 P t with
   |true=>some (.t (.int .i64 s.size))
   |false=>none
  |x=>match gL P t with
   |true=>match gT fr x with
    |some u=>some (.t (.int .i64 u.length))
    |none=>none
   |false=>yk P fr t x
def uS:SV->Option SV
 | .t (.tp u)=>some (.t (.tp u))
 | .lp i j=>some (.lp i j)
 | .le i sz k j=>some (.le i sz k j)
 | .lr i p k=>some (.lr i p k)
 |_=>none
def sF(b:UnOp):SV->Option SV
 | .t (.bool x)=>match b with|.not=>some (.t (.bool (!x)))|_=>none
 | .t (.int k n)=>match b with|.neg=>some (.t (.int k (k.wrap (0 - n))))|_=>none
 |_=>none
def bo:SV->List SV
 | .agg u=>u
 | .t (.agg u)=>u.map .t
 |x=>[x]
def cQ:SV->Bool
 | .t (.agg _)|.t (.aL _)|.agg _|.aL _|.aN _|.no|.dead=>false
 |_=>true
def gP(cs:List SV)(j:Nat):List SV->List SV
 |[]=>cs
 |x::xs=>gP (cs.set j x) (j+1) xs
def kK(P:Program)(T:Nat):Option (List SV):=((P.info? T).bind (·.zero)).map fun z=>z.cells.toList.map cv
def lX(v:Nat->Option (Nat×Nat))(u:List SV):List (Nat×SV)->Option (List SV)
 |[]=>some u
 |(i,x)::D=>
  match v i with
  |none=>none
  |some (z,y)=>if(bo x).length=y/\z+y<=u.length then lX v (gP u z (bo x)) D else none
def qi(P:Program)(t:TypeId)(parts:List (Nat×SV)):Option (List SV):=
 match kK P t,P.underlying t with
 |some z,some (.struct u)=>
  match u.toList.mapM (fun f=>(P.info? f.type).map fun i=>(f.offset,i.size))with
  |some v=>lX (v.toArray[·]?) z parts
  |none=>none
 |some z,some (.array _ e)=>
  match P.info? e with
  |some y=>lX (fun i=>some (i*y.size,y.size)) z parts
  |none=>none
 |_,_=>none
def oN(sz:Nat):Nat->List SV->Option (List (List AV))
 |0,[]=>some []
 |0,_::_=>none
 |n+1,u=>match e7 (u.take sz)with
  |some xs=>if xs.length=sz then(oN sz n (u.drop sz)).map (xs::·)else none
  |none=>none
def oK(P:Program)(t len:Nat)(parts:List (Nat×SV)):Option (List (List AV)):=
 match P.underlying t with
 |some (.slice e)=>match P.info? e with
  |some i=>match i.zero with
   |some z=>if z.cells.size=i.size/\0 <i.size/\len*i.size<=16777216 then
     (lX (fun k=>some (k*i.size,i.size)) ((List.range (len*i.size)).map fun q=>cv (z.cells.getD (q %i.size) undef)) parts).bind (oN i.size len)
    else none
   |none=>none
  |none=>none
 |_=>none
def oL(P:Program)(fr:Fr)(env:Env):Callee->List Operand->Array TypeId->Option SV
 | .builtin b,[y],u=>match b with
  | .len=>l_ P fr u[0]? (rd env y)
  |_=>none
 | .builtin b,[x,y],_=>match rd env x,rd env y with
  | .t (.int .i64 m),.t (.int .i64 n)=>match b with
   | .max=>some (.t (.int .i64 (max m n)))
   | .min=>some (.t (.int .i64 (min m n)))
   |_=>none
  |_,_=>none
 |_,_,_=>none
def qp(P:Program)(s d:Nat):SV->Option SV
 | .t (.int _ n)=>match P.underlying s,P.underlying d with
  |some _,some (.int k)=>some (.t (.int k (k.wrap n)))
  |_,_=>none
 | .t (.str x)=>match P.underlying s,P.underlying d with
  |some _,some .string=>some (.t (.str x))
  |_,_=>none
 |_=>none
def bt(P:Program)(fr:Fr)(env:Env):Op->Option SV
 | .move x=>some (rd env x)
 | .assign x=>some (rd env x)
 | .pick c a b=>match rd env c with
  | .t (.bool true)=>some (rd env a)
  | .t (.bool false)=>some (rd env b)
  |_=>none
 | .load t y=>eK P fr t (rd env y)
 | .nilCheck y=>uS (rd env y)
 | .binOp b xt x y _=>match gy P b xt (iT x ||iT y) (rd env x) (rd env y)with
  |some r=>some (.t r)
  |none=>match mP P fr b xt (rd env x) (rd env y)with
   |some r=>some (.t r)
   |none=>none
 | .unOp b _ x=>sF b (rd env x)
 | .fieldAddr z y f=>o0 P z f (rd env y)
 | .field z y f=>uf P z f (rd env y)
 | .indexAddr t x i=>gK P fr t (rd env x) (rd env i)
 | .index t x i=>qR P t (rd env x) (rd env i)
 | .extract x i=>ue (rd env x) i
 | .lookup t x k ok=>ma P fr t (rd env x) (rd env k) ok
 | .slice t x lo D G=>match n8 P t (rd env x) (lo.map (rd env)) (D.map (rd env)) (G.map (rd env))with
  |some y=>some y
  |none=>rV P fr t (rd env x) (lo.map (rd env)) (D.map (rd env)) (G.map (rd env))
 | .makeFunc f first caps=>match((first++caps).toList.map (rd env)).all cQ with
  |true=>some (qG f first.size ((first++caps).toList.map (rd env)))
  |false=>none
 | .build t u=>match(u.toList.all fun p=>(bo (rd env p.2)).all cQ)with
  |true=>match qi P t (u.toList.map fun p=>(p.1,rd env p.2))with
   |some I=>some (jk I)
   |none=>none
  |false=>none
 | .buildSlice t v u=>match(u.toList.all fun p=>(bo (rd env p.2)).all cQ)with
  |true=>match oK P t v (u.toList.map fun p=>(p.1,rd env p.2))with
   |some J=>some (.tc J)
   |none=>none
  |false=>none
 | .call c=>oL P fr env c.callee c.args.toList c.argTypes
 | .convert s d x=>qp P s d (rd env x)
 |_=>none
def cr(P:Program)(o:Oper)(a:Act)(w:World)(R:Value->World->Prop):Prop:=
 match(execOp a.eval o).run P w with
 | .ok (.value v) w'=>R v w'
 | .ok .skip w'=>R undef w'
 | .ok (.enter f args) w'=>Calls P f args w' fun e u=>∃v,e=.returned v/\R v u
 |_=>False
def Fw(rd:Option Nat):Fence:={Fence.wide with round:=rd}
def Cf{rd:Option Nat}{n:Nat}{P:Program}{f:FuncId}{args:Array Value}{w:World}{R:Ending->World->Prop}(h:Calls P f args w R):CallsIn (Fw rd) n P f args w R:=by
 have h1:CallsIn Fence.wide n P f args w R:=callsIn_wide.2 h
 cases rd with
 |none=>exact h1
 |some l=>exact h1.inRound l
theorem cr.wpIn{P:Program}{o:Oper}{a:Act}{w:World}{R:Value->World->Prop}{K:Act->World->Prop}{Q:Exit->Act->World->Prop}{rd:Option Nat}{dn:Nat}(h:cr P o a w R)(u:∀v w',R v w'->K (a.put o.dst v) w'):o.wpIn (Fw rd) dn P a w K Q:=by
 refine⟨fun _ _=>trivial,?_⟩
 have e:o.semAt (Fw rd).round a.eval=execOp a.eval o:=by
  refine Oper.semAt_eq _ _ _ fun c z=>?_;unfold cr at h;have:(execOp a.eval o).run P w=(execOp a.eval o).run P w:=rfl;revert h;unfold execOp;rw[z];simp only;cases J:(resolve a.eval c o.type).run P w <;>simp[Sem.run_bind,J,pure,Sem.run]
 rw[e];unfold cr at h;generalize(execOp a.eval o).run P w=r at*
 cases r with
 |ok n w'=>
  cases n <;>simp only[Oper.uponIn]at h⊢
  case value v=>exact u _ _ h
  case skip=>exact u _ _ h
  case enter f y=>exact⟨fun D=>(by cases rd <;>cases D),Cf (Calls.mono h fun e O ⟨v,G,I⟩=>by subst G;exact u _ _ I)⟩
 |halt x w'=>exact h.elim
theorem cr.mono{P:Program}{o:Oper}{a:Act}{w:World}{R y:Value->World->Prop}(h:cr P o a w R)(u:∀v w',R v w'->y v w'):cr P o a w y:=by
 unfold cr at*
 generalize(execOp a.eval o).run P w=r at*
 cases r with
 |ok n w'=>
  cases n <;>simp only at h⊢
  case value v=>exact u _ _ h
  case skip=>exact u _ _ h
  case enter f z=>exact Calls.mono h fun e I ⟨v,D,G⟩=>⟨v,D,u _ _ G⟩
 |halt x w'=>exact h.elim
section
variable {P:Program} {A:Nat->Prop} {L:Ls} {w:World} {o:Oper} {a:Act}
theorem cr.value{v:Value}{R:Value->World->Prop}(h:(execOp a.eval o).run P w=.ok (.value v) w)(u:R v w):cr P o a w R:=by
 unfold cr;rw[h];exact u
def cr.gb{w':World}{v:Value}{R:Value->World->Prop}(h:(execOp a.eval o).run P w=.ok (.value v) w')(u:R v w'):cr P o a w R:=by
 unfold cr;rw[h];exact u
theorem cr.enter{f:FuncId}{args:Array Value}{R:Value->World->Prop}(h:(execOp a.eval o).run P w=.ok (.enter f args) w)(y:Calls P f args w fun e u=>∃v,e=.returned v/\R v u):cr P o a w R:=by
 unfold cr;rw[h];exact y
def gA(v:Value):SR A L w (cv v) v:=by
 unfold cv;split
 ·exact .t _ _ (.bool _)
 ·exact .t _ _ (.int _ _)
 ·exact .t _ _ (.str _)
 ·exact .nil
 ·split
  ·rename_i h;exact .t _ _ (.lit _ h)
  ·exact .dead _
def j4{env:Env}{a:Act}(h:∀t,SR A L w (env t) (a.tmps.getD t undef))(x:Operand):SR A L w (cE env x) (a.eval x):=by
 cases x with
 |tmp t=>exact h t
 |const v=>exact gA v
 |global g=>exact .dead _
 |func f=>exact .t _ _ (.fn _ [] #[] #[] rfl (fun j x u y _=>by simp at y))
def mw{s:SV}{v:Value}(h:SR A L w s v):SR A L w (un s) v:=by
 unfold un;split
 ·cases h with|aN _ _ h=>exact h
 ·exact h
def bG{env:Env}{y:Operand}{v:Value}(h:SR A L w (cE env y) v):SR A L w (rd env y) v:=mw h
def dK{k:IntKind}{n:Int}{v:Value}(h:SR A L w (.t (.int k n)) v):v=.int k n:=by cases h with|t _ _ h=>cases h;rfl
def jC{b:Bool}{v:Value}(h:SR A L w (.t (.bool b)) v):v=.bool b:=by cases h with|t _ _ h=>cases h;rfl
def nr{s:ByteArray}{v:Value}(h:SR A L w (.t (.str s)) v):v=.string s:=by cases h with|t _ _ h=>cases h;rfl
def j_{u v:Value}(h:SR A L w (.t (.lit u)) v):v=u:=by cases h with|t _ _ h=>cases h;rfl
def ns{cs:List AV}{v:Value}(h:SR A L w (.t (.tp cs)) v):∃(b o:Nat) (us:Nat->Value),v=.pointer (some ⟨b,o,none⟩)/\cs≠[]/\b <w.heap.size/\A b/\(∀(j:Nat),j <cs.length->w.cell? ⟨b,o+j,none⟩=some (us j))/\∀(j:Nat) (x:AV),cs[j]?=some x->VR A w x (us j):=by
 cases h with
 |t _ _ h=>cases h with|tp b o cs us h1 h2 h3 h4 u=>exact⟨b,o,us,rfl,h1,h2,h3,h4,u⟩
def kj{i j:Nat}{v:Value}(h:SR A L w (.lp i j) v):∃g,L i=some (.pointer (some ⟨g,0,none⟩))/\v=.pointer (some ⟨g,j,none⟩):=by cases h with|lp _ _ g h=>exact⟨g,h,rfl⟩
def iu{i:Nat}{v:Value}(h:SR A L w (.ls i) v):L i=some v/\de v=true:=by cases h with|ls _ _ h u=>exact⟨h,u⟩
def l8{i sz k j:Nat}{v:Value}(h:SR A L w (.le i sz k j) v):∃b m c,L i=some (.slice (some ⟨b,0,none⟩) m c)/\v=.pointer (some ⟨b,k*sz+j,none⟩):=by cases h with|le _ _ _ _ b m c h=>exact⟨b,m,c,h,rfl⟩
def jD{i sz a n:Nat}{v:Value}(h:SR A L w (.lv i sz a n) v):∃b m c,L i=some (.slice (some ⟨b,0,none⟩) m c)/\v=.slice (some ⟨b,a*sz,none⟩) n (c - a):=by cases h with|lv _ _ _ _ b m c h=>exact⟨b,m,c,h,rfl⟩
def rZ(t:Value):fc t []=some t:=by cases t <;>rfl
theorem Av:∀(p q:List Nat) (t:Value),fc t (p++q)=(fc t p).bind fun u=>fc u q
 |[],q,t=>by rw[rZ];rfl
 |k::p,q,t=>by
  cases t with
  |tuple v=>
   rw[List.cons_append,fc,fc]
   cases v[k+1]? with
   |none=>rfl
   |some t=>exact Av p q t
  |_=>rfl
def AK(x:AV):gX x []=some x:=by cases x <;>rfl
def OV.at_{x:AV}{v t:Value}(h:OV w x v t){p:List Nat}{y:AV}(hy:gX x p=some y):∃v' D,fc t p=some D/\OV w y v' D/\∀b,Bk D b->Bk t b:=by
 induction p generalizing x v t with
 |nil=>
  rw[AK]at hy;cases hy;exact⟨v,t,rZ t,h,fun _ h=>h⟩
 |cons k p ih=>
  cases h with
  |int=>cases hy
  |bj=>simp[gX]at hy
  |arr b c T cs es fs us ts V hg Z hn hc hu hr h1 h2=>
   rw[gX]at hy;split at hy
   ·rename_i z I;rw[V]at I;obtain⟨z',u,e⟩:=nO I;cases e;have G:k <ts.length:=by rw[Z];exact aC u
    obtain⟨v',D,J,O,Q⟩:=ih (hr k z _ u (List.getElem?_eq_getElem G)) hy;refine⟨v',D,?_,O,fun b U=>ta (List.getElem?_eq_getElem G) (Q b U)⟩;rw[fc];simp only[List.getElem?_toArray,List.getElem?_cons_succ,List.getElem?_eq_getElem G];exact J
   ·cases hy
def OV.head{fs:List (List AV)}{v t:Value}(h:OV w (.arr fs) v t):∃us,t=.tuple us/\us[0]?=some v:=by
 cases h with
 |bj a=>exact⟨_,rfl,rfl⟩
 |arr b c T u y fs us z=>exact⟨_,rfl,by simp⟩
def OV.hd{y:AV}{v v' t u:Value}{p:List Nat}(h:OV w y v' u)(hs:fc t p=some u)(hv:jy t p=some v):v=v':=by
 unfold jy at hv;rw[hs]at hv
 cases h with
 |int=>simp at hv
 |bj a=>simpa using hv.symm
 |arr b c T z D G J I=>simpa using hv.symm
def OV.elem{fs:List (List AV)}{v t:Value}(h:OV w (.arr fs) v t){k:Nat}{y:AV}(hk:fs[k]?=some [y]):∃b n c u I,v=.slice (some ⟨b,0,none⟩) n (c+1)/\Bk t b/\w.cell? ⟨b,k,none⟩=some u/\OV w y u I/\fc t [k]=some I:=by
 cases h with
 |bj a=>simp at hk
 |arr b c T cs es fs us J O Q U hn hc Z V h1 h2=>
  rw[O]at hk;obtain⟨z,G,e⟩:=nO hk;cases e;have D:k <J.length:=by rw[U];exact aC G
  refine⟨b,_,c,us k,J[k],rfl,tb,by simp[World.cell?,Q,Z k (aC G)],V k y _ G (List.getElem?_eq_getElem D),?_⟩;rw[fc];simp only[List.getElem?_toArray,List.getElem?_cons_succ,List.getElem?_eq_getElem D];exact rZ _
theorem OV.put{w':World}{b k n c:Nat}{O:IntKind}{m0 m:Int}{fs:List (List AV)}(y:∀Q,Q≠b->w'.heap[Q]?=w.heap[Q]?)(ad:∀cs T,w.heap[b]?=some (.cells cs T (0,0))->w'.heap[b]?=some (.cells (cs.setIfInBounds k (.int O m)) T (0,0))):∀{p:List Nat} {x:AV} {v t:Value},OV w x v t->gX x p=some (.arr fs)->fs[k]?=some [.int O m0]->jy t p=some (.slice (some ⟨b,0,none⟩) n c)->OV w' (setAt x p k (.int O m)) v t
 |[],x,v,t,h,G,U,hv=>by
  rw[AK]at G;cases G;have aq:¬ ∃a,v=.slice a 0 0/\fs=[]:=fun⟨_,_,e⟩=>by rw[e]at U;simp at U
  have an:=(OV.hd h (rZ t) hv).symm
  cases h with
  |bj a=>simp at U
  |arr b0 c0 T cs es fs us ts he hg hl hn hc hu hr h1 h2=>
   cases an;rw[he]at U⊢;obtain⟨z,hz,e⟩:=nO U;cases e;have I:=aC hz
   have:=OV.arr (w:=w') b c0 T (cs.setIfInBounds k (.int O m)) (es.set k (.int O m)) ((es.map fun x=>[x]).set k [.int O m]) (fun q=>if q=k then .int O m else us q) ts (by rw[List.map_set]) (ad cs T hg) (by rw[List.length_set];exact hl) (by rw[List.length_set];exact hn) (by rw[List.length_set];exact hc) (fun q hq=>by
     rw[List.length_set]at hq;rw[Array.getElem?_setIfInBounds];have am:=(Array.getElem?_eq_some_iff.1 (hu k I)).1;by_cases e:k=q
     ·subst e;simp[am]
     ·rw[if_neg e,if_neg (Ne.symm e)];exact hu q hq) (fun q x t J V=>by
     by_cases e:q=k
     ·subst e;rw[List.getElem?_set_self I]at J;cases J;have:=hr q _ t hz V;rw[if_pos rfl];generalize us q=u at this;cases this;exact .int _ _
     ·rw[List.getElem?_set_ne (Ne.symm e)]at J;rw[if_neg e];exact(hr q x t J V).same fun Q Z=>y Q fun e'=>h1 q t V (e' ▸ Z)) h1 h2
   rw[List.length_set]at this;exact this
 |q::p,x,v,t,h,G,U,hv=>by
  cases h with
  |int=>cases G
  |bj=>simp[gX]at G
  |arr b0 c0 T cs es ao us ts he hg hl hn hc hu hr h1 h2=>
   rw[gX]at G;split at G
   ·rename_i z hz;rw[setAt];simp only[hz];rw[he]at hz⊢;obtain⟨z',ak,e⟩:=nO hz;cases e;have I:=aC ak;have D:q <ts.length:=by omega
    have ag:jy ts[q] p=some (.slice (some ⟨b,0,none⟩) n c):=by
     unfold jy at hv⊢;rw[fc]at hv;simp only[List.getElem?_toArray,List.getElem?_cons_succ,List.getElem?_eq_getElem D]at hv;exact hv
    have al:=hr q z _ ak (List.getElem?_eq_getElem D)
    have af:Bk ts[q] b:=by
     obtain⟨v',t',e1,e2,e3⟩:=al.at_ G;obtain⟨Q,n',c',u,t2,e4,e5,_⟩:=e2.elem U;have:=e2.hd e1 ag;rw[e4]at this;cases this;exact e3 b e5
    have ih:=OV.put y ad al G U ag
    have:=OV.arr (w:=w') b0 c0 T cs (es.set q (setAt z p k (.int O m))) ((es.map fun x=>[x]).set q [setAt z p k (.int O m)]) us ts (by rw[List.map_set]) ((y b0 fun e=>h1 q _ (List.getElem?_eq_getElem D) (e ▸ af)).trans hg) (by rw[List.length_set];exact hl) (by rw[List.length_set];exact hn) (by rw[List.length_set];exact hc) (fun q hq=>by rw[List.length_set]at hq;exact hu q hq) (fun q' x t J V=>by
      by_cases e:q'=q
      ·subst e;rw[List.getElem?_set_self I]at J;cases J;rw[List.getElem?_eq_getElem D]at V;cases V;exact ih
      ·rw[List.getElem?_set_ne (Ne.symm e)]at J;exact(hr q' x t J V).same fun Q Z=>y Q fun e'=>e (h2 q' q t _ b V (List.getElem?_eq_getElem D) (e' ▸ Z) af)) h1 h2
    rw[List.length_set]at this;exact this
   ·cases G
def yX{fr:Fr}{i:Nat}{p:List Nat}{fs:List (List AV)}(h:rD fr i p=some fs):∃ro x,fr[i]?=some (.own ro x)/\gX x p=some (.arr fs):=by
 unfold rD at h;split at h
 ·rename_i ro x v;split at h
  ·rename_i u y;cases h;exact⟨ro,x,v,y⟩
  ·cases h
 ·cases h
def El{i:Nat}{p:List Nat}{v:Value}(h:SR A L w (.lo i p) v):∃t,L i=some t/\jy t p=some v/\de v=true:=by cases h with|lo _ _ t _ h y u=>exact⟨t,h,y,u⟩
def qT{i:Nat}{p:List Nat}{k:Nat}{v:Value}(h:SR A L w (.lr i p k) v):∃t b n c,L i=some t/\jy t p=some (.slice (some ⟨b,0,none⟩) n c)/\v=.pointer (some ⟨b,k,none⟩):=by cases h with|lr _ _ _ b n c t h u=>exact⟨t,b,n,c,h,u,rfl⟩
def rc{fr:Fr}{i sz a n:Nat}{es:List (List AV)}(h:eZ fr i sz a n=some es):∃ro tch u,fr[i]?=some (.row ro tch sz u)/\a+n<=u.length/\es=(u.drop a).take n:=by
 unfold eZ at h;split at h
 ·rename_i ro tch y u z;split at h
  ·rename_i v;rw[Bool.and_eq_true,Nat.ble_eq]at v;obtain rfl:sz=y:=by simpa using v.1
   cases h;exact⟨ro,tch,u,z,v.2,rfl⟩
  ·cases h
 ·cases h
def uK{fr:Fr}{i sz a n:Nat}{es:List (List AV)}(h:eZ fr i sz a n=some es):es.length=n:=by
 obtain⟨_,_,u,_,h1,rfl⟩:=rc h;rw[List.length_take,List.length_drop];omega
def eB{s:SV}{es:List (List AV)}{v:Value}(h:SR A L w s v)(hs:s=.t (.arr es)\/s=.tc es\/s=.nn es\/(s=.nil/\es=[])):VR A w (.arr es) v:=by
 rcases hs with rfl|rfl|rfl|⟨rfl,rfl⟩
 ·cases h with|t _ _ h=>exact h
 ·cases h with|tc _ a h=>exact h
 ·cases h with|nn _ a c h=>exact h
 ·cases h;exact .bj _ _
def sM{es:List (List AV)}{v:Value}(h:VR A w (.arr es) v):∃q c,v=.slice q es.length c:=by
 cases h with
 |bj q c=>exact⟨q,c,rfl⟩
 |arr b o c=>exact⟨_,c,rfl⟩
def addr_add(b o k:Nat):(⟨b,o,none⟩:Addr).add k=⟨b,o+k,none⟩:=by
 unfold Addr.add;split
 ·rename_i h;subst h;rfl
 ·rfl
def zX{t:Nat}{i:TypeInfo}(h:P.info? t=some i)(w:World):(typeInfo t).run P w=.ok i w:=by simp[typeInfo,program,Sem.run,Sem.run_bind,h,pure]
def gS{t:Nat}{i:TypeInfo}(h:P.info? t=some i)(w:World):(sizeOf t).run P w=.ok i.size w:=by simp[sizeOf,Sem.run_bind,zX h,pure,Sem.run]
def rR{T:Nat}{i:TypeInfo}{z:Value}(hi:P.info? T=some i)(hz:i.zero=some z)(w:World):(zeroValue T).run P w=.ok z w:=by simp[zeroValue,Sem.run_bind,zX hi,hz,pure,Sem.run]
def pF{t n:Nat}{b:Bool}(h:bm P t=some (b,n))(w:World):(isAgg t).run P w=.ok b w/\(sizeOf t).run P w=.ok n w:=by
 unfold bm at h;split at h
 ·rename_i y v
  cases u:P.info? t with
  |none=>rw[u]at h;cases h
  |some i=>
   rw[u]at h;cases h;exact⟨by simp[isAgg,Sem.run_bind,run_underlying v,pure,Sem.run],gS u w⟩
 ·rename_i z e v
  cases u:P.info? t with
  |none=>rw[u]at h;cases h
  |some i=>
   rw[u]at h;cases h;exact⟨by simp[isAgg,Sem.run_bind,run_underlying v,pure,Sem.run],gS u w⟩
 ·rename_i d h1 h2 v
  cases u:P.info? t with
  |none=>rw[u]at h;cases h
  |some i=>
   rw[u]at h;cases h;refine⟨?_,gS u w⟩;unfold isAgg;simp only[Sem.run_bind,run_underlying v,Result.andThen_ok];cases d <;>first|exact absurd rfl (h1 _)|exact absurd rfl (h2 _ _)|rfl
 ·cases h
theorem mn:∀{cs:List SV} {xs:List AV},e7 cs=some xs->cs.length=xs.length/\∀(j:Nat) (s:SV) (x:AV) (v:Value),cs[j]?=some s->xs[j]?=some x->SR A L w s v->VR A w x v
 |[],xs,h=>by cases h;exact⟨rfl,fun j s x v hs=>by simp at hs⟩
 |c::r,xs,h=>by
  have z:∀{y:AV},(∀v,SR A L w c v->VR A w y v)->(match e7 r with|some xs=>some (y::xs)|none=>none)=some xs->(c::r).length=xs.length/\∀(j:Nat) (s:SV) (x:AV) (v:Value),(c::r)[j]?=some s->xs[j]?=some x->SR A L w s v->VR A w x v:=fun{y} J h=>by
   cases D:e7 r with
   |none=>rw[D]at h;cases h
   |some O=>
    rw[D]at h;cases h;obtain⟨h1,h2⟩:=mn D;refine⟨by simp[h1],fun j s x v hs G u=>?_⟩
    cases j with
    |zero=>cases hs;cases G;exact J v u
    |succ j=>exact h2 j s x v (by simpa using hs) (by simpa using G) u
  cases c with
  |t x=>exact z (fun v u=>by cases u with|t _ _ h=>exact h) h
  |nil=>exact z (fun v u=>by cases u;exact .bj _ _) h
  |tc I=>exact z (fun v u=>by cases u with|tc _ a h=>exact h) h
  |nn I=>exact z (fun v u=>by cases u with|nn _ a c h=>exact h) h
  |_=>cases h
theorem zd:∀{cs:List SV} {xs:List AV},ml cs=some xs->cs.length=xs.length/\∀(j:Nat) (s:SV) (x:AV) (v:Value),cs[j]?=some s->xs[j]?=some x->SR A L w s v->VR A w x v
 |[],xs,h=>by cases h;exact⟨rfl,fun j s x v hs=>by simp at hs⟩
 |c::r,xs,h=>by
  have D:∀{y:AV},(∀v,SR A L w c v->VR A w y v)->(match ml r with|some xs=>some (y::xs)|none=>none)=some xs->(c::r).length=xs.length/\∀(j:Nat) (s:SV) (x:AV) (v:Value),(c::r)[j]?=some s->xs[j]?=some x->SR A L w s v->VR A w x v:=fun{y} I h=>by
   cases z:ml r with
   |none=>rw[z]at h;cases h
   |some J=>
    rw[z]at h;cases h;obtain⟨h1,h2⟩:=zd z;refine⟨by simp[h1],fun j s x v hs G u=>?_⟩
    cases j with
    |zero=>cases hs;cases G;exact I v u
    |succ j=>exact h2 j s x v (by simpa using hs) (by simpa using G) u
  cases c with
  |t x=>exact D (fun v u=>by cases u with|t _ _ h=>exact h) h
  |_=>cases h
def qb{cs:List SV}{v:Value}(h:SR A L w (.agg cs) v):SR A L w (jk cs) v:=by
 unfold jk;split
 ·rename_i xs D
  cases h with
  |agg _ us hl hr=>
   obtain⟨h1,h2⟩:=zd (A:=A) (L:=L) (w:=w) D;refine .t _ _ (.agg _ us (by rw[hl,h1]) fun j x u y z=>?_);obtain⟨s,hs⟩:=av (xs:=cs) (k:=j) (by rw[h1];exact aC y);exact h2 j s x u hs y (hr j s u hs z)
 ·exact h
def xq{f:Fn}{z:Nat}{cs:List SV}{v:Value}(h:SR A L w (.fn f z cs) v):SR A L w (qG f z cs) v:=by
 unfold qG;split
 ·rename_i xs G
  cases h with
  |fn _ _ fs us hl hr=>
   obtain⟨h1,h2⟩:=mn (A:=A) (L:=L) (w:=w) G;refine .t _ _ (.fn _ _ fs us (by rw[hl,h1]) fun j x u y D=>?_);obtain⟨s,hs⟩:=av (xs:=cs) (k:=j) (by rw[h1];exact aC y);exact h2 j s x u hs y (hr j s u hs D)
 ·exact h
def vw{y f u b o:Nat}(hf:o4 P y f=some u):(Instr.fieldAt y (.pointer (some ⟨b,o,none⟩)) f).run P w=.ok (.pointer (some ⟨b,o+u,none⟩)) w:=by
 unfold o4 at hf;split at hf
 ·rename_i J G;split at hf
  ·rename_i I v;split at hf
   ·rename_i i D;split at hf
    ·cases hf
    ·rename_i z;cases hf;simp[Instr.fieldAt,Instr.sureAddr,Sem.run_bind,run_underlying G,v,fieldPlace,gS D,z,pure,Sem.run,addr_add]
   ·cases hf
  ·cases hf
 ·cases hf
def AF{b o n:Nat}{cs:List AV}{c:AV}{r:List AV}{us:Nat->Value}(hd:cs.drop n=c::r)(hb:b <w.heap.size)(y:A b)(hc:∀(j:Nat),j <cs.length->w.cell? ⟨b,o+j,none⟩=some (us j))(hr:∀(j:Nat) (x:AV),cs[j]?=some x->VR A w x (us j)):VR A w (.tp (c::r)) (.pointer (some ⟨b,o+n,none⟩)):=by
 rw[<- hd];have u:(cs.drop n).length=cs.length - n:=List.length_drop;refine .tp b (o+n) _ (fun j=>us (n+j)) (by rw[hd];simp) hb y (fun j z=>?_) fun j x v=>?_
 ·have:=hc (n+j) (by omega);rwa[<- Nat.add_assoc]at this
 ·rw[List.getElem?_drop]at v;exact hr _ _ v
def DA{G f:Nat}{s x:SV}{v:Value}(h:o0 P G f s=some x)(hs:SR A L w s v):∃u,(Instr.fieldAt G v f).run P w=.ok u w/\SR A L w x u:=by
 unfold o0 at h;split at h
 ·cases h
 ·rename_i y D;split at h
  ·rename_i O;obtain⟨b,o,Q,rfl,h1,h2,h3,h4,I⟩:=ns hs;split at h
   ·rename_i c r J;cases h;exact⟨_,vw D,.t _ _ (AF J h2 h3 h4 I)⟩
   ·cases h
  ·rename_i i j;cases h;obtain⟨g,z,rfl⟩:=kj hs;exact⟨_,vw D,.lp i (j+y) g z⟩
  ·rename_i i sz k j;cases h;obtain⟨b,m,c,z,rfl⟩:=l8 hs;refine⟨_,vw D,?_⟩;rw[Nat.add_assoc];exact .le i sz k (j+y) b m c z
  ·cases h
def nX{t n v:Nat}{us:Array Value}{y:Bool}(ht:bm P t=some (y,n)):(y=true->(part t us v).run P w=.ok (.agg (us.extract v (v+n))) w)/\(y=false->∀u,us[v]?=some u->(part t us v).run P w=.ok u w):=by
 have z:=pF ht w;unfold part;refine⟨fun h=>?_,fun h u D=>?_⟩
 ·subst h;simp[Sem.run_bind,z.1,z.2,pure,Sem.run]
 ·subst h;simp[Sem.run_bind,z.1,D,pure,Sem.run]
def DB{st f:Nat}{s x:SV}{v:Value}(h:uf P st f s=some x)(hs:SR A L w s v):∃u,(Instr.field st v f).run P w=.ok u w/\SR A L w x u:=by
 unfold uf at h;split at h
 ·cases h
 ·rename_i ad ft z
  have I:∃V G,P.underlying st=some (.struct V)/\V[f]?=some G/\G.offset=ad/\G.type=ft:=by
   unfold xi at z;split at z
   ·rename_i V D;split at z
    ·rename_i G I;cases z;exact⟨V,G,D,I,rfl,rfl⟩
    ·cases z
   ·cases z
  obtain⟨V,G,D,I,rfl,rfl⟩:=I;split at h
  ·cases h
  ·rename_i ag n Z
   have O:∀{Q:Array Value} {u:Value},(part G.type Q G.offset).run P w=.ok u w->(Instr.field st (.agg Q) f).run P w=.ok u w:=fun{Q u} hp=>by
    simp[Instr.field,Sem.run_bind,run_underlying D,I,asAgg,pure,Sem.run,hp]
   split at h
   ·rename_i cs
    cases hs with
    |t _ _ hs=>
     cases hs with
     |agg _ Q hl hr=>
      cases ag with
      |false=>
       simp only at h;split at h
       ·rename_i c hc;cases h;have U:G.offset <Q.size:=by rw[hl];exact aC hc
        exact⟨Q[G.offset],O ((nX Z).2 rfl _ (Array.getElem?_eq_getElem U)),.t _ _ (hr _ c _ hc (Array.getElem?_eq_getElem U))⟩
       ·cases h
      |true=>
       simp only at h;split at h
       ·rename_i hb;cases h;rw[Nat.ble_eq]at hb;refine⟨_,O ((nX Z).1 rfl),.t _ _ (.agg _ _ (by rw[Array.size_extract,List.length_take,List.length_drop];omega) fun j y u J D=>?_)⟩;rw[List.getElem?_take]at J;split at J
        ·rename_i U;rw[List.getElem?_drop]at J;rw[Array.getElem?_extract]at D;split at D
         ·exact hr _ y u J D
         ·cases D
        ·cases J
       ·cases h
   ·rename_i cs
    cases hs with
    |agg _ Q hl hr=>
     cases ag with
     |false=>
      simp only at h;have U:G.offset <Q.size:=by rw[hl];exact aC h
      exact⟨Q[G.offset],O ((nX Z).2 rfl _ (Array.getElem?_eq_getElem U)),hr _ x _ h (Array.getElem?_eq_getElem U)⟩
     |true=>
      simp only at h;split at h
      ·rename_i hb;cases h;rw[Nat.ble_eq]at hb;refine⟨_,O ((nX Z).1 rfl),qb (.agg _ _ (by rw[Array.size_extract,List.length_take,List.length_drop];omega) fun j y u J D=>?_)⟩;rw[List.getElem?_take]at J;split at J
       ·rename_i U;rw[List.getElem?_drop]at J;rw[Array.getElem?_extract]at D;split at D
        ·exact hr _ y u J D
        ·cases D
       ·cases J
      ·cases h
   ·cases h
def Dv{i:Nat}{s x:SV}{v:Value}(h:ue s i=some x)(hs:SR A L w s v):∃u,(Instr.extract v i).run P w=.ok u w/\SR A L w x u:=by
 unfold ue at h;split at h
 ·cases hs with
  |aL _ us hl hr=>
   have z:i <us.size:=by rw[hl];exact aC h
   exact⟨us[i],by simp[Instr.extract,z,pure,Sem.run],hr i x us[i] h (Array.getElem?_eq_getElem z)⟩
 ·split at h
  ·rename_i y D;cases h
   cases hs with
   |t _ _ hs=>
    cases hs with
    |aL _ us hl hr=>
     have z:i <us.size:=by rw[hl];exact aC D
     exact⟨us[i],by simp[Instr.extract,z,pure,Sem.run],.t _ _ (hr i y us[i] D (Array.getElem?_eq_getElem z))⟩
  ·cases h
 ·cases h
def FB{s x:SV}{v:Value}(h:uS s=some x)(hs:SR A L w s v):(∃q,v=.pointer (some q))/\SR A L w x v:=by
 unfold uS at h;split at h
 ·cases h;obtain⟨b,o,u,rfl,_⟩:=ns hs;exact⟨⟨_,rfl⟩,hs⟩
 ·cases h;obtain⟨g,_,rfl⟩:=kj hs;exact⟨⟨_,rfl⟩,hs⟩
 ·cases h;obtain⟨b,m,c,_,rfl⟩:=l8 hs;exact⟨⟨_,rfl⟩,hs⟩
 ·cases h;obtain⟨t,b,n,c,_,_,rfl⟩:=qT hs;exact⟨⟨_,rfl⟩,hs⟩
 ·cases h
def IC{b:UnOp}{s x:SV}{v:Value}(h:sF b s=some x)(hs:SR A L w s v):∃u,(Op.unary b v).run P w=.ok u w/\SR A L w x u:=by
 unfold sF at h;split at h
 ·rename_i y;obtain rfl:=jC hs;cases b <;>simp only at h <;>first|(cases h;done)|skip
  cases h;exact⟨.bool (!y),by simp[Op.unary,pure,Sem.run],.t _ _ (.bool _)⟩
 ·rename_i k n;obtain rfl:=dK hs;cases b <;>simp only at h <;>first|(cases h;done)|skip
  cases h;exact⟨.int k (k.wrap (0 - n)),by simp[Op.unary,Op.intArith,pure,Sem.run],.t _ _ (.int _ _)⟩
 ·cases h
def Eg{t:Nat}{s i x:SV}{v u:Value}(h:qR P t s i=some x)(hs:SR A L w s v)(hi:SR A L w i u):∃y,(Instr.index t v u).run P w=.ok y w/\SR A L w x y:=by
 unfold qR at h;split at h
 ·rename_i str k m;obtain rfl:=nr hs;obtain rfl:=dK hi;split at h
  ·rename_i D;unfold k7 at D;split at D
   ·rename_i J;split at h
    ·rename_i G;split at h
     ·rename_i b I;cases h;have z:0<=m:=of_decide_eq_true G;refine⟨.int .u8 b.toNat,?_,.t _ _ (.int _ _)⟩;simp[Instr.index,asIntOf,Sem.run_bind,run_underlying J,z,I,pure,Sem.run]
     ·cases h
    ·cases h
   ·cases D
  ·cases h
 ·cases h
end
section
variable {P:Program} {γ:Glob} {κ:Ctx} {fr:Fr} {L:Ls} {w:World} {A:Nat->Prop}
def wB(y:ar γ κ fr L w){i j b:Nat}{ro:Bool}{T:TypeId}{cs:List SV}{x:SV}(hb:fr[i]?=some (.box ro T cs))(z:L i=some (.pointer (some ⟨b,0,none⟩)))(hx:cs[j]?=some x):∃u,w.cell? ⟨b,j,none⟩=some u/\SR (MA κ.M fr L) L w x u:=by
 obtain⟨G,v,h1,h2,h3,h4⟩:=y.box i ro T cs hb;rw[z]at h1;cases h1;have D:j <v.size:=by rw[h3];exact aC hx
 exact⟨v[j],by simp[World.cell?,h2],h4 j x v[j] hx (Array.getElem?_eq_getElem D)⟩
def dO(z:ar γ κ fr L w){i sz:Nat}{ro tch:Bool}{es:List (List AV)}{v:Value}(hb:fr[i]?=some (.row ro tch sz es))(D:L i=some v):∃T us,b8 w T sz v es.length us/\es.length<=140737488351232/\(∃q c,v=.slice q es.length c)/\(∀(k:Nat) (cs:List AV),es[k]?=some cs->cs.length=sz)/\∀(k j:Nat) (cs:List AV) (x:AV),es[k]?=some cs->cs[j]?=some x->∃u,us[k*sz+j]?=some u/\VR (MA κ.M fr L) w x u:=by
 obtain⟨T,G,us,h1,h2,h3,h4,y⟩:=z.row i _ _ _ _ hb;rw[D]at h1;cases h1;exact⟨T,us,h2,h3,h2.form,h4,y⟩
def uW{w:World}{T:TypeId}{sz b n c q:Nat}{us:List Value}{u:Value}(h:w.ownsRow 0 T sz (.slice (some ⟨b,0,none⟩) n c) n us)(hq:us[q]?=some u):w.cell? ⟨b,q,none⟩=some u:=by
 have:=h.cells (g:=b) rfl q u hq;rwa[addr_add,Nat.zero_add]at this
def zG(y:ar γ κ fr L w){i sz b m c k j:Nat}{ro tch:Bool}{es:List (List AV)}{cs:List AV}{x:AV}(hb:fr[i]?=some (.row ro tch sz es))(z:L i=some (.slice (some ⟨b,0,none⟩) m c))(hk:es[k]?=some cs)(hj:cs[j]?=some x):
  ∃u,w.cell? ⟨b,k*sz+j,none⟩=some u/\VR (MA κ.M fr L) w x u:=by
 obtain⟨T,J,v,_,⟨q,I,e⟩,D,G⟩:=dO y hb z;cases e;obtain⟨u,h1,h2⟩:=G k j cs x hk hj;exact⟨u,uW (v.own (Nat.lt_of_le_of_lt (Nat.zero_le _) (aC hk))) h1,h2⟩
def yY(v:ar γ κ fr L w){i:Nat}{p:List Nat}{ro:Bool}{x y:AV}{t:Value}(hb:fr[i]?=some (.own ro x))(z:L i=some t)(hx:gX x p=some y):∃v' u,fc t p=some u/\OV w y v' u/\∀b,Bk u b->Bk t b:=by
 obtain⟨G,D,h1,h2⟩:=v.blk i _ hb;rw[z]at h1;cases h1;exact h2.at_ hx
theorem run_loadCells{b o:Nat}{us:Nat->Value}{w:World}:∀(n i:Nat) (u:Array Value),(∀j,j <n->w.cell? ⟨b,o+(i+j),none⟩=some (us (i+j)))->(loadCellsFrom ⟨b,o,none⟩ i n u).run P w=.ok (u++((List.range' i n).map us).toArray) w
 |0,i,u,_=>by simp[loadCellsFrom,pure,Sem.run]
 |n+1,i,u,h=>by
  have v:=h 0 (by omega);rw[Nat.add_zero]at v;unfold loadCellsFrom;simp only[Sem.run_bind,load,Sem.run,addr_add,v,Result.andThen_ok];rw[run_loadCells n (i+1) (u.push (us i)) fun j y=>by have:=h (j+1) (by omega);rwa[show i+1+j=i+(j+1) by omega]];rw[List.range'_succ,List.map_cons];congr 1;simp
def pG{t n b o:Nat}{u:Value}(ht:bm P t=some (false,n))(hc:w.cell? ⟨b,o,none⟩=some u):(Instr.loadAt t (.pointer (some ⟨b,o,none⟩))).run P w=.ok u w:=by
 simp[Instr.loadAt,Instr.sureAddr,loadVar,Sem.run_bind,(pF ht w).1,load,hc,pure,Sem.run]
def rQ{t n b o:Nat}{us:Nat->Value}(ht:bm P t=some (true,n))(hc:∀j,j <n->w.cell? ⟨b,o+j,none⟩=some (us j)):(Instr.loadAt t (.pointer (some ⟨b,o,none⟩))).run P w=.ok (.agg ((List.range' 0 n).map us).toArray) w:=by
 have:=run_loadCells (P:=P) (b:=b) (o:=o) (us:=us) (w:=w) n 0 #[] fun j u=>by rw[Nat.zero_add];exact hc j u
 simp[Instr.loadAt,Instr.sureAddr,loadVar,Sem.run_bind,(pF ht w).1,(pF ht w).2,loadCells,this,pure,Sem.run]
def Be{cs:List SV}{us:Nat->Value}(h:∀(j:Nat) (x:SV),cs[j]?=some x->SR A L w x (us j)):SR A L w (.agg cs) (.agg ((List.range' 0 cs.length).map us).toArray):=by
 refine .agg _ _ (by simp) fun j x u y v=>?_;have z:j <cs.length:=aC y;have:u=us j:=by simp[List.getElem?_range',z]at v;exact v.symm
 rw[this];exact h j x y
def sX{cs:List AV}{us:Nat->Value}(h:∀(j:Nat) (x:AV),cs[j]?=some x->VR A w x (us j)):VR A w (.agg cs) (.agg ((List.range' 0 cs.length).map us).toArray):=by
 refine .agg _ _ (by simp) fun j x u y v=>?_;have z:j <cs.length:=aC y;have:u=us j:=by simp[List.getElem?_range',z]at v;exact v.symm
 rw[this];exact h j x y
def yg{t:Nat}{s x:SV}{v:Value}(hC:ar γ κ fr L w)(h:eK P fr t s=some x)(hs:SR (MA κ.M fr L) L w s v):∃u,(Instr.loadAt t v).run P w=.ok u w/\SR (MA κ.M fr L) L w x u:=by
 unfold eK at h;split at h
 ·cases h
 ·rename_i ag n J;split at h
  ·rename_i cs;obtain⟨b,o,us,rfl,h1,h2,h3,h4,h5⟩:=ns hs
   cases ag with
   |false=>
    simp only at h;split at h
    ·rename_i c hc;cases h;exact⟨us 0,pG J (by have:=h4 0 (aC hc);rwa[Nat.add_zero]at this),.t _ _ (h5 0 c hc)⟩
    ·cases h
   |true=>
    simp only at h;split at h
    ·rename_i U;cases h;obtain rfl:n=cs.length:=by simpa using U
     exact⟨_,rQ J fun j hj=>h4 j hj,.t _ _ (sX fun j x Z=>h5 j x Z)⟩
    ·split at h
     ·rename_i U;cases h;rw[Nat.ble_eq]at U;have hl:(cs.take n).length=n:=by rw[List.length_take];omega
      have:=sX (A:=MA κ.M fr L) (w:=w) (cs:=cs.take n) (us:=us) fun j x Z=>by
       rw[List.getElem?_take]at Z;split at Z
       ·exact h5 j x Z
       ·cases Z
      rw[hl]at this;exact⟨_,rQ J fun j hj=>h4 j (by omega),.t _ _ this⟩
     ·cases h
  ·rename_i i j;obtain⟨b,O,rfl⟩:=kj hs;split at h
   ·rename_i ro T cs Q
    cases ag with
    |false=>
     simp only at h;obtain⟨u,hu,hr⟩:=wB hC Q O h;exact⟨u,pG J hu,hr⟩
    |true=>
     simp only at h;split at h
     ·rename_i U;cases h;rw[Nat.ble_eq]at U
      have I:∀k,k <n->w.cell? ⟨b,j+k,none⟩=some ((w.cell? ⟨b,j+k,none⟩).getD undef)/\∀y,cs[j+k]?=some y->SR (MA κ.M fr L) L w y ((w.cell? ⟨b,j+k,none⟩).getD undef):=fun k G=>by
       obtain⟨y,D⟩:=av (xs:=cs) (k:=j+k) (by omega);obtain⟨u,h1,h2⟩:=wB hC Q O D;rw[h1];exact⟨rfl,fun z V=>by rw[D]at V;cases V;exact h2⟩
      have hl:((cs.drop j).take n).length=n:=by rw[List.length_take,List.length_drop];omega
      have:=Be (A:=MA κ.M fr L) (L:=L) (w:=w) (cs:=(cs.drop j).take n) (us:=fun k=>(w.cell? ⟨b,j+k,none⟩).getD undef) fun k y D=>by
       rw[List.getElem?_take]at D;split at D
       ·rename_i G;rw[List.getElem?_drop]at D;exact(I k G).2 y D
       ·cases D
      rw[hl]at this;exact⟨_,rQ J fun k G=>(I k G).1,qb this⟩
     ·cases h
   ·cases h
  ·rename_i i sz k j;obtain⟨b,m,c,O,rfl⟩:=l8 hs;split at h
   ·rename_i ro an al es Q;split at h
    ·rename_i V;obtain rfl:sz=al:=by simpa using V
     split at h
     ·rename_i cs G
      cases ag with
      |false=>
       simp only at h;split at h
       ·rename_i y D;cases h;obtain⟨u,hu,hr⟩:=zG hC Q O G D;exact⟨u,pG J hu,.t _ _ hr⟩
       ·cases h
      |true=>
       simp only at h;split at h
       ·rename_i U;cases h;rw[Nat.ble_eq]at U
        have I:∀q,q <n->w.cell? ⟨b,k*sz+j+q,none⟩=some ((w.cell? ⟨b,k*sz+j+q,none⟩).getD undef)/\∀y,cs[j+q]?=some y->VR (MA κ.M fr L) w y ((w.cell? ⟨b,k*sz+j+q,none⟩).getD undef):=fun q hq=>by
         obtain⟨y,D⟩:=av (xs:=cs) (k:=j+q) (by omega);obtain⟨u,h1,h2⟩:=zG hC Q O G D;rw[<- Nat.add_assoc]at h1;rw[h1];exact⟨rfl,fun z V=>by rw[D]at V;cases V;exact h2⟩
        have hl:((cs.drop j).take n).length=n:=by rw[List.length_take,List.length_drop];omega
        have:=sX (A:=MA κ.M fr L) (w:=w) (cs:=(cs.drop j).take n) (us:=fun q=>(w.cell? ⟨b,k*sz+j+q,none⟩).getD undef) fun q y D=>by
         rw[List.getElem?_take]at D;split at D
         ·rename_i hq;rw[List.getElem?_drop]at D;exact(I q hq).2 y D
         ·cases D
        rw[hl]at this;exact⟨_,rQ J fun q hq=>(I q hq).1,.t _ _ this⟩
       ·cases h
     ·cases h
    ·cases h
   ·cases h
  ·rename_i i p k;obtain⟨t0,b,m,c,O,hv,rfl⟩:=qT hs;split at h
   ·rename_i fs af;obtain⟨ro,x0,Q,ak⟩:=yX af;obtain⟨v',t',e1,e2,e3⟩:=yY hC Q O ak
    have ad:∀{y:AV},fs[k]?=some [y]->∃u t2,w.cell? ⟨b,k,none⟩=some u/\OV w y u t2/\fc t0 (p++[k])=some t2:=fun{y} D=>by
     obtain⟨b',n',c',u,t2,f1,_,f3,f4,f5⟩:=e2.elem D;have:=e2.hd e1 hv;rw[f1]at this;cases this;exact⟨u,t2,f3,f4,by rw[Av,e1];exact f5⟩
    split at h
    ·rename_i am G;cases h;obtain⟨u,t2,f1,f2,f3⟩:=ad G;obtain⟨us,rfl,f4⟩:=f2.head;exact⟨u,pG J f1,.lo _ _ t0 u O (by unfold jy;rw[f3];exact f4) f2.plain⟩
    ·rename_i kk n' G;cases h;obtain⟨u,t2,f1,f2,f3⟩:=ad G;cases f2;exact⟨_,pG J f1,.t _ _ (.int _ _)⟩
    ·cases h
   ·cases h
  ·cases h
def qw{t e sz:Nat}(h:da P t=some (e,sz)):∃i,P.underlying t=some (.slice e)/\P.info? e=some i/\i.size=sz:=by
 unfold da at h;split at h
 ·rename_i v y
  cases u:P.info? v with
  |none=>rw[u]at h;cases h
  |some i=>rw[u]at h;cases h;exact⟨i,y,u,rfl⟩
 ·cases h
def rP{t e sz b o n c:Nat}{k:IntKind}{m:Int}(ht:da P t=some (e,sz))(h0:0<=m)(h1:m.toNat <n):(Instr.indexAt t (.slice (some ⟨b,o,none⟩) n c) (.int k m)).run P w=.ok (.pointer (some ⟨b,o+m.toNat*sz,none⟩)) w:=by
 obtain⟨i,v,u,rfl⟩:=qw ht;have h2:m <(n:Int):=by omega
 simp[Instr.indexAt,asIntOf,Sem.run_bind,run_underlying v,gS u,h0,h2,pure,Sem.run,addr_add]
def tP{t e sz:Nat}{k:IntKind}{m:Int}{es:List (List AV)}{x:SV}{v:Value}(ht:da P t=some (e,sz))(h:elemAt sz es m=some x)(hv:VR A w (.arr es) v):∃u,(Instr.indexAt t v (.int k m)).run P w=.ok u w/\SR A L w x u:=by
 unfold elemAt at h;split at h
 ·cases h
 ·rename_i D;have D:0<=m:=of_decide_eq_true D;split at h
  ·rename_i c I G;split at h
   ·rename_i Q;cases h;obtain rfl:sz=I.length+1:=by simpa using Q
    have z:=aC G
    cases hv with
    |bj=>simp at z
    |arr b o cp sz' _ us hne hlen hcap hb hM hsz hcell hr=>
     have hs:sz'=I.length+1:=(hsz _ _ G).symm;subst hs;refine⟨_,rP ht D z,.t _ _ (.tp b _ _ (us m.toNat) (by simp) hb hM (fun j J=>?_) fun j y O=>hr _ _ _ _ G O)⟩;have:=hcell m.toNat j z (by simpa using J);rwa[<- Nat.add_assoc]at this
   ·cases h
  ·cases h
def Bx{t n sz:Nat}(h:qg P t=some (n,sz)):∃e i,P.underlying t=some (.array n e)/\P.info? e=some i/\i.size=sz:=by
 unfold qg at h;split at h
 ·rename_i y e v
  cases u:P.info? e with
  |none=>rw[u]at h;cases h
  |some i=>rw[u]at h;cases h;exact⟨e,i,v,u,rfl⟩
 ·cases h
def qQ{m:Int}{n:Nat}(h:gJ m n=true):0<=m/\m.toNat <n:=by
 unfold gJ at h;rw[Bool.and_eq_true,Nat.blt_eq]at h;exact⟨of_decide_eq_true h.1,h.2⟩
def zW{t sz b o n:Nat}{k:IntKind}{m:Int}(ht:qg P t=some (n,sz))(h:gJ m n=true):(Instr.indexAt t (.pointer (some ⟨b,o,none⟩)) (.int k m)).run P w=.ok (.pointer (some ⟨b,o+m.toNat*sz,none⟩)) w:=by
 obtain⟨e,i,y,v,rfl⟩:=Bx ht;obtain⟨u,h1⟩:=qQ h;have h2:m <(n:Int):=by omega
 simp[Instr.indexAt,Instr.sureAddr,asIntOf,Sem.run_bind,run_underlying y,gS v,u,h2,pure,Sem.run,addr_add]
def Ee{t:Nat}{s i x:SV}{v u:Value}(hC:ar γ κ fr L w)(h:gK P fr t s i=some x)(hs:SR (MA κ.M fr L) L w s v)(hi:SR (MA κ.M fr L) L w i u):∃y,(Instr.indexAt t v u).run P w=.ok y w/\SR (MA κ.M fr L) L w x y:=by
 unfold gK at h;split at h
 ·rename_i e sz G;split at h
  ·rename_i k m;obtain rfl:=dK hi;split at h
   ·exact tP G h (eB hs (.inl rfl))
   ·exact tP G h (eB hs (.inr (.inl rfl)))
   ·exact tP G h (eB hs (.inr (.inr (.inl rfl))))
   ·rename_i r;split at h
    ·rename_i ro al J Q U;split at h
     ·rename_i hz;obtain rfl:sz=J:=by simpa using hz
      split at h
      ·rename_i D;cases h;obtain⟨O,h1⟩:=qQ D;obtain⟨z,_⟩:=iu hs;obtain⟨T,us,Z,_,⟨q,c,rfl⟩,_⟩:=dO hC U z;rcases(Z.own (by omega)).2 with⟨e,hz⟩|⟨b,cap,ag,e,_⟩
       ·omega
       ·cases e;refine⟨_,rP G O h1,?_⟩;rw[Nat.zero_add];exact .le r sz m.toNat 0 b _ _ z
      ·cases h
     ·cases h
    ·cases h
   ·rename_i r J a n;split at h
    ·rename_i Q ak;split at h
     ·rename_i I;rw[Bool.and_eq_true]at I;obtain rfl:sz=J:=by simpa using I.1
      cases h;obtain⟨O,h1⟩:=qQ I.2;obtain⟨b,m',c,z,rfl⟩:=jD hs;refine⟨_,rP G O h1,?_⟩;rw[<- Nat.add_mul];exact .le r sz (a+m.toNat) 0 b _ _ z
     ·cases h
    ·cases h
   ·rename_i r p;split at h
    ·rename_i fs V;obtain⟨ro,x0,U,ad⟩:=yX V;split at h
     ·rename_i I;rw[Bool.and_eq_true]at I;obtain rfl:sz=1:=by simpa using I.1
      cases h;obtain⟨O,h1⟩:=qQ I.2;obtain⟨t0,z,hv,hp⟩:=El hs;obtain⟨v',t',e1,e2,e3⟩:=yY hC U z ad;obtain rfl:=e2.hd e1 hv
      cases e2 with
      |bj a=>simp at h1
      |arr b c T cs Q fs us ts he=>
       have af:fs.length=Q.length:=by rw[he,List.length_map]
       refine⟨_,rP G O (by omega),?_⟩;rw[Nat.zero_add,Nat.mul_one];exact .lr r p m.toNat b _ _ t0 z hv
     ·cases h
    ·cases h
   ·cases h
  ·cases h
 ·split at h
  ·rename_i n sz G;split at h
   ·rename_i k m;obtain rfl:=dK hi;split at h
    ·cases h
    ·rename_i D;split at h
     ·rename_i cs;obtain⟨b,o,us,rfl,h1,h2,h3,h4,h5⟩:=ns hs;split at h
      ·rename_i c r hd;cases h;exact⟨_,zW G D,.t _ _ (AF hd h2 h3 h4 h5)⟩
      ·cases h
     ·rename_i b j;cases h;obtain⟨g,z,rfl⟩:=kj hs;exact⟨_,zW G D,.lp b _ g z⟩
     ·cases h
   ·cases h
  ·cases h
def HS{s:SV}{es:List (List AV)}{v:Value}(y:ar γ κ fr L w)(h:gT fr s=some es)(hs:SR (MA κ.M fr L) L w s v):∃q c,v=.slice q es.length c:=by
 unfold gT at h;split at h
 ·cases h;exact sM (eB hs (.inl rfl))
 ·cases h;exact sM (eB hs (.inr (.inr (.inr ⟨rfl,rfl⟩))))
 ·cases h;exact sM (eB hs (.inr (.inl rfl)))
 ·cases h;exact sM (eB hs (.inr (.inr (.inl rfl))))
 ·split at h
  ·rename_i I G sz u z;cases h;obtain⟨T,J,_,_,D,_⟩:=dO y z (iu hs).1;exact D
  ·cases h
 ·obtain⟨b,m,c,_,rfl⟩:=jD hs;rw[uK h];exact⟨_,_,rfl⟩
 ·cases h
def EX{ty:TypeId}{t:Option Nat}{tys:Array TypeId}{s x:SV}{v:Value}(O:ar γ κ fr L w)(ht:tys[0]?=t)(h:l_ P fr t s=some x)(hs:SR (MA κ.M fr L) L w s v):∃u,(Builtin.len_ tys ty #[v]).run P w=.ok u w/\SR (MA κ.M fr L) L w x u:=by
 unfold l_ at h;split at h
 ·cases h
 ·rename_i t;split at h
  ·rename_i str;obtain rfl:=nr hs;split at h
   ·rename_i D;cases h;unfold k7 at D;split at D
    ·rename_i G;exact⟨.int .i64 str.size,by simp[Builtin.len_,ht,run_underlying G,Sem.run_bind,goInt,pure,Sem.run],.t _ _ (.int _ _)⟩
    ·cases D
   ·cases h
  ·split at h
   ·rename_i z;split at h
    ·rename_i Q U;cases h;obtain⟨q,c,rfl⟩:=HS O U hs;unfold gL at z;split at z
     ·rename_i e G;exact⟨.int .i64 Q.length,by simp[Builtin.len_,ht,run_underlying G,Sem.run_bind,goInt,pure,Sem.run],.t _ _ (.int _ _)⟩
     ·cases z
    ·cases h
   ·unfold yk at h;split at h
    ·rename_i i Z;split at h
     ·rename_i ro ks vs y V;cases h;obtain⟨r,J,I,h1,h2,h3,_⟩:=O.blk i _ V
      cases hs with
      |lm _ r' hL=>
       rw[h1]at hL;cases hL;unfold xL at y;split at y
       ·rename_i k e G;exact⟨.int .i64 ks.length,by simp[Builtin.len_,ht,run_underlying G,Sem.run_bind,getObj,h2,goInt,pure,Sem.run,h3],.t _ _ (.int _ _)⟩
       ·cases y
     ·cases h
    ·cases h
end
def jj(M:Nat->Prop)(w:World)(xs:List AV)(us:Array Value):Prop:=us.size=xs.length/\∀(j:Nat) (x:AV) (u:Value),xs[j]?=some x->us[j]?=some u->VR M w x u
def VC(M:Nat->Prop)(w:World)(y:Bool)(xs:List AV)(v:Value):Prop:=match y with
 |true=>∃u,v=.agg u/\jj M w xs u
 |false=>∃x,xs=[x]/\VR M w x v
section
variable {P:Program} {M:Nat->Prop} {w:World}
def vx{t n y:Nat}{G:Bool}{xs:List AV}{us:Array Value}(ht:bm P t=some (G,n))(h:jj M w xs us)(hl:y+n<=xs.length)(h1:G=false->n=1):∃v,(part t us y).run P w=.ok v w/\VC M w G ((xs.drop y).take n) v:=by
 cases G with
 |true=>
  refine⟨_,(nX ht).1 rfl,_,rfl,by rw[Array.size_extract,List.length_take,List.length_drop,h.1];omega,fun j x u z I=>?_⟩;rw[List.getElem?_take]at z;split at z
  ·rename_i J;rw[List.getElem?_drop]at z;rw[Array.getElem?_extract]at I;split at I
   ·exact h.2 _ x u z I
   ·cases I
  ·cases z
 |false=>
  obtain rfl:=h1 rfl;have D:y <us.size:=by rw[h.1];omega
  have z:y <xs.length:=by omega
  refine⟨us[y],(nX ht).2 rfl _ (Array.getElem?_eq_getElem D),xs[y],?_,h.2 y _ _ (List.getElem?_eq_getElem z) (Array.getElem?_eq_getElem D)⟩;rw[List.drop_eq_getElem_cons z];rfl
def G9{d t:Nat}{u:TypeDesc}{xs G:List AV}{r:Bool}{a b:Value}(D:P.underlying t=some u)(h:ij u xs G=some r)(ha:∃x,xs=[x]/\VR M w x a)(hb:∃x,G=[x]/\VR M w x b):(Op.equalIn (d+1) t a b).run P w=.ok r w:=by
 obtain⟨x,rfl,ha⟩:=ha;obtain⟨y,rfl,hb⟩:=hb;unfold ij at h;split at h
 ·rename_i v z;cases v;cases z;cases ha;cases hb;split at h
  ·rename_i e;subst e;cases h;simp[Op.equalIn,run_underlying D,Sem.run_bind,pure,Sem.run];rfl
  ·cases h
 ·rename_i v z;cases v;cases z;cases ha;cases hb;cases h;simp[Op.equalIn,run_underlying D,Sem.run_bind,pure,Sem.run]
 ·rename_i v z;cases v;cases z;cases ha;cases hb;cases h;simp[Op.equalIn,run_underlying D,Sem.run_bind,pure,Sem.run]
 ·cases h
theorem zT{step:Nat->List AV->List AV->Option Bool}{e:Nat}{xs y:List AV}{us vs:Array Value}(hs:∀(t:Nat) (v:Bool) (n:Nat) (xs y:List AV) (r:Bool) (a b:Value),bm P t=some (v,n)->step t xs y=some r->VC M w v xs a->VC M w v y b->(Op.equalIn e t a b).run P w=.ok r w)(hx:jj M w xs us)(hy:jj M w y vs):
  ∀(fs:List Field) (r:Bool),qx step P xs y fs=some r->(Op.eqFields e us vs fs).run P w=.ok r w
 |[],r,h=>by cases h;simp[Op.eqFields]
 |f::fs,r,h=>by
  unfold qx at h;split at h
  ·cases h
  ·rename_i Q;split at h
   ·cases h
   ·rename_i v n G;split at h
    ·cases h
    ·rename_i z;split at h
     ·rename_i V q h1 h2;cases h;simp only[Bool.and_eq_true,Bool.or_eq_true,Nat.ble_eq,Nat.beq_eq]at z
      have u:v=false->n=1:=fun e=>by
       rcases z.2 with h|h
       ·rw[e]at h;cases h
       ·exact h
      obtain⟨a,I,Z⟩:=vx G hx z.1.1 u;obtain⟨b,J,vb⟩:=vx G hy z.1.2 u;have O:=hs _ _ _ _ _ _ a b G h1 Z vb;have U:=zT hs hx hy fs q h2;have D :f.name≠ "_" :=by simpa using Q
      unfold Op.eqFields;rw[if_pos D];simp only[Sem.run_bind,I,J,O,Result.andThen_ok]
      cases V with
      |true=>simpa using U
      |false=>simp[pure,Sem.run]
     ·cases h
theorem vu:∀(d e t:Nat) (y:Bool) (n:Nat) (xs G:List AV) (r:Bool) (a b:Value),d<=e->bm P t=some (y,n)->gF P d t xs G=some r->VC M w y xs a->VC M w y G b->(Op.equalIn e t a b).run P w=.ok r w
 |0,_,_,_,_,_,_,_,_,_,_,_,h,_,_=>by cases h
 |d+1,e,t,y,n,xs,G,r,a,b,he,v,h,U,V=>by
  obtain⟨e,rfl⟩:∃e',e=e'+1:=⟨e - 1,by omega⟩;unfold gF at h;split at h
  ·rename_i fs D;split at h
   ·rename_i J
    have z:y=true:=by
     unfold bm at v;rw[D]at v;simp only at v
     cases I:P.info? t with
     |none=>rw[I]at v;cases v
     |some i=>rw[I]at v;cases v;rfl
    subst z;obtain⟨us,rfl,O⟩:=U;obtain⟨vs,rfl,Q⟩:=V;have Z:P.fieldsOf t=fs:=by unfold Program.fieldsOf;rw[D]
    rw[run_equalIn_struct w e t us vs (by rw[Z];exact D) J,Z];exact zT (fun t y n xs G r a b h1 h2 h3 h4=>vu d e t y n xs G r a b (by omega) h1 h2 h3 h4) O Q _ _ h
   ·cases h
  ·rename_i u ad D
   have z:y=false:=by
    cases y with
    |false=>rfl
    |true=>
     unfold ij at h;unfold bm at v;rw[D]at v;split at h <;>first|(cases h;done)|(simp only at v;cases I:P.info? t <;>rw[I]at v <;>cases v)
   subst z;exact G9 D h U V
  ·cases h
def iD{b:BinOp}{t:Nat}{x y:Value}{r:Bool}{z:AV}(hs:eA b r=some z)(he:(Op.equal t x y).run P w=.ok r w)(hx:∀k n,x≠.int k n)(hf:∀k n,x≠.float k n)(hc:∀k n m,x≠.complex k n m)(hst:∀s,x≠.string s):∃u,(binOp b t x y).run P w=.ok u w/\VR M w z u:=by
 cases b <;>simp only[eA]at hs <;>first|(cases hs;done)|skip
 ·cases hs;refine⟨.bool r,?_,.bool _⟩;cases x <;>first|exact absurd rfl (hx _ _)|exact absurd rfl (hf _ _)|exact absurd rfl (hc _ _ _)|exact absurd rfl (hst _)|(simp only[binOp,Sem.run_bind,he,Result.andThen_ok];rfl)
 ·cases hs;refine⟨.bool (!r),?_,.bool _⟩;cases x <;>first|exact absurd rfl (hx _ _)|exact absurd rfl (hf _ _)|exact absurd rfl (hc _ _ _)|exact absurd rfl (hst _)|(simp only[binOp,Sem.run_bind,he,Result.andThen_ok];rfl)
def zV{b:BinOp}{t:Nat}{x y:Operand}{u v:Value}(h:∀us vs,u=.agg us->v=.agg vs->False)(hn:u=.nilIface->v=.nilIface->(iT x ||iT y)=true):(eqGuard b t x y u v).run P w=.ok () w:=by
 unfold eqGuard;cases b <;>first|rfl|skip
 all_goals
  cases u <;>first|rfl|skip
  ·cases v <;>first|rfl|skip
   have:=hn rfl rfl;unfold iT at this;cases x <;>cases y <;>first|(simp at this;done)|rfl
  ·cases v <;>first|rfl|exact(h _ _ rfl rfl).elim
end
section
variable {P:Program} {w:World} {t e:TypeId} {d:Nat}
def tR(u:P.underlying t=some (.pointer e))(q:Addr):(Op.equal t (.pointer (some q)) (.pointer none)).run P w=.ok false w:=by
 have:∀d,(Op.equalIn (d+1) t (.pointer (some q)) (.pointer none)).run P w=.ok false w:=fun d=>by simp[Op.equalIn,Sem.run_bind,run_underlying u,pure,Sem.run]
 exact this 9999
def De(u:P.underlying t=some (.pointer e)):(Op.equal t (.pointer none) (.pointer none)).run P w=.ok true w:=by
 have:∀d,(Op.equalIn (d+1) t (.pointer none) (.pointer none)).run P w=.ok true w:=fun d=>by simp[Op.equalIn,Sem.run_bind,run_underlying u,pure,Sem.run]
 exact this 9999
def Dd{v:Array (String×TypeId)}(u:P.underlying t=some (.interface v)):(Op.equal t .nilIface .nilIface).run P w=.ok true w:=by
 have:∀d,(Op.equalIn (d+1) t .nilIface .nilIface).run P w=.ok true w:=fun d=>by simp[Op.equalIn,Sem.run_bind,run_underlying u,pure,Sem.run]
 exact this 9999
def Dc{y:Array (String×TypeId)}(u:P.underlying t=some (.interface y))(q:TypeId)(v:Value):(Op.equal t (.iface q v) .nilIface).run P w=.ok false w:=by
 have:∀d,(Op.equalIn (d+1) t (.iface q v) .nilIface).run P w=.ok false w:=fun d=>by simp[Op.equalIn,Sem.run_bind,run_underlying u,pure,Sem.run]
 exact this 9999
def Df(u:P.underlying t=some (.slice e)):(Op.equal t (.slice none 0 0) (.slice none 0 0)).run P w=.ok true w:=by
 have:∀d,(Op.equalIn (d+1) t (.slice none 0 0) (.slice none 0 0)).run P w=.ok true w:=fun d=>by simp[Op.equalIn,Sem.run_bind,run_underlying u,pure,Sem.run]
 exact this 9999
def qy(u:P.underlying t=some (.slice e))(q:Addr)(n c:Nat):(Op.equal t (.slice (some q) n c) (.slice none 0 0)).run P w=.ok false w:=by
 have:∀d,(Op.equalIn (d+1) t (.slice (some q) n c) (.slice none 0 0)).run P w=.ok false w:=fun d=>by simp[Op.equalIn,Sem.run_bind,run_underlying u,pure,Sem.run]
 exact this 9999
end
section
variable {P:Program} {L:Ls} {w:World} {A:Nat->Prop}
def Ek{b:BinOp}{t:Nat}{k:IntKind}{m n:Int}{z:AV}(h:j9 b k m n=some z):∃u,(binOp b t (.int k m) (.int k n)).run P w=.ok u w/\VR A w z u:=by
 cases b <;>simp only[j9]at h <;>first|(cases h;done)|skip
 case add=>cases h;exact⟨.int k (k.wrap (m+n)),by simp[binOp,Op.intArith,pure,Sem.run],.int _ _⟩
 case sub=>cases h;exact⟨.int k (k.wrap (m - n)),by simp[binOp,Op.intArith,pure,Sem.run],.int _ _⟩
 case mul=>cases h;exact⟨.int k (k.wrap (m*n)),by simp[binOp,Op.intArith,pure,Sem.run],.int _ _⟩
 case quo=>
  split at h
  ·cases h
  ·rename_i v;cases h;exact⟨.int k (k.wrap (m.tdiv n)),by simp[binOp,Op.intDiv,v,pure,Sem.run],.int _ _⟩
 case rem=>
  split at h
  ·cases h
  ·rename_i v;cases h;exact⟨.int k (m.tmod n),by simp[binOp,Op.intDiv,v,pure,Sem.run],.int _ _⟩
 case shr=>
  split at h
  ·rename_i v;cases h;subst v;refine⟨.int k (m.fdiv 2),?_,.int _ _⟩;cases k <;>rfl
  ·cases h
 case eql=>cases h;exact⟨.bool (decide (m=n)),by simp[binOp,Op.intCmp,pure,Sem.run];try rfl,.bool _⟩
 case neq=>cases h;exact⟨.bool (!decide (m=n)),by simp[binOp,Op.intCmp,pure,Sem.run];try rfl,.bool _⟩
 case lss=>cases h;exact⟨.bool (decide (m <n)),by simp[binOp,Op.intCmp,pure,Sem.run],.bool _⟩
 case leq=>cases h;exact⟨.bool (decide (m<=n)),by simp[binOp,Op.intCmp,pure,Sem.run],.bool _⟩
 case gtr=>cases h;exact⟨.bool (decide (n <m)),by simp[binOp,Op.intCmp,pure,Sem.run],.bool _⟩
 case geq=>cases h;exact⟨.bool (decide (n<=m)),by simp[binOp,Op.intCmp,pure,Sem.run],.bool _⟩
def wH(x y:ByteArray):(x.toList==y.toList)=decide (x=y):=by
 have h:(x.toList=y.toList)↔x=y:=⟨fun h=>by
  rw[ByteArray.toList_eq,ByteArray.toList_eq]at h;cases x;cases y;congr;exact Array.ext' h,fun h=>by rw[h]⟩
 rw[Bool.eq_iff_iff,decide_eq_true_iff,<- h,beq_iff_eq]
def H9{b:BinOp}{t:Nat}{x y:ByteArray}{z:AV}(h:rY b x y=some z):∃u,(binOp b t (.string x) (.string y)).run P w=.ok u w/\VR A w z u:=by
 cases b <;>simp only[rY]at h <;>first|(cases h;done)|skip
 case eql=>cases h;exact⟨.bool (decide (x=y)),by simp only[binOp,Op.stringOp,wH];rfl,.bool _⟩
 case neq=>cases h;exact⟨.bool (!decide (x=y)),by simp only[binOp,Op.stringOp,wH];rfl,.bool _⟩
 case add=>
  split at h
  ·rename_i v;cases h;refine⟨.string (x++y),?_,.str _⟩
   have:¬(((x.size+y.size:Nat):Int)>IntKind.i64.max):=by
    have:IntKind.i64.max=9223372036854775807:=by decide
    rw[this];omega
   simp only[binOp,Op.stringOp,if_neg this];rfl
  ·cases h
def Bd{b:BinOp}{t:Nat}{x y:Operand}{cs ds:List AV}{z:AV}{u v:Value}(h:oE P b t cs ds=some z)(hx:VR A w (.agg cs) u)(hy:VR A w (.agg ds) v):∃r,(do eqGuard b t x y u v;binOp b t u v).run P w=.ok r w/\VR A w z r:=by
 unfold oE at h;split at h
 ·cases h
 ·rename_i G;split at h
  ·rename_i n J;split at h
   ·rename_i r I
    cases hx with
    |agg _ us hl1 hr1=>
     cases hy with
     |agg _ vs hl2 hr2=>
      have D:=vu (M:=A) (w:=w) 20 10000 t true n cs ds r _ _ (by decide) J I ⟨us,rfl,hl1,hr1⟩ ⟨vs,rfl,hl2,hr2⟩;obtain⟨q,h1,h2⟩:=iD (M:=A) (w:=w) (t:=t) h (x:=.agg us) (y:=.agg vs) D (fun _ _ h=>by cases h) (fun _ _ h=>by cases h) (fun _ _ _ h=>by cases h) (fun _ h=>by cases h);exact⟨q,by simp only[Sem.run_bind,run_eqGuard_agg w b t x y us vs G,Result.andThen_ok,h1],h2⟩
   ·cases h
  ·cases h
def rF{t:Nat}(h:nU P t=true):∃e,P.underlying t=some (.pointer e):=by
 unfold nU at h;split at h
 ·rename_i e u;exact⟨e,u⟩
 ·cases h
def xF{t:Nat}(h:qP P t=true):∃e,P.underlying t=some (.interface e):=by
 unfold qP at h;split at h
 ·rename_i e u;exact⟨e,u⟩
 ·cases h
def nt{t:Nat}(h:gL P t=true):∃e,P.underlying t=some (.slice e):=by
 unfold gL at h;split at h
 ·rename_i e u;exact⟨e,u⟩
 ·cases h
def BJ{b:BinOp}{t:Nat}{x y:Operand}{s s':SV}{z:AV}{u v:Value}(h:gy P b t (iT x ||iT y) s s'=some z)(hs:SR A L w s u)(D:SR A L w s' v):∃r,(do eqGuard b t x y u v;binOp b t u v).run P w=.ok r w/\VR A w z r:=by
 have plain:∀{u v:Value},(∀Q U,u=.agg Q->v=.agg U->False)->(u=.nilIface->v=.nilIface->(iT x ||iT y)=true)->(∃r,(binOp b t u v).run P w=.ok r w/\VR A w z r)->∃r,(do eqGuard b t x y u v;binOp b t u v).run P w=.ok r w/\VR A w z r:=fun{u v} h1 h2 ⟨r,h3,h4⟩=>
  ⟨r,by simp only[Sem.run_bind,zV h1 h2,Result.andThen_ok,h3],h4⟩
 unfold gy at h;split at h
 ·split at h
  ·rename_i e;subst e;obtain rfl:=dK hs;obtain rfl:=dK D;exact plain (fun _ _ h=>by cases h) (fun h=>by cases h) (Ek h)
  ·cases h
 ·rename_i p q;obtain rfl:=jC hs;obtain rfl:=jC D;refine plain (fun _ _ h=>by cases h) (fun h=>by cases h) ?_;split at h
  ·rename_i O;unfold xK at O;split at O
   ·rename_i G;cases b <;>simp only[wy]at h <;>first|(cases h;done)|skip
    ·cases h;exact⟨.bool (p==q),run_eql_bool w t p q G,.bool _⟩
    ·cases h;refine⟨.bool (!(p==q)),?_,.bool _⟩;simp only[binOp,Sem.run_bind,run_equal_bool w t p q G,Result.andThen_ok];rfl
   ·cases O
  ·cases h
 ·obtain rfl:=nr hs;obtain rfl:=nr D;exact plain (fun _ _ h=>by cases h) (fun h=>by cases h) (H9 h)
 ·cases hs with
  |t _ _ hs=>cases D with|t _ _ D=>exact Bd h hs D
 ·obtain⟨J,o,Q,rfl,_⟩:=ns hs;obtain rfl:=j_ D;split at h
  ·rename_i I;obtain⟨e,G⟩:=rF I;exact plain (fun _ _ h=>by cases h) (fun h=>by cases h) (iD h (tR G _) (fun _ _ h=>by cases h) (fun _ _ h=>by cases h) (fun _ _ _ h=>by cases h) (fun _ h=>by cases h))
  ·cases h
 ·obtain⟨g,_,rfl⟩:=kj hs;obtain rfl:=j_ D;split at h
  ·rename_i I;obtain⟨e,G⟩:=rF I;exact plain (fun _ _ h=>by cases h) (fun h=>by cases h) (iD h (tR G _) (fun _ _ h=>by cases h) (fun _ _ h=>by cases h) (fun _ _ _ h=>by cases h) (fun _ h=>by cases h))
  ·cases h
 ·obtain⟨J,m,c,_,rfl⟩:=l8 hs;obtain rfl:=j_ D;split at h
  ·rename_i I;obtain⟨e,G⟩:=rF I;exact plain (fun _ _ h=>by cases h) (fun h=>by cases h) (iD h (tR G _) (fun _ _ h=>by cases h) (fun _ _ h=>by cases h) (fun _ _ _ h=>by cases h) (fun _ h=>by cases h))
  ·cases h
 ·obtain rfl:=j_ hs;obtain rfl:=j_ D;split at h
  ·rename_i I;obtain⟨e,G⟩:=rF I;exact plain (fun _ _ h=>by cases h) (fun h=>by cases h) (iD h (De G) (fun _ _ h=>by cases h) (fun _ _ h=>by cases h) (fun _ _ _ h=>by cases h) (fun _ h=>by cases h))
  ·cases h
 ·obtain rfl:=j_ hs;obtain rfl:=j_ D;split at h
  ·rename_i I;rw[Bool.and_eq_true]at I;obtain⟨e,G⟩:=xF I.1;exact plain (fun _ _ h=>by cases h) (fun _ _=>I.2) (iD h (Dd G) (fun _ _ h=>by cases h) (fun _ _ h=>by cases h) (fun _ _ _ h=>by cases h) (fun _ h=>by cases h))
  ·cases h
 ·obtain rfl:=j_ D
  cases hs with
  |t _ _ hs=>
   cases hs with
   |gI tt Z=>
    split at h
    ·rename_i I;obtain⟨e,G⟩:=xF I;exact plain (fun _ _ h=>by cases h) (fun h=>by cases h) (iD h (Dc G _ _) (fun _ _ h=>by cases h) (fun _ _ h=>by cases h) (fun _ _ _ h=>by cases h) (fun _ h=>by cases h))
    ·cases h
 ·cases hs;cases D;split at h
  ·rename_i I;obtain⟨e,G⟩:=nt I;exact plain (fun _ _ h=>by cases h) (fun h=>by cases h) (iD h (Df G) (fun _ _ h=>by cases h) (fun _ _ h=>by cases h) (fun _ _ _ h=>by cases h) (fun _ h=>by cases h))
  ·cases h
 ·cases D
  cases hs with
  |t _ _ hs=>
   split at h
   ·rename_i I;obtain⟨e,G⟩:=nt I
    cases hs with
    |arr J o c=>
     exact plain (fun _ _ h=>by cases h) (fun h=>by cases h) (iD h (qy G _ _ _) (fun _ _ h=>by cases h) (fun _ _ h=>by cases h) (fun _ _ _ h=>by cases h) (fun _ h=>by cases h))
   ·cases h
 ·cases D
  cases hs with
  |nn _ q c hs=>
   split at h
   ·rename_i I;obtain⟨e,G⟩:=nt I;exact plain (fun _ _ h=>by cases h) (fun h=>by cases h) (iD h (qy G _ _ _) (fun _ _ h=>by cases h) (fun _ _ h=>by cases h) (fun _ _ _ h=>by cases h) (fun _ h=>by cases h))
   ·cases h
 ·cases D
  cases hs with
  |tc _ q hs=>
   split at h
   ·rename_i I;obtain⟨e,G⟩:=nt I;generalize V:(List.length (_::_))=n at hs
    cases hs with
    |arr J o c=>
     exact plain (fun _ _ h=>by cases h) (fun h=>by cases h) (iD h (qy G _ _ _) (fun _ _ h=>by cases h) (fun _ _ h=>by cases h) (fun _ _ _ h=>by cases h) (fun _ h=>by cases h))
   ·cases h
 ·cases h
end
section
variable {P:Program} {L:Ls} {w:World} {A:Nat->Prop}
def yQ{x:SV}{v:Value}(hx:cQ x=true)(h:SR A L w x v):de v=true:=by
 cases h with
 |t y v h=>cases h <;>first|rfl|(simp[cQ]at hx;done)|(rename_i h;cases v <;>first|rfl|cases h)
 |nil=>rfl
 |tc=>rfl
 |nn=>rfl
 |lp=>rfl
 |ls i v h u=>exact u
 |lv=>rfl
 |le=>rfl
 |lm=>rfl
 |lo i p t v h z u=>exact u
 |lr=>rfl
 |agg=>simp[cQ]at hx
 |aL=>simp[cQ]at hx
 |fn=>rfl
 |aN=>simp[cQ]at hx
 |no=>simp[cQ]at hx
 |dead=>simp[cQ]at hx
def F4{v:Value}(h:de v=true):v.cells=#[v]:=by cases v <;>first|rfl|cases h
def mU{x:SV}{v:Value}(h:SR A L w x v)(hp:∀y∈bo x,cQ y=true):(bo x).length=v.cells.size/\∀(k:Nat) (y:SV) (u:Value),(bo x)[k]?=some y->v.cells[k]?=some u->SR A L w y u:=by
 have one:bo x=[x]->(bo x).length=v.cells.size/\∀(k:Nat) (y:SV) (u:Value),(bo x)[k]?=some y->v.cells[k]?=some u->SR A L w y u:=fun Q=>by
  have U:=F4 (yQ (hp x (by rw[Q];simp)) h);rw[Q,U];refine⟨rfl,fun k y u z D=>?_⟩
  match k,z,D with
  |0,z,D=>cases z;cases D;exact h
 cases x with
 |agg O=>cases h with|agg _ V I J=>exact⟨by simp[bo,Value.cells,I],fun k y u z D=>J k y u z D⟩
 |t y=>
  cases y with
  |agg O=>
   cases h with
   |t _ _ h=>
    cases h with
    |agg _ V I J=>
     refine⟨by simp[bo,Value.cells,I],fun k y u z D=>?_⟩;simp only[bo,List.getElem?_map]at z
     cases G:O[k]? with
     |none=>rw[G]at z;cases z
     |some c=>rw[G]at z;cases z;exact .t _ _ (J k c u G D)
  |_=>exact one rfl
 |_=>exact one rfl
def Cj{x:SV}{v:Value}(h:SR A L w x v)(hp:∀y∈bo x,cQ y=true):∀u∈v.cells.toList,de u=true:=fun u J=>by
 obtain⟨O,I⟩:=mU h hp;obtain⟨k,G,rfl⟩:=List.mem_iff_getElem.1 J;have z:k <v.cells.size:=by simpa using G
 obtain⟨y,D⟩:=av (xs:=bo x) (k:=k) (by omega);exact yQ (hp y (List.mem_of_getElem? D)) (I k y _ D (by simp[z]))
def e8(us:Array Value)(o:Nat):List Value->Array Value
 |[]=>us
 |v::u=>e8 (us.setIfInBounds o v) (o+1) u
theorem pA:∀(vs:List Value) (us:Array Value) (o:Nat),(e8 us o vs).size=us.size
 |[],_,_=>rfl
 |v::vs,us,o=>by rw[e8,pA vs];simp
theorem u3:∀(xs:List SV) (cs:List SV) (j:Nat),(gP cs j xs).length=cs.length
 |[],_,_=>rfl
 |x::xs,cs,j=>by rw[gP,u3 xs];simp
theorem u6:∀(xs:List SV) (vs:List Value) (cs:List SV) (us:Array Value) (j:Nat),xs.length=vs.length->us.size=cs.length->(∀(k:Nat) (x:SV) (u:Value),cs[k]?=some x->us[k]?=some u->SR A L w x u)->(∀(k:Nat) (x:SV) (u:Value),xs[k]?=some x->vs[k]?=some u->SR A L w x u)->
  ∀(k:Nat) (x:SV) (u:Value),(gP cs j xs)[k]?=some x->(e8 us j vs)[k]?=some u->SR A L w x u
 |[],[],cs,us,j,_,_,h,_=>h
 |x::xs,v::vs,cs,us,j,G,Q,h,J=>by
  refine u6 xs vs (cs.set j x) (us.setIfInBounds j v) (j+1) (by simpa using G) (by simp[Q]) (fun k y u D z=>?_) fun k y u D z=>J (k+1) y u (by simpa using D) (by simpa using z);by_cases I:j=k
  ·subst I;have O:j <cs.length:=by have:=aC D;simpa using this
   rw[List.getElem?_set_self O]at D;rw[Array.getElem?_setIfInBounds_self_of_lt (by omega)]at z;cases D;cases z;exact J 0 _ _ rfl rfl
  ·rw[List.getElem?_set_ne I]at D;rw[Array.getElem?_setIfInBounds_ne I]at z;exact h k y u D z
 |[],_::_,_,_,_,G,_,_,_=>by simp at G
 |_::_,[],_,_,_,G,_,_,_=>by simp at G
theorem xr:∀(l:List Value) (us:Array Value) (u n:Nat),(l.zipIdx n).foldl (fun cs (p:Value×Nat)=>cs.setIfInBounds (u+p.2) p.1) us=e8 us (u+n) l
 |[],_,_,_=>rfl
 |v::l,us,u,n=>by
  rw[List.zipIdx_cons,List.foldl_cons,xr l,e8,Nat.add_assoc]
theorem qC{z:Nat->Option (Nat×Nat)}:∀(Q:List (Nat×SV)) (vs:List (Nat×Value)) (cs D:List SV) (us:Array Value),lX z cs Q=some D->Q.length=vs.length->us.size=cs.length->(∀(k:Nat) (x:SV) (u:Value),cs[k]?=some x->us[k]?=some u->SR A L w x u)->
  (∀(k:Nat) (p:Nat×SV) (q:Nat×Value),Q[k]?=some p->vs[k]?=some q->p.1=q.1/\(bo p.2).length=q.2.cells.size/\∀(j:Nat) (y:SV) (u:Value),(bo p.2)[j]?=some y->q.2.cells[j]?=some u->SR A L w y u)->
  ∃I,Instr.fill z us vs=some I/\I.size=D.length/\∀(k:Nat) (x:SV) (u:Value),D[k]?=some x->I[k]?=some u->SR A L w x u
 |[],[],cs,D,us,h,_,U,hr,_=>by
  cases h;exact⟨us,rfl,U,hr⟩
 |(i,x)::Q,(j,v)::vs,cs,D,us,h,O,U,hr,hp=>by
  obtain⟨h1,h2,h3⟩:=hp 0 (i,x) (j,v) rfl rfl;simp only at h1 h2 h3;subst h1;unfold lX at h
  cases J:z i with
  |none=>rw[J]at h;cases h
  |some q=>
   obtain⟨off,size⟩:=q;rw[J]at h;simp only at h;split at h
   ·rename_i hc;obtain⟨I,e1,e2,e3⟩:=qC Q vs (gP cs off (bo x)) D (e8 us off v.cells.toList) h (by simpa using O) (by rw[pA,u3,U]) (u6 _ _ _ _ _ (by simp;omega) U hr fun k y u hy ad=>h3 k y u hy (by simpa using ad)) fun k p q V Z=>hp (k+1) p q (by simpa using V) (by simpa using Z);refine⟨I,?_,e2,e3⟩;unfold Instr.fill;rw[J];simp only;have G:(v.cells.size≠size ||off+v.cells.size>us.size)=false:=by simp;omega
    rw[if_neg (by rw[<- Bool.not_eq_true]at G;simpa using G)];rw[<- e1];congr 1;have:=xr v.cells.toList us off 0;rw[Nat.add_zero]at this;rw[<- this,<- Array.foldl_toList,Array.toList_zipIdx]
   ·cases h
 |[],_::_,_,_,_,_,O,_,_,_=>by simp at O
 |_::_,[],_,_,_,_,O,_,_,_=>by simp at O
def BW{t:Nat}{U:List (Nat×SV)}{cs:List SV}(hb:qi P t U=some cs){vs:List (Nat×Value)}(hl:U.length=vs.length)
  (hp:∀(k:Nat) (p:Nat×SV) (q:Nat×Value),U[k]?=some p->vs[k]?=some q->p.1=q.1/\(bo p.2).length=q.2.cells.size/\∀(j:Nat) (y:SV) (u:Value),(bo p.2)[j]?=some y->q.2.cells[j]?=some u->SR A L w y u):
  ∃us,P.built t vs=some us/\us.size=cs.length/\∀(k:Nat) (x:SV) (u:Value),cs[k]?=some x->us[k]?=some u->SR A L w x u:=by
 unfold qi at hb
 cases v:kK P t with
 |none=>rw[v]at hb;cases P.underlying t <;>simp at hb
 |some zs=>
  have ad:=v;unfold kK at v
  cases Z:P.info? t with
  |none=>rw[Z]at v;cases v
  |some i=>
   rw[Z,Option.bind_some]at v
   cases G:i.zero with
   |none=>rw[G]at v;cases v
   |some z=>
    rw[G]at v;cases v
    have Q:∀(k:Nat) (x:SV) (u:Value),(z.cells.toList.map cv)[k]?=some x->z.cells[k]?=some u->SR A L w x u:=fun k x u hx O=>by
     rw[List.getElem?_map,Array.getElem?_toList,O]at hx;cases hx;exact gA u
    rw[ad]at hb
    cases O:P.underlying t with
    |none=>rw[O]at hb;cases hb
    |some d=>
     rw[O]at hb;unfold Program.built;rw[Z,O]
     cases d with
     |struct D=>
      simp only at hb⊢
      cases J:D.toList.mapM (fun f=>(P.info? f.type).map fun i=>(f.offset,i.size))with
      |none=>rw[J]at hb;cases hb
      |some V=>
       rw[J]at hb;simp only[G]at hb⊢;exact qC U vs _ cs z.cells hb hl (by simp) Q hp
     |array n e=>
      simp only at hb⊢
      cases I:P.info? e with
      |none=>rw[I]at hb;cases hb
      |some ie=>
       rw[I]at hb;simp only[G]at hb⊢;exact qC U vs _ cs z.cells hb hl (by simp) Q hp
     |_=>simp at hb
theorem wN{sz:Nat}:∀{n:Nat} {cs:List SV} {es:List (List AV)},oN sz n cs=some es->es.length=n/\cs.length=n*sz/\(∀(k:Nat) (xs:List AV),es[k]?=some xs->xs.length=sz)/\∀(k j:Nat) (xs:List AV) (x:AV) (s:SV) (v:Value),es[k]?=some xs->xs[j]?=some x->cs[k*sz+j]?=some s->SR A L w s v->VR A w x v
 |0,[],es,h=>by cases h;exact⟨rfl,by simp,fun k xs h=>by simp at h,fun k j xs x s v h _=>by simp at h⟩
 |0,_::_,es,h=>by cases h
 |n+1,cs,es,h=>by
  unfold oN at h;split at h
  ·rename_i xs U;split at h
   ·rename_i Q
    cases y:oN sz n (cs.drop sz)with
    |none=>rw[y]at h;cases h
    |some I=>
     rw[y]at h;cases h;obtain⟨h1,h2,h3,h4⟩:=wN y;obtain⟨V,Z⟩:=mn (A:=A) (L:=L) (w:=w) U;have J:sz<=cs.length:=by rw[List.length_take]at V;omega
     refine⟨by simp[h1],by rw[List.length_drop]at h2;rw[Nat.add_mul];omega,fun k D u=>?_,fun k j D x s v u z hs G=>?_⟩
     ·cases k with
      |zero=>cases u;exact Q
      |succ k=>exact h3 k D (by simpa using u)
     ·cases k with
      |zero=>
       cases u;have O:=aC z;refine Z j s x v ?_ z G;rw[List.getElem?_take,if_pos (by omega)];simpa using hs
      |succ k=>
       refine h4 k j D x s v (by simpa using u) z ?_ G;rw[List.getElem?_drop,<- hs];congr 1;rw[Nat.add_mul];omega
   ·cases h
  ·cases h
def pD{t e sz u:Nat}(h:iC P t=some (e,sz,u)):∃i z,P.underlying t=some (.slice e)/\P.info? e=some i/\i.zero=some z/\i.size=sz/\i.bytes=u/\z.cells.size=sz/\0 <sz:=by
 unfold iC at h;split at h
 ·rename_i G I
  cases v:P.info? G with
  |none=>rw[v]at h;cases h
  |some i=>
   rw[v]at h;simp only at h
   cases y:i.zero with
   |none=>rw[y]at h;cases h
   |some z=>
    rw[y]at h;simp only at h;split at h
    ·rename_i D;cases h;exact⟨i,z,I,v,y,rfl,rfl,D.1,D.2⟩
    ·cases h
 ·cases h
def wE{t len:Nat}{sp:List (Nat×SV)}{vs:List (Nat×Value)}{es:List (List AV)}(hb:oK P t len sp=some es)(hl:sp.length=vs.length)
  (hp:∀(k:Nat) (p:Nat×SV) (q:Nat×Value),sp[k]?=some p->vs[k]?=some q->p.1=q.1/\(bo p.2).length=q.2.cells.size/\∀(j:Nat) (y:SV) (u:Value),(bo p.2)[j]?=some y->q.2.cells[j]?=some u->SR A L w y u):
  ∃(e sz:Nat) (us:Array Value),(Instr.buildSlice t len vs.toArray).run P w=.ok (.slice (some ⟨w.heap.size,0,none⟩) len len) (w.alloc (.cells us e))/\0 <sz/\len<=16777216/\us.size=len*sz/\es.length=len/\(∀(k:Nat) (cs:List AV),es[k]?=some cs->cs.length=sz)/\
   ∀(k j:Nat) (cs:List AV) (x:AV),es[k]?=some cs->cs[j]?=some x->∃u,us[k*sz+j]?=some u/\VR A w x u:=by
 unfold oK at hb;split at hb
 ·rename_i e hu;split at hb
  ·rename_i v hi;split at hb
   ·rename_i z hz;split at hb
    ·rename_i hc
     cases hf:lX (fun k=>some (k*v.size,v.size)) ((List.range (len*v.size)).map fun q=>cv (z.cells.getD (q %v.size) undef)) sp with
     |none=>rw[hf]at hb;cases hb
     |some cs=>
      rw[hf]at hb;obtain⟨c1,c2,c3,c4⟩:=wN (A:=A) (L:=L) (w:=w) hb;have ad:=hc.1;have G:=hc.2.1
      obtain⟨us,J,f2,f3⟩:=qC (A:=A) (L:=L) (w:=w) sp vs _ cs ((Array.range (len*v.size)).map (z.cells[· %z.cells.size]!)) hf hl (by simp) (fun k x u hx U=>by
       rw[List.getElem?_map]at hx
       cases hr:(List.range (len*v.size))[k]? with
       |none=>rw[hr]at hx;cases hx
       |some q=>
        rw[hr]at hx;cases hx;have I:k <len*v.size:=by have:=aC hr;simpa using this
        rw[List.getElem?_range I]at hr;cases hr;have D:k %v.size <z.cells.size:=by rw[ad];exact Nat.mod_lt _ G
        simp[I,ad]at U;rw[<- U]
        have e1:z.cells.getD (k %v.size) undef=z.cells[k %v.size]!:=by
         rw[Array.getD_eq_getD_getElem?,Array.getElem?_eq_getElem D,getElem!_pos z.cells _ D];rfl
        show SR A L w (cv (z.cells.getD (k %v.size) undef)) _
        rw[e1];exact gA _) hp
      have V:len<=16777216:=by
       have:len*1<=len*v.size:=Nat.mul_le_mul_left _ G;omega
      refine⟨e,v.size,us,?_,G,V,by rw[f2,c2],c1,c3,fun k j xs x I hj=>?_⟩
      ·have O:¬(len*v.size>2^24):=by have:=hc.2.2;omega
       generalize hZ:((Array.range (len*v.size)).map (z.cells[· %z.cells.size]!))=Z at J;by_cases h0:len*v.size=0
       ·have ag:(Array.range (len*v.size)).map (fun x=>((#[]:Array Value)[x % (#[]:Array Value).size]!))=Z:=by rw[<- hZ,h0];simp
        unfold Instr.buildSlice;simp only[Sem.run_bind,run_underlying hu,Result.andThen_ok,gS hi,if_neg O,if_pos h0,Sem.run_pure,ag,List.map_toArray,Array.toList_map,J];simp[J,newRow,newObj,Sem.run_bind,pure,Sem.run]
       ·unfold Instr.buildSlice;simp only[Sem.run_bind,run_underlying hu,Result.andThen_ok,gS hi,if_neg O,if_neg h0,Sem.run_pure,rR hi hz,hZ,Array.toList_map,J];simp[J,newRow,newObj,Sem.run_bind,pure,Sem.run]
      ·have af:=aC I;have ak:j <v.size:=by rw[<- c3 k xs I];exact aC hj
       have D:k*v.size+j <us.size:=by
        rw[f2,c2,<- c1];have:(k+1)*v.size<=es.length*v.size:=Nat.mul_le_mul_right _ af;rw[Nat.add_mul]at this;omega
       have Q:k*v.size+j <cs.length:=by rw[<- f2];exact D
       exact⟨us[k*v.size+j],Array.getElem?_eq_getElem D,c4 k j xs x _ _ I hj (List.getElem?_eq_getElem Q) (f3 _ _ _ (List.getElem?_eq_getElem Q) (Array.getElem?_eq_getElem D))⟩
    ·cases hb
   ·cases hb
  ·cases hb
 ·cases hb
end
section
variable {P:Program} {A:Nat->Prop} {L:Ls} {w:World}
def wA{x:Option SV}{u:Option Value}{d y r:Nat}(h:fq x d y=some r)(G:∀s,x=some s->∃v,u=some v/\SR A L w s v)(hn:x=none->u=none):(u=none/\r=d)\/∃k m,u=some (.int k m)/\0<=m/\m<=y/\r=m.toNat/\r<=y:=by
 unfold fq at h;split at h
 ·cases h;exact .inl ⟨hn rfl,rfl⟩
 ·rename_i k m;obtain⟨v,rfl,I⟩:=G _ rfl;obtain rfl:=dK I;split at h
  ·rename_i z;cases h;rw[Bool.and_eq_true,Nat.ble_eq]at z;have D:0<=m:=of_decide_eq_true z.1;exact .inr ⟨k,m,rfl,D,by omega,rfl,z.2⟩
  ·cases h
 ·cases h
def tC{lo hi:Option SV}{ul uh:Option Value}{n l h:Nat}(hc:j2 lo hi n=some (l,h))(h1:∀s,lo=some s->∃v,ul=some v/\SR A L w s v)(h2:lo=none->ul=none)(h3:∀s,hi=some s->∃v,uh=some v/\SR A L w s v)(h4:hi=none->uh=none){b:Bool}{c:Nat}(ad:n<=c):
  (Instr.sliceBounds b n c ul uh none).run P w=.ok (l,h,c) w/\l<=h/\h<=n:=by
 unfold j2 at hc;split at hc
 ·cases hc
 ·rename_i h' V;split at hc
  ·cases hc
  ·rename_i l' Z;cases hc;have u:∀{y:Nat},y=h->((ul=none/\l=0)\/∃k m,ul=some (.int k m)/\0<=m/\m<=y/\l=m.toNat/\l<=y):=fun e=>by subst e;exact wA Z h1 h2
   rcases wA V h3 h4 with⟨rfl,rfl⟩|⟨k,m,rfl,z,m1,rfl,O⟩
   ·rcases u rfl with⟨rfl,rfl⟩|⟨k',J,rfl,D,U,rfl,I⟩
    ·exact⟨by simp[Instr.sliceBounds,Sem.run_bind,pure,Sem.run],by omega,Nat.le_refl _⟩
    ·exact⟨by simp[Instr.sliceBounds,Sem.run_bind,run_sliceBound,D,U,pure,Sem.run],I,Nat.le_refl _⟩
   ·have Q:m<=(c:Int):=by omega
    rcases u rfl with⟨rfl,rfl⟩|⟨k',J,rfl,D,U,rfl,I⟩
    ·exact⟨by simp[Instr.sliceBounds,Sem.run_bind,run_sliceBound,z,Q,pure,Sem.run],by omega,O⟩
    ·have G:J<=m:=by omega
     exact⟨by simp[Instr.sliceBounds,Sem.run_bind,run_sliceBound,z,Q,D,G,Int.toNat_of_nonneg z,pure,Sem.run],I,O⟩
def ws{es:List (List AV)}{a:Option Addr}{n c l h:Nat}(hv:VR A w (.arr es) (.slice a n c))(hlh:l<=h)(hn:h<=n){S:Nat}(O:mh S es=true):
  VR A w (.arr ((es.take h).drop l)) (.slice (if c=l then a else a.map (·.add (l*S))) (h - l) (c - l)):=by
 rcases Nat.eq_zero_or_pos (h - l)with J|J
 ·have:(es.take h).drop l=[]:=List.drop_eq_nil_of_le (by rw[List.length_take];omega);rw[this,J];exact .bj _ _
 ·cases hv with
  |bj=>omega
  |arr b o _ sz _ us hne hlen hcap hb hM hs hc hr=>
   have I:sz=S:=by
    obtain⟨U,Q⟩:=av (xs:=es) (k:=0) (by cases es with|nil=>exact absurd rfl hne|cons=>simp);rw[<- hs 0 U Q]
    cases es with
    |nil=>exact absurd rfl hne
    |cons V es=>cases Q;unfold mh at O;simpa using O
   subst I;have D:((es.take h).drop l).length=h - l:=by rw[List.length_drop,List.length_take];omega
   have y:∀(k:Nat) (v:List AV),((es.take h).drop l)[k]?=some v->es[l+k]?=some v/\k <h - l:=fun k v u=>by
    have z:=aC u;rw[List.getElem?_drop,List.getElem?_take]at u;rw[D]at z;rw[if_pos (by omega)]at u;exact⟨u,z⟩
   rw[if_neg (by omega),<- D];simp only[Option.map_some,addr_add];refine .arr b (o+l*sz) (c - l) sz _ (fun k j=>us (l+k) j) (fun e=>by rw[e]at D;simp at D;omega) (by omega) (by omega) hb hM (fun k v u=>hs _ _ (y k v u).1) (fun k j u G=>?_) (fun k j v x u G=>hr _ _ _ _ (y k v u).1 G);have:=hc (l+k) j (by omega) G;rwa[Nat.add_mul,Nat.add_assoc,<- Nat.add_assoc o,Nat.add_assoc,<- Nat.add_assoc]at this
def Iv{x:SV}{es:List (List AV)}{v:Value}(h:pR x=some es)(hv:SR A L w x v):VR A w (.arr es) v:=by
 unfold pR at h;split at h <;>cases h
 ·exact eB hv (.inl rfl)
 ·exact eB hv (.inr (.inl rfl))
 ·exact eB hv (.inr (.inr (.inl rfl)))
 ·exact eB hv (.inr (.inr (.inr ⟨rfl,rfl⟩)))
def HU{t:Nat}{s x:SV}{lo hi mx:Option SV}{v:Value}{ul uh um:Option Value}(h:n8 P t s lo hi mx=some x)(hs:SR A L w s v)(h1:∀s,lo=some s->∃v,ul=some v/\SR A L w s v)(h2:lo=none->ul=none)(h3:∀s,hi=some s->∃v,uh=some v/\SR A L w s v)(h4:hi=none->uh=none)(h5:mx=none->um=none):
  ∃y,(Instr.sliceAt t v ul uh um).run P w=.ok y w/\SR A L w x y:=by
 unfold n8 at h;split at h
 ·cases h
 ·obtain rfl:=h5 rfl;split at h
  ·rename_i str;obtain rfl:=nr hs;split at h
   ·cases h
   ·rename_i u;unfold k7 at u;split at u
    ·rename_i U;split at h
     ·rename_i l r D;cases h;obtain⟨z,_,_⟩:=tC (P:=P) D h1 h2 h3 h4 (b:=false) (Nat.le_refl _);exact⟨_,by simp[Instr.sliceAt,Instr.slice,Sem.run_bind,run_underlying U,z,pure,Sem.run],.t _ _ (.str _)⟩
     ·cases h
    ·cases u
  ·split at h
   ·cases h
   ·rename_i e sz u;obtain⟨i,U,hi,rfl⟩:=qw u;split at h
    ·cases h
    ·rename_i V Q;have Z:=Iv Q hs;split at h
     ·cases h
     ·rename_i J;split at h
      ·rename_i l r D;cases h
       obtain⟨a,c,rfl,G⟩:∃a c,v=.slice a V.length c/\V.length<=c:=by
        cases Z with
        |bj a c=>exact⟨a,c,rfl,Nat.zero_le _⟩
        |arr b o c _ _ _ _ _ hcap=>exact⟨_,c,rfl,hcap⟩
       obtain⟨z,I,O⟩:=tC (P:=P) D h1 h2 h3 h4 (b:=true) G;exact⟨_,by simp[Instr.sliceAt,Instr.slice,Sem.run_bind,run_underlying U,z,gS hi,pure,Sem.run],.t _ _ (ws Z I O J)⟩
      ·cases h
def zY{t e sz n c l h:Nat}{q:Option Addr}{lo hi:Option SV}{ul uh:Option Value}(ht:da P t=some (e,sz))(hc:j2 lo hi n=some (l,h))(y:n<=c)(h1:∀s,lo=some s->∃v,ul=some v/\SR A L w s v)(h2:lo=none->ul=none)(h3:∀s,hi=some s->∃v,uh=some v/\SR A L w s v)(h4:hi=none->uh=none):
  (Instr.sliceAt t (.slice q n c) ul uh none).run P w=.ok (.slice (if c=l then q else q.map (·.add (l*sz))) (h - l) (c - l)) w/\l<=h/\h<=n:=by
 obtain⟨i,G,hi,rfl⟩:=qw ht;obtain⟨D,u,z⟩:=tC (P:=P) hc h1 h2 h3 h4 (b:=true) y;exact⟨by simp[Instr.sliceAt,Instr.slice,Sem.run_bind,run_underlying G,D,gS hi,pure,Sem.run],u,z⟩
def AU{t e r sz a n len b c:Nat}{x:SV}{lo hi:Option SV}{ul uh:Option Value}(ht:da P t=some (e,sz))(h:gh r sz a n len lo hi=some x)(Q:L r=some (.slice (some ⟨b,0,none⟩) len c))(U:len<=c)(V:a+n<=len)(h1:∀s,lo=some s->∃v,ul=some v/\SR A L w s v)(h2:lo=none->ul=none)(h3:∀s,hi=some s->∃v,uh=some v/\SR A L w s v)(h4:hi=none->uh=none):
  ∃y,(Instr.sliceAt t (.slice (some ⟨b,a*sz,none⟩) n (c - a)) ul uh none).run P w=.ok y w/\SR A L w x y:=by
 unfold gh at h;split at h
 ·rename_i l u Z;obtain⟨G,ad,af⟩:=zY (q:=some ⟨b,a*sz,none⟩) (c:=c - a) ht Z (by omega) h1 h2 h3 h4;refine⟨_,G,?_⟩;split at h
  ·rename_i D;rw[Bool.and_eq_true,Nat.beq_eq,Nat.beq_eq]at D;cases h;obtain rfl:a=0:=by omega
   obtain rfl:l=0:=by omega
   obtain rfl:u=len:=D.2
   have e:(Value.slice (if c - 0=0 then some ⟨b,0*sz,none⟩else(some ⟨b,0*sz,none⟩:Option Addr).map (·.add (0*sz))) (u - 0) (c - 0 - 0))=.slice (some ⟨b,0,none⟩) u c:=by
    simp[addr_add]
   rw[e];exact .ls _ _ Q rfl
  ·rename_i D;split at h
   ·rename_i z;rw[Bool.and_eq_true,Nat.beq_eq]at z;cases h;rw[z.1];exact .t _ _ (.bj _ _)
   ·rename_i z;cases h
    have I:¬(c - a=l):=fun e=>by
     have D:¬(a+l=0/\u=len):=fun⟨J,O⟩=>by simp[J,O]at D
     have z:¬(u - l=0/\0 <a+l):=fun⟨J,O⟩=>by rw[J,show Nat.blt 0 (a+l)=true from by rw[Nat.blt_eq];exact O]at z;exact absurd z (by decide)
     omega
    rw[if_neg I];simp only[Option.map_some,addr_add];rw[<- Nat.add_mul,Nat.sub_sub];exact .lv r sz (a+l) (u - l) b len c Q
 ·cases h
def HT{γ:Glob}{κ:Ctx}{fr:Fr}{t:Nat}{s x:SV}{lo hi mx:Option SV}{v:Value}{ul uh um:Option Value}(hC:ar γ κ fr L w)(h:rV P fr t s lo hi mx=some x)(hs:SR (MA κ.M fr L) L w s v)(h1:∀s,lo=some s->∃v,ul=some v/\SR (MA κ.M fr L) L w s v)(h2:lo=none->ul=none)(h3:∀s,hi=some s->∃v,uh=some v/\SR (MA κ.M fr L) L w s v)(h4:hi=none->uh=none)(h5:mx=none->um=none)(h6:∀s,mx=some s->∃v,um=some v/\SR (MA κ.M fr L) L w s v):
  ∃y,(Instr.sliceAt t v ul uh um).run P w=.ok y w/\SR (MA κ.M fr L) L w x y:=by
 unfold rV at h;split at h
 ·split at h
  ·cases h
  ·rename_i m e sz Z;split at h
   ·rename_i r kl l kh U km mm;split at h
    ·rename_i ro af G O Q;split at h
     ·rename_i D;cases h;simp only[Bool.and_eq_true,decide_eq_true_eq]at D;obtain⟨_,z1,z2,z3,z4⟩:=D;obtain⟨J,_⟩:=iu hs;obtain⟨T,us,z,_,⟨q,c,rfl⟩,_⟩:=dO hC Q J;obtain⟨v1,rfl,w1⟩:=h1 _ rfl;obtain rfl:=dK w1;obtain⟨v2,rfl,w2⟩:=h3 _ rfl;obtain rfl:=dK w2;obtain⟨v3,rfl,w3⟩:=h6 _ rfl;obtain rfl:=dK w3
      have u:(mm:Int)<=c:=by
       rcases z with⟨I,_⟩|z
       ·omega
       ·rcases z.2 with⟨e,I⟩|⟨_,_,_,e,_,_,u,_⟩
        ·omega
        ·cases e;omega
      obtain⟨i,hu,hi,rfl⟩:=qw Z;have m0:0<=mm:=by omega
      have b1:U<=((mm.toNat:Nat):Int):=by omega
      have b2:l<=((U.toNat:Nat):Int):=by omega
      have p0:0<=U:=by omega
      exact⟨_,by simp[Instr.sliceAt,Instr.slice,Sem.run_bind,run_underlying hu,Instr.sliceBounds,run_sliceBound,m0,u,p0,z1,z2,z3,Int.toNat_of_nonneg m0,Int.toNat_of_nonneg p0,gS hi,pure,Sem.run];rfl,.dead _⟩
     ·cases h
    ·cases h
   ·cases h
 ·obtain rfl:=h5 rfl;split at h
  ·cases h
  ·rename_i e sz Z;split at h
   ·rename_i r;split at h
    ·rename_i ro af G O Q;split at h
     ·rename_i D;obtain rfl:sz=G:=by simpa using D
      obtain⟨J,_⟩:=iu hs;obtain⟨T,us,z,_,⟨q,c,rfl⟩,_⟩:=dO hC Q J;rcases Nat.eq_zero_or_pos O.length with I|I
      ·unfold gh at h;split at h
       ·rename_i l U hc;have u:O.length<=c:=by omega
        obtain⟨V,ak,al⟩:=zY (q:=q) (c:=c) Z hc u h1 h2 h3 h4;refine⟨_,V,?_⟩;obtain rfl:l=0:=by omega
        obtain rfl:U=0:=by omega
        simp only[I]at h;cases h
        have e:(Value.slice (if c=0 then q else q.map (·.add (0*sz))) (0 - 0) (c - 0))=.slice q O.length c:=by
         rw[I]
         cases q with
         |none=>simp
         |some ad=>
          obtain⟨b,o,p⟩:=ad;simp[Addr.add]
        rw[e];exact .ls _ _ J rfl
       ·cases h
      ·rcases(z.own I).2 with⟨e,D⟩|⟨b,cap,ag,e,_,_,u,_⟩
       ·omega
       ·cases e;have:=AU (a:=0) (n:=O.length) Z h J u (by omega) h1 h2 h3 h4;rw[Nat.zero_mul,Nat.sub_zero]at this;exact this
     ·cases h
    ·cases h
   ·rename_i r dG a n;split at h
    ·rename_i ro af G O Q;split at h
     ·rename_i D;rw[Bool.and_eq_true,Bool.and_eq_true,Nat.ble_eq]at D;obtain rfl:sz=G:=by simpa using D.1
      obtain rfl:dG=sz:=by simpa using D.2.1
      obtain⟨b,m,c,J,rfl⟩:=jD hs;obtain⟨T,us,z,_,⟨q,c',hv⟩,_⟩:=dO hC Q J;cases hv
      have u:O.length<=c:=by
       rcases z with⟨I,_⟩|z
       ·omega
       ·rcases z.2 with⟨e,I⟩|⟨_,_,_,e,_,_,u,_⟩
        ·omega
        ·cases e;exact u
      exact AU Z h J u D.2.2 h1 h2 h3 h4
     ·cases h
    ·cases h
   ·cases h
def py{env:Env}{a:Act}{ops:List Operand}(u:∀y∈ops,SR A L w (rd env y) (a.eval y))(o:Option Operand)(ho:∀q,o=some q->q∈ops):∀s,o.map (rd env)=some s->∃v,o.map a.eval=some v/\SR A L w s v:=fun s hs=>by
 cases o with
 |none=>cases hs
 |some q=>cases hs;exact⟨_,rfl,u q (ho q rfl)⟩
def nT{env:Env}{a:Act}(o:Option Operand)(h:o.map (rd env)=none):o.map a.eval=none:=by
 cases o with
 |none=>rfl
 |some q=>cases h
end
section
variable {P:Program} {w:World} {γ:Glob} {κ:Ctx} {fr:Fr} {L:Ls}
def BH{b:BinOp}{t:Nat}{x y:Operand}{s s':SV}{z:AV}{u v:Value}(Z:ar γ κ fr L w)(h:mP P fr b t s s'=some z)(hs:SR (MA κ.M fr L) L w s u)(D:SR (MA κ.M fr L) L w s' v):∃r,(do eqGuard b t x y u v;binOp b t u v).run P w=.ok r w/\VR (MA κ.M fr L) w z r:=by
 have fin:∀{q:Addr} {n c e:Nat},P.underlying t=some (.slice e)->eA b false=some z->u=.slice (some q) n c->v=.slice none 0 0->∃r,(do eqGuard b t x y u v;binOp b t u v).run P w=.ok r w/\VR (MA κ.M fr L) w z r:=fun{q n c e} G h O Q=>by
  subst O Q;obtain⟨r,h3,h4⟩:=iD (M:=MA κ.M fr L) h (qy G q n c) (fun _ _ h=>by cases h) (fun _ _ h=>by cases h) (fun _ _ _ h=>by cases h) (fun _ h=>by cases h);exact⟨r,by simp only[Sem.run_bind,zV (x:=x) (y:=y) (b:=b) (t:=t) (u:=.slice (some q) n c) (v:=.slice none 0 0) (fun _ _ h=>by cases h) (fun h=>by cases h),Result.andThen_ok,h3],h4⟩
 unfold mP at h;split at h
 ·rename_i i;cases D;split at h
  ·rename_i J;obtain⟨e,G⟩:=nt J;split at h
   ·rename_i ro ad sz e0 et hb;obtain⟨hL,_⟩:=iu hs;obtain⟨T,us,I,_,⟨q,c,rfl⟩,_⟩:=dO Z hb hL;rcases(I.own (by simp)).2 with⟨e,hz⟩|⟨U,cap,V,e,_⟩
    ·simp at hz
    ·exact fin G h e rfl
   ·cases h
  ·cases h
 ·cases D;split at h
  ·rename_i J;obtain⟨e,G⟩:=nt J;obtain⟨U,m,c,_,rfl⟩:=jD hs;exact fin G h rfl rfl
  ·cases h
 ·cases h
end
section
variable {P:Program} {A:Nat->Prop} {L:Ls} {w:World} {γ:Glob} {κ:Ctx} {fr:Fr}
def w9{d:TypeDesc}{x y:AV}{b:Bool}{u v:Value}(h:ij d [x] [y]=some b)(G:VR A w x u)(hv:VR A w y v):Instr.sameNow d u v=some b:=by
 unfold ij at h;split at h
 ·rename_i z D;cases z;cases D;cases G;cases hv;split at h
  ·rename_i I;cases h;simp[Instr.sameNow,I];rfl
  ·cases h
 ·rename_i z D;cases z;cases D;cases G;cases hv;cases h;rfl
 ·rename_i z D;cases z;cases D;cases G;cases hv;cases h;rfl
 ·cases h
theorem lY{d:TypeDesc}{k:AV}{u:Value}(z:VR A w k u):∀(ks:List AV) (es:List MapEntry) (i:Nat) (r:Option Nat),ks.length=es.length->(∀(j:Nat) (x:AV) (e:MapEntry),ks[j]?=some x->es[j]?=some e->VR A w x e.key)->dY d k ks i=some r->
  (r=none/\Instr.findNow d u es i=some none)\/∃j e,r=some (i+j)/\es[j]?=some e/\Instr.findNow d u es i=some (some (i+j,e.val))/\∃x,ks[j]?=some x/\ij d [k] [x]=some true
 |[],[],i,r,_,_,h=>by unfold dY at h;cases h;exact .inl ⟨rfl,rfl⟩
 |[],_::_,_,_,v,_,_=>by simp at v
 |_::_,[],_,_,v,_,_=>by simp at v
 |x::ks,e::es,i,r,v,D,h=>by
  unfold dY at h;have I:=D 0 x e rfl rfl;split at h
  ·rename_i y;cases h;refine .inr ⟨0,e,rfl,rfl,?_,x,rfl,y⟩;unfold Instr.findNow;rw[w9 y z I];rfl
  ·rename_i y
   have G:Instr.findNow d u (e::es) i=Instr.findNow d u es (i+1):=by
    conv=>lhs;unfold Instr.findNow
    rw[w9 y z I]
   rcases lY z ks es (i+1) r (by simpa using v) (fun j x e h1 h2=>D (j+1) x e h1 h2) h with⟨h1,h2⟩|⟨j,J,h1,h2,h3,h4⟩
   ·exact .inl ⟨h1,G.trans h2⟩
   ·have O:i+1+j=i+(j+1):=by omega
    rw[O]at h1 h3;exact .inr ⟨j+1,J,h1,h2,G.trans h3,h4⟩
  ·cases h
def uL{t e:Nat}{d:TypeDesc}(h:iy P t=some (e,d)):∃k,P.underlying t=some (.map k e)/\P.underlying k=some d/\pk d=true:=by
 unfold iy at h;split at h
 ·rename_i k D y;split at h
  ·rename_i z u;split at h
   ·rename_i v;cases h;exact⟨k,y,u,v⟩
   ·cases h
  ·cases h
 ·cases h
def zR{k:Nat}{d:TypeDesc}(hk:P.underlying k=some d)(hl:pk d=true)(b:Bool)(v:Value)(n:Nat):(Instr.checkKey b (n+1) k v).run P w=.ok () w:=by
 unfold Instr.checkKey;rw[Sem.run_bind,run_underlying hk,Result.andThen_ok];cases d <;>first|(cases hl;done)|rfl
def run_checkKey{k:Nat}{d:TypeDesc}(hk:P.underlying k=some d)(hl:pk d=true)(b:Bool)(v:Value):(Instr.checkKey b 10000 k v).run P w=.ok () w:=zR hk hl b v 9999
def run_findKey{k:Nat}{d:TypeDesc}(hk:P.underlying k=some d){v:Value}{es:List MapEntry}{r:Option (Nat×Value)}(h:Instr.findNow d v es 0=some r):(Instr.findKey k v es).run P w=.ok r w:=by
 unfold Instr.findKey;rw[Sem.run_bind,run_underlying hk,Result.andThen_ok];simp only[h];rfl
def Ju(v:Value):SR A L w (v_ v) v:=by
 unfold v_;split
 ·rename_i D;refine qb (.agg _ _ (by simp) fun j x u y z=>?_);rw[List.getElem?_map,Array.getElem?_toList,z]at y;cases y;exact gA u
 ·exact gA _
def A4{e:Nat}{z:SV}(h:mB P e=some z):∃v,(zeroValue e).run P w=.ok v w/\SR A L w z v:=by
 unfold mB at h;split at h
 ·rename_i i u;split at h
  ·rename_i z y;cases h;exact⟨z,rR u y w,Ju z⟩
  ·cases h
 ·cases h
def yl{x:SV}{ks:List AV}{vs:List SV}{v:Value}(Q:ar γ κ fr L w)(h:mapOf fr x=some (ks,vs))(hx:SR (MA κ.M fr L) L w x v):∃es:Array MapEntry,((v=.map none/\es=#[])\/∃r c,v=.map (some r)/\w.heap[r]?=some (.map es c))/\es.size=ks.length/\es.size=vs.length/\(∀(j:Nat) (y:AV) (e:MapEntry),ks[j]?=some y->es[j]?=some e->VR (MA κ.M fr L) w y e.key)/\∀(j:Nat) (y:SV) (e:MapEntry),vs[j]?=some y->es[j]?=some e->SR (MA κ.M fr L) L w y e.val:=by
 unfold mapOf at h;split at h
 ·cases h
  cases hx with
  |t _ _ hx=>
   cases hx with
   |mp r _ _ D u hb hM hh hk hv hrk hrv=>
    refine⟨D,.inr ⟨r,u,rfl,hh⟩,hk,by simpa using hv,hrk,fun j y e G U=>?_⟩;rw[List.getElem?_map]at G;rename_i vs
    cases I:vs[j]? with
    |none=>rw[I]at G;cases G
    |some z=>rw[I]at G;cases G;exact .t _ _ (hrv j z e I U)
 ·rename_i i;split at h
  ·rename_i ro Z ad V;cases h;obtain⟨r,D,u,h1,h2,h3,h4,J,O,_⟩:=Q.blk i _ V
   cases hx with
   |lm _ r' hL=>
    rw[h1]at hL;cases hL;exact⟨D,.inr ⟨r,u,rfl,h2⟩,h3,h4,J,O⟩
  ·cases h
 ·cases h;obtain rfl:=j_ hx;exact⟨#[],.inl ⟨rfl,rfl⟩,rfl,rfl,fun j y e G _=>by simp at G,fun j y e G _=>by simp at G⟩
 ·cases h
def ym{t e k n:Nat}(h:la P t=some (e,k,n)):∃fs,P.underlying t=some (.map k e)/\P.underlying k=some (.struct fs)/\bm P k=some (true,n)/\nc P n fs.toList=true:=by
 unfold la at h;split at h
 ·rename_i D z y;split at h
  ·rename_i fs v;split at h
   ·rename_i G hs;split at h
    ·rename_i u;cases h;exact⟨fs,y,v,hs,u⟩
    ·cases h
   ·cases h
  ·cases h
 ·cases h
theorem zQ{b:Bool}{m n:Nat}{cs:List AV}{us:Array Value}(z:jj A w cs us)(hn:cs.length=n):∀(fs:List Field),nc P n fs=true->(forIn (m:=Sem) fs PUnit.unit fun f _=>
   if f.name≠ "_" then(do
    let l <- part f.type us f.offset
    Instr.checkKey b (m+1) f.type l
    pure (ForInStep.yield PUnit.unit))
   else pure (ForInStep.yield PUnit.unit)).run P w=.ok PUnit.unit w
 |[],_=>rfl
 |f::fs,h=>by
  unfold nc at h;split at h
  ·cases h
  ·rename_i u;split at h
   ·rename_i d D hs;split at h
    ·rename_i y;rw[Bool.and_eq_true,Nat.ble_eq]at y;have u :f.name≠ "_" :=by simpa using u
     obtain⟨v,G,_⟩:=vx hs z (by rw[hn];exact y.2) (fun _=>rfl);rw[List.forIn_cons];simp only[Sem.run_bind,if_pos u,G,Result.andThen_ok,zR D y.1,Sem.run_pure];exact zQ z hn fs h
    ·cases h
   ·cases h
def rN{k n:Nat}{fs:Array Field}{cs:List AV}{us:Array Value}(hk:P.underlying k=some (.struct fs))(hf:nc P n fs.toList=true)(u:jj A w cs us)(hn:cs.length=n)(b:Bool):(Instr.checkKey b 10000 k (.agg us)).run P w=.ok () w:=by
 unfold Instr.checkKey;rw[Sem.run_bind,run_underlying hk,Result.andThen_ok];simp only;rw[<- Array.forIn_toList,Sem.run_bind,zQ (m:=9998) u hn _ hf];rfl
theorem pE{u n:Nat}{cs:List AV}{us:Array Value}(ht:bm P u=some (true,n))(U:jj A w cs us):∀(ks:List AV) (es:List MapEntry) (i:Nat) (r:Option Nat),ks.length=es.length->(∀(j:Nat) (x:AV) (e:MapEntry),ks[j]?=some x->es[j]?=some e->VR A w x e.key)->fx P u cs ks i=some r->
  (r=none/\(Instr.findAsking u (.agg us) es i).run P w=.ok none w)\/∃j e,r=some (i+j)/\es[j]?=some e/\(Instr.findAsking u (.agg us) es i).run P w=.ok (some (i+j,e.val)) w
 |[],[],i,r,_,_,h=>by unfold fx at h;cases h;exact .inl ⟨rfl,rfl⟩
 |[],_::_,_,_,y,_,_=>by simp at y
 |_::_,[],_,_,y,_,_=>by simp at y
 |x::ks,e::es,i,r,y,O,h=>by
  unfold fx at h;have V:=O 0 x e rfl rfl;split at h
  ·rename_i ds
   obtain⟨v,D,I⟩:∃v,e.key=.agg v/\jj A w ds v:=by
    generalize e.key=z at V
    cases V with
    |agg _ v hl2 hr2=>exact⟨v,rfl,hl2,hr2⟩
   have J:∀r,gF P 20 u cs ds=some r->(Op.equal u (.agg us) e.key).run P w=.ok r w:=fun r hr=>by
    rw[D];exact vu (M:=A) (w:=w) 20 10000 u true n cs ds r _ _ (by decide) ht hr ⟨us,rfl,U⟩ ⟨v,rfl,I⟩
   split at h
   ·rename_i G;cases h;refine .inr ⟨0,e,rfl,rfl,?_⟩;unfold Instr.findAsking;simp only[Sem.run_bind,J _ G,Result.andThen_ok];rfl
   ·rename_i G
    have Q:(Instr.findAsking u (.agg us) (e::es) i).run P w=(Instr.findAsking u (.agg us) es (i+1)).run P w:=by
     conv=>lhs;unfold Instr.findAsking
     simp only[Sem.run_bind,J _ G,Result.andThen_ok];rfl
    rcases pE ht U ks es (i+1) r (by simpa using y) (fun j x e h1 h2=>O (j+1) x e h1 h2) h with⟨h1,h2⟩|⟨j,Z,h1,h2,h3⟩
    ·exact .inl ⟨h1,Q.trans h2⟩
    ·have e1:i+1+j=i+(j+1):=by omega
     rw[e1]at h1 h3;exact .inr ⟨j+1,Z,h1,h2,Q.trans h3⟩
   ·cases h
  ·cases h
def rO{k:Nat}{fs:Array Field}(hk:P.underlying k=some (.struct fs)){us:Array Value}{es:List MapEntry}{r:Option (Nat×Value)}(h:(Instr.findAsking k (.agg us) es 0).run P w=.ok r w):(Instr.findKey k (.agg us) es).run P w=.ok r w:=by
 unfold Instr.findKey;rw[Sem.run_bind,run_underlying hk,Result.andThen_ok]
 cases es with
 |nil=>
  have:r=none:=by
   have h:(Result.ok (none:Option (Nat×Value)) w)=.ok r w:=h;cases h;rfl
  subst this;rfl
 |cons e es=>
  have:Instr.findNow (.struct fs) (.agg us) (e::es) 0=none:=by
   unfold Instr.findNow;rfl
  simp only[this];exact h
def Fa{t:Nat}{s key x:SV}{v u:Value}{ok:Bool}(hC:ar γ κ fr L w)(h:po P fr t s key ok=some x)(hs:SR (MA κ.M fr L) L w s v)(hu:SR (MA κ.M fr L) L w key u):∃y,(Instr.lookup t v u ok).run P w=.ok y w/\SR (MA κ.M fr L) L w x y:=by
 unfold po at h;split at h
 ·cases h
 ·rename_i e kt n ht;obtain⟨fs,am,D,af,ad⟩:=ym ht;split at h
  ·rename_i cs
   obtain⟨O,rfl,G⟩:∃O,u=.agg O/\jj (MA κ.M fr L) w cs O:=by
    cases hu with|t _ _ h=>cases h with|agg _ O h1 h2=>exact⟨O,rfl,h1,h2⟩
   split at h
   ·cases h
   ·rename_i ag;have Z:cs.length=n:=by simpa using ag
    split at h
    ·cases h
    ·rename_i ks vs hm;obtain⟨es,hv,h1,h2,h3,h4⟩:=yl hC hm hs
     have I:∀(r:Option (Nat×Value)) (q:Value) (b:Bool),(Instr.findAsking kt (.agg O) es.toList 0).run P w=.ok r w->(r=none->b=false/\(zeroValue e).run P w=.ok q w)->(∀j z,r=some (j,z)->b=true/\q=z)->(Instr.lookup t v (.agg O) ok).run P w=.ok (if ok then .tuple #[q,.bool b]else q) w:=fun r q b U hn hy=>by
      unfold Instr.lookup;rw[Sem.run_bind,run_underlying am,Result.andThen_ok];rcases hv with⟨rfl,rfl⟩|⟨r',c,rfl,hh⟩
      ·simp only[Sem.run_bind,Sem.run_pure,Result.andThen_ok,rN D ad G Z,rO D U]
       cases r with
       |none=>obtain⟨rfl,h⟩:=hn rfl;simp only[Sem.run_bind,h,Result.andThen_ok,Sem.run_pure];try(cases ok <;>rfl)
       |some p=>obtain⟨rfl,rfl⟩:=hy p.1 p.2 rfl;cases ok <;>rfl
      ·have hg:(getObj r').run P w=.ok (.map es c) w:=by simp[getObj,Sem.run,hh]
       simp only[Sem.run_bind,Sem.run_pure,hg,Result.andThen_ok,rN D ad G Z,rO D U]
       cases r with
       |none=>obtain⟨rfl,h⟩:=hn rfl;simp only[Sem.run_bind,h,Result.andThen_ok,Sem.run_pure];try(cases ok <;>rfl)
       |some p=>obtain⟨rfl,rfl⟩:=hy p.1 p.2 rfl;cases ok <;>rfl
     have fin:∀(z:SV) (q:Value) (b:Bool),SR (MA κ.M fr L) L w z q->SR (MA κ.M fr L) L w (iz ok z b) (if ok then .tuple #[q,.bool b]else q):=fun z q b V=>by
      unfold iz
      cases ok with
      |false=>exact V
      |true=>
       refine .aL _ _ rfl fun j x u J hu=>?_
       match j with
       |0=>cases J;cases hu;exact V
       |1=>cases J;cases hu;exact .t _ _ (.bool _)
       |j+2=>simp at J
     split at h
     ·cases h
     ·rename_i i U;rcases pE af G ks es.toList 0 _ (by simpa using h1.symm) (fun j x e J he=>h3 j x e J (by simpa using he)) U with⟨Q,_⟩|⟨j,e',Q,h6,h7⟩
      ·cases Q
      ·rw[Nat.zero_add]at Q h7;cases Q;split at h
       ·rename_i z V;cases h;exact⟨_,I _ e'.val true h7 (fun h=>nomatch h) (fun j z h=>by cases h;exact⟨rfl,rfl⟩),fin z e'.val true (h4 _ z e' V (by simpa using h6))⟩
       ·cases h
     ·rename_i U;rcases pE af G ks es.toList 0 _ (by simpa using h1.symm) (fun j x e J he=>h3 j x e J (by simpa using he)) U with⟨_,h6⟩|⟨j,e',Q,_⟩
      ·split at h
       ·rename_i z V;cases h;obtain⟨q,ak,al⟩:=A4 (P:=P) (w:=w) (A:=MA κ.M fr L) (L:=L) V;exact⟨_,I _ q false h6 (fun _=>⟨rfl,ak⟩) (fun j z h=>nomatch h),fin z q false al⟩
       ·cases h
      ·cases Q
  ·cases h
def Fb{t:Nat}{s key x:SV}{v u:Value}{ok:Bool}(hC:ar γ κ fr L w)(h:ma P fr t s key ok=some x)(hs:SR (MA κ.M fr L) L w s v)(V:SR (MA κ.M fr L) L w key u):∃y,(Instr.lookup t v u ok).run P w=.ok y w/\SR (MA κ.M fr L) L w x y:=by
 unfold ma at h;split at h
 ·exact Fa hC h hs V
 ·rename_i e d ht;obtain⟨k,ag,D,hl⟩:=uL ht;split at h
  ·rename_i ka;have U:VR (MA κ.M fr L) w ka u:=by cases V with|t _ _ h=>exact h
   split at h
   ·cases h
   ·rename_i ks vs hm;obtain⟨es,hv,h1,h2,h3,h4⟩:=yl hC hm hs
    have G:∀(r:Option (Nat×Value)) (q:Value) (b:Bool),Instr.findNow d u es.toList 0=some r->(r=none->b=false/\(zeroValue e).run P w=.ok q w)->(∀j z,r=some (j,z)->b=true/\q=z)->(Instr.lookup t v u ok).run P w=.ok (if ok then .tuple #[q,.bool b]else q) w:=fun r q b O hn hy=>by
     unfold Instr.lookup;rw[Sem.run_bind,run_underlying ag,Result.andThen_ok];rcases hv with⟨rfl,rfl⟩|⟨r',c,rfl,hh⟩
     ·simp only[Sem.run_bind,Sem.run_pure,Result.andThen_ok,run_checkKey D hl,run_findKey D O]
      cases r with
      |none=>obtain⟨rfl,h⟩:=hn rfl;simp only[Sem.run_bind,h,Result.andThen_ok,Sem.run_pure];try(cases ok <;>rfl)
      |some p=>obtain⟨rfl,rfl⟩:=hy p.1 p.2 rfl;cases ok <;>rfl
     ·have hg:(getObj r').run P w=.ok (.map es c) w:=by simp[getObj,Sem.run,hh]
      simp only[Sem.run_bind,Sem.run_pure,hg,Result.andThen_ok,run_checkKey D hl,run_findKey D O]
      cases r with
      |none=>obtain⟨rfl,h⟩:=hn rfl;simp only[Sem.run_bind,h,Result.andThen_ok,Sem.run_pure];try(cases ok <;>rfl)
      |some p=>obtain⟨rfl,rfl⟩:=hy p.1 p.2 rfl;cases ok <;>rfl
    have fin:∀(z:SV) (q:Value) (b:Bool),SR (MA κ.M fr L) L w z q->SR (MA κ.M fr L) L w (iz ok z b) (if ok then .tuple #[q,.bool b]else q):=fun z q b Q=>by
     unfold iz
     cases ok with
     |false=>exact Q
     |true=>
      refine .aL _ _ rfl fun j x u I V=>?_
      match j with
      |0=>cases I;cases V;exact Q
      |1=>cases I;cases V;exact .t _ _ (.bool _)
      |j+2=>simp at I
    split at h
    ·cases h
    ·rename_i i O;rcases lY U ks es.toList 0 _ (by simpa using h1.symm) (fun j x e I he=>h3 j x e I (by simpa using he)) O with⟨J,_⟩|⟨j,Z,J,h6,h7,_⟩
     ·cases J
     ·rw[Nat.zero_add]at J h7;cases J;split at h
      ·rename_i z Q;cases h;exact⟨_,G _ Z.val true h7 (fun h=>nomatch h) (fun j z h=>by cases h;exact⟨rfl,rfl⟩),fin z Z.val true (h4 _ z Z Q (by simpa using h6))⟩
      ·cases h
    ·rename_i O;rcases lY U ks es.toList 0 _ (by simpa using h1.symm) (fun j x e I he=>h3 j x e I (by simpa using he)) O with⟨_,h6⟩|⟨j,Z,J,_⟩
     ·split at h
      ·rename_i z Q;cases h;obtain⟨q,ad,af⟩:=A4 (P:=P) (w:=w) (A:=MA κ.M fr L) (L:=L) Q;exact⟨_,G _ q false h6 (fun _=>⟨rfl,ad⟩) (fun j z h=>nomatch h),fin z q false af⟩
      ·cases h
     ·cases J
  ·cases h
end
def p8(P:Program)(γ:Glob)(fr:Fr)(env:Env)(o:Oper)(x:SV):Prop:=
 ∀(κ:Ctx) (L:Ls) (a:Act) (w:World),ar γ κ fr L w->(∀y∈o.op.operands,SR (MA κ.M fr L) L w (cE env y) (a.eval y))->cr P o a w fun v w'=>Below w.heap.size w w'/\SR (MA κ.M fr L) L w' x v
section
variable {P:Program} {γ:Glob} {fr:Fr} {env:Env} {dst:Option Tmp} {ty:TypeId} {pos:String} {after:Array Edge} {g:Option (Nat×Bool)}
def oX{o:Oper}{a:Act}{w w':World}{s:Sem Value}{v:Value}(he:execOp a.eval o=(do pure (.value (<- s))))(h:s.run P w=.ok v w'):(execOp a.eval o).run P w=.ok (.value v) w':=by
 rw[he];simp only[Sem.run_bind,h,Result.andThen_ok];rfl
def fF{o:Oper}{x:SV}(h:∀(κ:Ctx) (L:Ls) (a:Act) (w:World),ar γ κ fr L w->(∀y∈o.op.operands,SR (MA κ.M fr L) L w (rd env y) (a.eval y))->∃(s:Sem Value) (v:Value),execOp a.eval o=(do pure (.value (<- s)))/\s.run P w=.ok v w/\SR (MA κ.M fr L) L w x v):p8 P γ fr env o x:=fun κ L a w z u=>by
 obtain⟨s,v,h1,h2,h3⟩:=h κ L a w z fun y D=>bG (u y D);exact .value (oX h1 h2) ⟨Below.refl _ _,h3⟩
def CS{A:Nat->Prop}{L:Ls}{w:World}{z D:Nat}{s x:SV}{v:Value}(h:qp P z D s=some x)(hs:SR A L w s v):∃u,(convert z D v).run P w=.ok u w/\SR A L w x u:=by
 unfold qp at h;split at h
 ·rename_i k n;obtain rfl:=dK hs;split at h
  ·rename_i ds G h1 h2;cases h;exact⟨.int G (G.wrap n),by simp[convert,run_underlying h1,run_underlying h2,Conv.intToInt],.t _ _ (.int _ _)⟩
  ·cases h
 ·rename_i y;obtain rfl:=nr hs;split at h
  ·rename_i ds h1 h2;cases h;exact⟨.string y,by cases ds <;>simp[convert,run_underlying h1,run_underlying h2],.t _ _ (.str _)⟩
  ·cases h
 ·cases h
def t_{o:Oper}{x:SV}(h:bt P fr env o.op=some x):p8 P γ fr env o x:=by
 obtain⟨dst,op,ty,pos,after,g⟩:=o;simp only at h;unfold bt at h;split at h
 case h_1 y=>cases h;exact fun κ L a w _ z=>.value rfl ⟨Below.refl _ _,bG (z y (by simp[Op.operands]))⟩
 case h_2 y=>cases h;exact fun κ L a w _ z=>.value rfl ⟨Below.refl _ _,bG (z y (by simp[Op.operands]))⟩
 case h_3 c p q=>
  intro κ L a w _ z;have hc:=bG (z c (by simp[Op.operands]));split at h
  ·rename_i hr;rw[hr]at hc;cases h;have hc:=jC hc;exact .value (v:=a.eval p) (by simp[execOp,hc,asBool,pure,Sem.run,Sem.run_bind]) ⟨Below.refl _ _,bG (z p (by simp[Op.operands]))⟩
  ·rename_i hr;rw[hr]at hc;cases h;have hc:=jC hc;exact .value (v:=a.eval q) (by simp[execOp,hc,asBool,pure,Sem.run,Sem.run_bind]) ⟨Below.refl _ _,bG (z q (by simp[Op.operands]))⟩
  ·cases h
 case h_4 t y=>exact fF fun κ L a w D z=>by
                obtain⟨u,h1,h2⟩:=yg D h (z y (by simp[Op.operands]));exact⟨_,u,rfl,h1,h2⟩
 case h_5 y=>
  intro κ L a w _ z;obtain⟨⟨q,G⟩,h2⟩:=FB h (bG (z y (by simp[Op.operands])));exact .value (v:=a.eval y) (by simp[execOp,G,pure,Sem.run]) ⟨Below.refl _ _,h2⟩
 case h_6 b xt p q yt=>
  split at h
  ·rename_i r hb;cases h
   exact fF fun κ L a w D z=>by
    obtain⟨u,h1,h2⟩:=BJ (L:=L) (x:=p) (y:=q) hb (z p (by simp[Op.operands])) (z q (by simp[Op.operands]));exact⟨_,u,rfl,h1,.t _ _ h2⟩
  ·split at h
   ·rename_i r hb;cases h
    exact fF fun κ L a w D z=>by
     obtain⟨u,h1,h2⟩:=BH (x:=p) (y:=q) D hb (z p (by simp[Op.operands])) (z q (by simp[Op.operands]));exact⟨_,u,rfl,h1,.t _ _ h2⟩
   ·cases h
 case h_7 b xt p=>exact fF fun κ L a w D z=>by
                   obtain⟨u,h1,h2⟩:=IC h (z p (by simp[Op.operands]));exact⟨_,u,rfl,h1,h2⟩
 case h_8 st y f=>exact fF fun κ L a w D z=>by
                   obtain⟨u,h1,h2⟩:=DA h (z y (by simp[Op.operands]));exact⟨_,u,rfl,h1,h2⟩
 case h_9 st y f=>exact fF fun κ L a w D z=>by
                   obtain⟨u,h1,h2⟩:=DB h (z y (by simp[Op.operands]));exact⟨_,u,rfl,h1,h2⟩
 case h_10 t p q=>exact fF fun κ L a w D z=>by
                   obtain⟨u,h1,h2⟩:=Ee D h (z p (by simp[Op.operands])) (z q (by simp[Op.operands]));exact⟨_,u,rfl,h1,h2⟩
 case h_11 t p q=>exact fF fun κ L a w D z=>by
                   obtain⟨u,h1,h2⟩:=Eg h (z p (by simp[Op.operands])) (z q (by simp[Op.operands]));exact⟨_,u,rfl,h1,h2⟩
 case h_12 p i=>exact fF fun κ L a w D z=>by
                 obtain⟨u,h1,h2⟩:=Dv h (z p (by simp[Op.operands]));exact⟨_,u,rfl,h1,h2⟩
 case h_13 t y k ok=>
  exact fF fun κ L a w D z=>by
           obtain⟨u,h1,h2⟩:=Fb D h (z y (by simp[Op.operands])) (z k (by simp[Op.operands]));exact⟨_,u,rfl,h1,h2⟩
 case h_14 t y lo O V=>
  split at h
  rotate_left
  ·exact fF fun κ L a w D z=>by
           obtain⟨u,h1,h2⟩:=HT (ul:=lo.map a.eval) (uh:=O.map a.eval) (um:=V.map a.eval) D h (z y (by simp[Op.operands])) (py (ops:=(Op.slice t y lo O V).operands.toList) (fun q G=>z q (by simpa using G)) lo (by simp+contextual [Op.operands])) (nT lo) (py (ops:=(Op.slice t y lo O V).operands.toList) (fun q G=>z q (by simpa using G)) O (by simp+contextual [Op.operands])) (nT O) (nT V) (py (ops:=(Op.slice t y lo O V).operands.toList) (fun q G=>z q (by simpa using G)) V (by simp+contextual [Op.operands]));exact⟨_,u,rfl,h1,h2⟩
  rename_i y' ak;cases h;have h:=ak
  exact fF fun κ L a w D z=>by
           obtain⟨u,h1,h2⟩:=HU (ul:=lo.map a.eval) (uh:=O.map a.eval) (um:=V.map a.eval) h (z y (by simp[Op.operands])) (py (ops:=(Op.slice t y lo O V).operands.toList) (fun q G=>z q (by simpa using G)) lo (by simp+contextual [Op.operands])) (nT lo) (py (ops:=(Op.slice t y lo O V).operands.toList) (fun q G=>z q (by simpa using G)) O (by simp+contextual [Op.operands])) (nT O) (nT V);exact⟨_,u,rfl,h1,h2⟩
 case h_15 f first Z=>
  split at h
  ·cases h
   exact fF fun κ L a w D z=>by
    have e:first.size=(first.map a.eval).size:=by simp
    refine⟨_,.func f (first.map a.eval) (Z.map a.eval),rfl,by simp[Instr.makeFunc,pure,Sem.run],?_⟩;rw[e];refine xq (.fn _ _ _ _ (by simp) fun j x u hx hu=>?_);rw[<- Array.map_append,Array.getElem?_map]at hu;rw[List.getElem?_map]at hx
    cases J:(first++Z)[j]? with
    |none=>rw[J]at hu;cases hu
    |some y=>
     rw[Array.getElem?_toList,J]at hx;rw[J]at hu;cases hx;cases hu;exact z y (by simp only[Op.operands];exact Array.mem_of_getElem? J)
  ·cases h
 case h_16 t I=>
  split at h
  ·rename_i U;split at h
   ·rename_i cs hb;cases h
    exact fF fun κ L a w D z=>by
     obtain⟨us,h1,h2,h3⟩:=BW (A:=MA κ.M fr L) (L:=L) (w:=w) hb (vs:=(I.map fun(i,x)=>(i,a.eval x)).toList) (by simp) fun k p q Q G=>by
      rw[Array.toList_map,List.getElem?_map]at G;rw[List.getElem?_map]at Q
      cases J:I.toList[k]? with
      |none=>rw[J]at G;cases G
      |some y=>
       rw[J]at G Q;cases G;cases Q;refine⟨rfl,mU (z y.2 ?_) (List.all_eq_true.1 (List.all_eq_true.1 U y (List.mem_of_getElem? J)))⟩;have:=List.mem_of_getElem? J;simp[Op.operands];exact⟨y.1,by simpa using this⟩
     exact⟨_,.agg us,rfl,run_build w t _ us h1,qb (.agg _ _ h2 h3)⟩
   ·cases h
  ·cases h
 case h_17 t al I=>
  split at h
  ·rename_i U;split at h
   ·rename_i es hb;cases h;intro κ L a w D z
    obtain⟨e,sz,us,h1,an,hl,h2,h3,h4,h5⟩:=wE (A:=MA κ.M fr L) (L:=L) (w:=w) hb (vs:=(I.map fun(i,x)=>(i,a.eval x)).toList) (by simp) fun k p q Q G=>by
      rw[Array.toList_map,List.getElem?_map]at G;rw[List.getElem?_map]at Q
      cases J:I.toList[k]? with
      |none=>rw[J]at G;cases G
      |some y=>
       rw[J]at G Q;cases G;cases Q;refine⟨rfl,mU (bG (z y.2 ?_)) (List.all_eq_true.1 (List.all_eq_true.1 U y (List.mem_of_getElem? J)))⟩;have:=List.mem_of_getElem? J;simp[Op.operands];exact⟨y.1,by simpa using this⟩
    have ad:Below w.heap.size w (w.alloc (.cells us e)):=(Below.refl _ _).alloc (Nat.le_refl _) _;refine .gb (oX rfl h1) ⟨ad,?_⟩;rw[<- h3];refine .tc es _ ?_;rcases Nat.eq_zero_or_pos al with h0|h0
    ·subst h0;rw[List.eq_nil_of_length_eq_zero h3];exact .bj _ _
    ·refine .arr _ 0 es.length sz es (fun k j=>us.getD (k*sz+j) undef) (by intro h;rw[h]at h3;simp at h3;omega) (by omega) (Nat.le_refl _) (by simp) D.yD h4 (fun k j Q hj=>?_) (fun k j cs x Q hj=>?_)
     ·have ag:k*sz+j <us.size:=by
       rw[h2,<- h3];have:(k+1)*sz<=es.length*sz:=Nat.mul_le_mul_right _ Q;rw[Nat.add_mul]at this;omega
      simp[ag]
     ·obtain⟨u,h6,h7⟩:=h5 k j cs x Q hj;rw[Array.getD_eq_getD_getElem?,h6];exact h7.later ad
   ·cases h
  ·cases h
 case h_18 c=>
  obtain⟨af,⟨am⟩,tys⟩:=c;simp only at h;unfold oL at h;split at h
  ·rename_i _ b y;split at h
   ·exact fun κ L a w D z=>by
     obtain⟨u,h1,h2⟩:=EX (ty:=ty) (tys:=tys) D rfl h (bG (z y (by simp[Op.operands,Call.operands])));exact .value (v:=u) (by simp only[execOp,resolve,invoke,builtin,Sem.run_bind,Sem.run_pure,Result.andThen_ok,List.map_toArray,List.map_cons,List.map_nil,h1]) ⟨Below.refl _ _,h2⟩
   ·cases h
  ·rename_i _ b p q;split at h
   ·rename_i m n hm hn;split at h
    ·cases h
     exact fun κ L a w D z=>by
      have h1:=bG (z p (by simp[Op.operands,Call.operands]));have h2:=bG (z q (by simp[Op.operands,Call.operands]));rw[hm]at h1;rw[hn]at h2;have h1:=dK h1;have h2:=dK h2
      have hm:(Builtin.max_ tys ty #[.int .i64 m,.int .i64 n]).run P w=.ok (.int .i64 (max m n)) w:=by
       rw[run_max_int2];congr 2;split <;>omega
      exact .value (v:=.int .i64 (max m n)) (by simp only[execOp,resolve,invoke,builtin,Sem.run_bind,Sem.run_pure,Result.andThen_ok,List.map_toArray,List.map_cons,List.map_nil,h1,h2,hm]) ⟨Below.refl _ _,.t _ _ (.int _ _)⟩
    ·cases h
     exact fun κ L a w D z=>by
      have h1:=bG (z p (by simp[Op.operands,Call.operands]));have h2:=bG (z q (by simp[Op.operands,Call.operands]));rw[hm]at h1;rw[hn]at h2;have h1:=dK h1;have h2:=dK h2
      have hm:(Builtin.min_ tys ty #[.int .i64 m,.int .i64 n]).run P w=.ok (.int .i64 (min m n)) w:=by
       rw[run_min_int2];congr 2;split <;>omega
      exact .value (v:=.int .i64 (min m n)) (by simp only[execOp,resolve,invoke,builtin,Sem.run_bind,Sem.run_pure,Result.andThen_ok,List.map_toArray,List.map_cons,List.map_nil,h1,h2,hm]) ⟨Below.refl _ _,.t _ _ (.int _ _)⟩
    ·cases h
   ·cases h
  ·cases h
 case h_19 ao aq y=>
  exact fF fun κ L a w D z=>by
           obtain⟨u,h1,h2⟩:=CS h (z y (by simp[Op.operands]));exact⟨_,u,rfl,h1,h2⟩
 case h_20=>cases h
end
def pK:Lb->Lb
 | .box _ T cs=>.box true T cs
 | .row _ tch sz es=>.row true tch sz es
 | .map _ ks vs=>.map true ks vs
 | .own _ x=>.own true x
def b6:Lb->Lb
 | .row ro _ sz es=>.row ro false sz es
 |b=>b
def bi(l:List Nat)(i:Nat):Bool:=l.any (Nat.beq i)
def kY:Bool->Lb->Lb
 |true,b=>pK b
 |false,b=>b
def kX(l:List Nat):Nat->Fr->Fr
 |_,[]=>[]
 |k,b::r=>kY (bi l k) b::kX l (k+1) r
def freeze(fr:Fr)(l:List Nat):Fr:=match l with
 |[]=>fr
 |_=>kX l 0 fr
def cM(ks:List Nat)(i:Nat):Option Nat:=match bi ks i with|true=>none|false=>some i
def cF(ks:List Nat)(env:Env):Env:=match ks with
 |[]=>env
 |_=>fun t=>(env t).sub (cM ks)
def dw(ks:List Nat)(fr:Fr):Fr:=match ks with
 |[]=>fr
 |_=>fr.map (Lb.sub (cM ks))
def iV(h:Nat)(i:Nat):Option Nat:=match Nat.blt i h with|true=>some i|false=>none
def trim(h:Nat)(fr:Fr):Fr:=match Nat.ble fr.length h with
 |true=>fr
 |false=>(fr.take h).map (Lb.sub (iV h))
def aT(u:List Nat)(i:Nat):Option Nat:=u.findIdx? (Nat.beq i)
def bR:List Nat->List Nat->List Nat
 |u,[]=>u
 |u,i::r=>match bi u i with
  |true=>bR u r
  |false=>bR (u++[i]) r
mutual
def kG(fr:Fr):Nat->SV->List Nat
 |0,_=>[]
 |n+1,s=>match s with
  | .ls i=>[i]
  | .lv i _ _ _=>[i]
  | .lo i _=>[i]
  | .lm i=>match fr[i]? with
   |some (.map _ _ vs)=>i::lg fr n vs
   |_=>[i]
  | .lp i j=>match fr[i]? with
   |some (.box _ _ u)=>i::lg fr n (u.drop j)
   |_=>[i]
  | .agg u=>lg fr n u
  | .aL u=>lg fr n u
  | .fn _ _ u=>lg fr n u
  |_=>[]
def lg(fr:Fr):Nat->List SV->List Nat
 |0,_=>[]
 |_+1,[]=>[]
 |n+1,c::u=>kG fr n c++lg fr n u
end
def deep:Nat:=60
def bZ(fr:Fr):List SV->Option (List AV)
 |[]=>some []
 |c::u=>match fJ fr deep c with
  |none=>none
  |some x=>match bZ fr u with
   |none=>none
   |some xs=>some (x::xs)
def bg(fr:Fr):List SV->List Nat
 |[]=>[]
 |c::u=>kG fr deep c++bg fr u
mutual
def j6:AV->Bool
 | .int ..|.bool _|.str _|.lit _|.gI=>true
 | .agg u=>o6 u
 | .aL u=>o6 u
 |_=>false
def o6:List AV->Bool
 |[]=>true
 |c::u=>j6 c&&o6 u
end
mutual
def cI:SV->Bool
 | .t x=>j6 x
 | .nil=>true
 | .agg u=>o7 u
 | .aL u=>o7 u
 |_=>false
def o7:List SV->Bool
 |[]=>true
 |c::u=>cI c&&o7 u
end
def mi:AV->Bool
 | .agg _|.aL _=>false
 |_=>true
def cP(sz:Nat)(es:List (List AV)):Bool:=es.all fun u=>Nat.beq u.length sz&&u.all mi
def bD(n u:Nat):Bool:=Nat.ble n 140737488351232&&Nat.ble (n*u) 140737488355328
def iX(cs:List AV)(j:Nat):List AV->List AV
 |[]=>cs
 |x::xs=>iX (cs.set j x) (j+1) xs
abbrev cT:=SV×Fr×List Nat
def Ar(fr:Fr)(i:Nat)(p:List Nat)(k:Nat)(val:SV):Option cT:=match fr[i]? with
 |some (.own false x)=>match gX x p with
  |some (.arr u)=>match u[k]?,val with
   |some [.int k1 _],.t (.int k2 m)=>if k1=k2 then some (.dead,fr.set i (.own false (setAt x p k (.int k2 m))),[])else none
   |_,_=>none
  |_=>none
 |_=>none
def fW(P:Program)(fr:Fr)(t:Nat)(D val:SV):Option cT:=match bm P t with
 |none=>none
 |some (_,n)=>match(bo val).all cQ&&Nat.beq (bo val).length n with
  |false=>none
  |true=>match D with
   | .lp i j=>match fr[i]? with
    |some (.box false T u)=>match Nat.ble (j+n) u.length with
     |true=>some (.dead,fr.set i (.box false T (gP u j (bo val))),[])
     |false=>none
    |_=>none
   | .le i sz k j=>match fr[i]? with
    |some (.row false y v z)=>match Nat.beq sz v with
     |false=>none
     |true=>match z[k]? with
      |none=>none
      |some u=>match Nat.ble (j+n) u.length with
       |false=>none
       |true=>match bZ fr (bo val)with
        |none=>none
        |some xs=>match bi (bg fr (bo val)) i with
         |true=>none
         |false=>some (.dead,(freeze fr (bg fr (bo val))).set i (.row false y sz (z.set k (iX u j xs))),[])
    |_=>none
   | .lr i p k=>Ar fr i p k val
   |_=>none
def oI(P:Program)(fr:Fr)(t:Nat)(s x:SV):Option cT:=match iC P t with
 |none=>none
 |some (_,sz,by_)=>match gT fr x with
  |none=>none
  |some u=>match cP sz u with
   |false=>none
   |true=>match s with
    | .ls i=>match fr[i]? with
     |some (.row false _ sz' v)=>match Nat.beq sz sz'&&bD (v.length+u.length) by_ with
      |true=>some (.ls i,(dw [i] fr).set i (.row false true sz (v++u)),[i])
      |false=>none
     |_=>none
    | .lv i dG 0 n=>match fr[i]? with
     |some (.row false _ sz' v)=>match Nat.beq sz sz'&&(Nat.beq dG sz&&(Nat.ble n v.length&&bD (n+u.length) by_))with
      |true=>some (.ls i,(dw [i] fr).set i (.row false true sz (v.take n++u)),[i])
      |false=>none
     |_=>none
    | .nil=>match bD u.length by_ with
     |true=>some (.ls fr.length,fr++[.row false false sz u],[])
     |false=>none
    | .tc []=>match bD u.length by_ with
     |true=>some (.ls fr.length,fr++[.row false false sz u],[])
     |false=>none
    | .tc (e::v)=>match u with
     |c::y=>match cP sz (e::v)&&bD ((e::v).length+(c::y).length) by_ with
      |true=>some (.ls fr.length,fr++[.row false false sz ((e::v)++(c::y))],[])
      |false=>none
     |[]=>none
    |_=>none
def j0(fr:Fr)(zs:List AV)(r sz a n:Nat):Option cT:=match fr[r]? with
 |some (.row false y v u)=>match Nat.beq sz v&&Nat.ble (a+n) u.length with
  |true=>some (.dead,fr.set r (.row false y sz (u.take a++List.replicate n zs++u.drop (a+n))),[])
  |false=>none
 |_=>none
def lM(P:Program)(fr:Fr)(t:Nat)(x:SV):Option cT:=match P.underlying t with
 |some (.slice e)=>match P.info? e with
  |some i=>match i.zero with
   |some z=>match e7 (z.cells.toList.map cv)with
    |some u=>match decide (z.cells.size=i.size/\0 <i.size)&&cP i.size [u]with
     |true=>match x with
      | .nil=>some (.dead,fr,[])
      | .t (.arr [])=>some (.dead,fr,[])
      | .lv r sz a n=>match Nat.beq sz i.size with
       |true=>j0 fr u r sz a n
       |false=>none
      | .ls r=>match fr[r]? with
       |some (.row _ _ _ es)=>j0 fr u r i.size 0 es.length
       |_=>none
      |_=>none
     |false=>none
    |none=>none
   |none=>none
  |none=>none
 |_=>none
def mW(fr:Fr)(zs:List (List AV))(r sz a n:Nat):Option cT:=match fr[r]? with
 |some (.row false y v u)=>match Nat.beq sz v&&Nat.ble (a+n) u.length with
  |true=>some (.t (.int .i64 ((Nat.min zs.length n:Nat):Int)),fr.set r (.row false y sz (u.take a++zs.take n++u.drop (a+Nat.min zs.length n))),[])
  |false=>none
 |_=>none
def qq(P:Program)(fr:Fr)(t:Nat)(x y:SV):Option cT:=match iC P t with
 |none=>none
 |some (_,sz,_)=>match gT fr y with
  |none=>none
  |some v=>match cP sz v with
   |false=>none
   |true=>match x with
    | .lv r u a n=>match Nat.beq u sz with
     |true=>mW fr v r sz a n
     |false=>none
    | .ls r=>match fr[r]? with
     |some (.row _ _ _ es)=>mW fr v r sz 0 es.length
     |_=>none
    |_=>none
def ky(P:Program)(fr:Fr)(t:Nat)(l c:SV):Option cT:=match P.underlying t with
 |some (.slice e)=>match P.info? e with
  |some i=>match i.zero with
   |some z=>match e7 (z.cells.toList.map cv),decide (z.cells.size=i.size/\0 <i.size)with
    |some u,true=>match l,c with
     | .t (.int .i64 m),.t (.int .i64 n)=>match decide (0<=m)&&decide (m<=n)&&Nat.ble (n.toNat*i.bytes) 281474976710656&&Nat.ble n.toNat 140737488351232 with
      |true=>some (.ls fr.length,fr++[.row false false i.size (List.replicate m.toNat u)],[])
      |false=>none
     |_,_=>none
    |_,_=>none
   |none=>none
  |none=>none
 |_=>none
def pq(P:Program)(fr:Fr)(t:Nat)(l c:SV):Option cT:=match ky P [] t l c with
 |some (_,[.row _ _ _ es],_)=>some (.t (.arr es),fr,[])
 |_=>none
def qW:TypeDesc->AV->Bool
 | .int _,.int _ _=>true
 | .bool,.bool _=>true
 | .string,.str _=>true
 |_,_=>false
def fU:List AV->List AV->Bool
 |[],[]=>true
 | .int k m::xs,.int j n::u=>decide (k=j)&&(decide (m=n)&&fU xs u)
 | .bool a::xs,.bool b::u=>(a==b)&&fU xs u
 | .str a::xs,.str b::u=>decide (a=b)&&fU xs u
 |_,_=>false
def qS(P:Program)(fr:Fr)(t:Nat)(m k x:SV):Option cT:=match la P t with
 |none=>none
 |some (_,kt,n)=>match m,k with
  | .lm i,.t (.agg u)=>match fr[i]? with
   |some (.map false ks v)=>match Nat.beq u.length n with
    |false=>none
    |true=>match fx P kt u ks 0 with
     |none=>none
     |some (some j)=>match ks[j]? with
      |some (.agg ds)=>match fU u ds with
       |true=>some (.dead,fr.set i (.map false ks (v.set j x)),[])
       |false=>none
      |_=>none
     |some none=>some (.dead,fr.set i (.map false (ks++[.agg u]) (v++[x])),[])
   |_=>none
  |_,_=>none
def nq(P:Program)(fr:Fr)(t:Nat)(m k x:SV):Option cT:=match iy P t with
 |none=>qS P fr t m k x
 |some (_,d)=>match m,k with
  | .lm i,.t u=>match fr[i]? with
   |some (.map false ks v)=>match qW d u with
    |false=>none
    |true=>match dY d u ks 0 with
     |none=>none
     |some (some j)=>some (.dead,fr.set i (.map false ks (v.set j x)),[])
     |some none=>some (.dead,fr.set i (.map false (ks++[u]) (v++[x])),[])
   |_=>none
  |_,_=>none
def tF(P:Program)(fr:Fr)(t:Nat)(m k:SV):Option cT:=match iy P t with
 |none=>none
 |some (_,d)=>match m,k with
  | .lm i,.t u=>match fr[i]? with
   |some (.map false ks v)=>match dY d u ks 0 with
    |none=>none
    |some (some j)=>some (.dead,fr.set i (.map false (ks.eraseIdx j) (v.eraseIdx j)),[])
    |some none=>some (.dead,fr,[])
   |_=>none
  |_,_=>none
inductive Out where
 |normal
 |exit (id:Nat)
 |ret
abbrev CallF:=Nat->List SV->Fr->Option (SV×Fr)
abbrev LoopF:=Nat->Code->Env->Fr->Option (Out×Env×Fr)
structure Cfg where
 P:Program
 ok:Nat->Bool
 ext:Nat->List AV->Option (SV×Fr)
 lv:Nat->Nat->Option (List Nat)
 own:Nat->Nat->List (Nat×Nat)
 eff:Nat->Nat->List Nat
 hand:Nat->Nat->Bool
 /-- What an iterator yields (its captured trees): the tuples;whether these are all. -/
 seq:Nat->List AV->Option (List (List AV)×Bool):=fun _ _=>none
 /-- What a function answers,and makes of own blocks that it gets (contracts that are proved elsewhere). -/
 exh:Nat->List SV->Fr->Option (SV×Fr):=fun _ _ _=>none
 /-- Functions whose answers are told as trees. -/
 tre:Nat->Bool:=fun _=>false
def D2:SV->Bool
 | .lp _ _=>true
 | .le _ _ _ _=>true
 |_=>false
def aK(g:Cfg)(f:Nat):Nat->List SV->List Bool
 |_,[]=>[]
 |k,s::r=>(D2 s ||g.hand f k)::aK g f (k+1) r
def rH(fr:Fr):List Nat->List Nat
 |[]=>[]
 |i::r=>(match fr[i]? with|some b=>b.refs|none=>[])++rH fr r
def close(fr:Fr):Nat->List Nat->List Nat
 |0,l=>l
 |n+1,l=>close fr n (bR l (rH fr l))
def du:List Bool->List SV->List Nat
 |true::bs,s::r=>s.refs++du bs r
 |false::bs,_::r=>du bs r
 |_,_=>[]
def a8:List Bool->List SV->List SV
 |false::bs,s::r=>s::a8 bs r
 |true::bs,_::r=>a8 bs r
 |_,_=>[]
def cy(σ:Nat->Option Nat):List Bool->List SV->List AV->List SV
 |true::bs,s::r,xs=>s.sub σ::cy σ bs r xs
 |false::bs,_::r,x::xs=>.t x::cy σ bs r xs
 |_,_,_=>[]
def cJ(fr:Fr):List Nat->Option Fr
 |[]=>some []
 |i::r=>match fr[i]? with
  |none=>none
  |some b=>match cJ fr r with
   |none=>none
   |some l=>some (b::l)
def kD:Option Lb->Lb->Lb
 |some (.row _ true _ _),.row ro _ sz es=>.row ro true sz es
 |_,b=>b
def kq(τ:Nat->Option Nat):List Nat->Fr->Fr->Fr
 |i::hs,b::bs,fr=>kq τ hs bs (fr.set i (kD fr[i]? (b.sub τ)))
 |_,_,fr=>fr
def cA:List Nat->Fr->List Nat
 |i::hs,b::bs=>match b.tch with
  |true=>i::cA hs bs
  |false=>cA hs bs
 |_,_=>[]
def iM(hs:List Nat):Fr->Bool
 |[]=>true
 |b::r=>b.refs.all (bi hs)&&iM hs r
def cC(hs:List Nat)(n i:Nat):Option Nat:=match hs[i]? with
 |some j=>some j
 |none=>some (n+(i - hs.length))
def back(hs:List Nat)(fr1 fr':Fr):Fr:=kq (cC hs fr1.length) hs fr' (dw (cA hs fr') fr1)++(fr'.drop hs.length).map fun b=>b6 (b.sub (cC hs fr1.length))
def kindOk:List Nat->Fr->Fr->Bool
 |i::hs,b::bs,fr=>(match fr[i]?,b with
  |some (.row _ true _ _),.row _ _ _ _=>true
  |some (.row _ true _ _),_=>false
  |_,_=>true)&&kindOk hs bs fr
 |_,_,_=>true
def o_(fr:Fr)(u:List Nat):Bool:=u.all fun i=>match fr[i]? with
 |some b=>b.ro
 |none=>true
def fu(g:Cfg)(C:CallF)(u:Bool)(fr:Fr)(f:Nat)(args:List SV):Option cT:=
 match bZ fr (a8 (aK g f 0 args) args)with
 |none=>none
 |some xs=>match bR [] (du (aK g f 0 args) args)with
  |[]=>match C f (cy (aT []) (aK g f 0 args) args xs) []with
   |none=>none
   |some (r,v)=>match cI r with
    |true=>some (r,fr,[])
    |false=>match u with
     |false=>some (r.sub (cC [] fr.length),freeze fr (bg fr (a8 (aK g f 0 args) args))++v.map (fun b=>b6 (b.sub (cC [] fr.length))),[])
     |true=>match o_ fr (bg fr (a8 (aK g f 0 args) args))with
      |true=>match r.refs with
       |[]=>some (r,fr,[])
       |_=>match fJ v deep r with
        |some x=>some (.t x,fr,[])
        |none=>none
      |false=>none
  |y::z=>match u with
   |true=>none
   |false=>
    let hs:=close fr 4 (y::z)
    let fr1:=freeze fr (bg fr (a8 (aK g f 0 args) args))
    match cJ fr1 hs with
    |none=>none
    |some bs=>match iM hs bs with
     |false=>none
     |true=>match C f (cy (aT hs) (aK g f 0 args) args xs) (bs.map fun b=>b6 (b.sub (aT hs)))with
      |none=>none
      |some (r,fr')=>match kindOk hs fr' fr1 with
       |false=>none
       |true=>some (r.sub (cC hs fr.length),back hs fr1 fr',cA hs fr')
def c8:SV->Option (Nat×List SV×List SV)
 | .t (.fn (.func f) v u)=>some (f,(u.take v).map .t,(u.drop v).map .t)
 | .fn (.func f) v u=>some (f,u.take v,u.drop v)
 |_=>none
def jY(g:Cfg)(C:CallF)(u:Bool)(env:Env)(fr:Fr)(c:Operand)(args:List Operand):Option cT:=match c8 (rd env c)with
 |none=>none
 |some (f,a,b)=>fu g C u fr f (a++args.map (rd env)++b)
def fA:Op->Bool
 | .alloc _|.box ..|.store ..|.makeSlice ..|.makeMap ..|.insert ..|.mapUpdate ..=>true
 | .buildSlice _ 0 _=>true
 | .call ⟨.value _,_,_⟩=>true
 | .call ⟨.builtin .append,_,_⟩=>true
 | .call ⟨.builtin .clear,_,_⟩=>true
 | .call ⟨.builtin .delete,_,_⟩=>true
 | .call ⟨.builtin .copy,_,_⟩=>true
 |_=>false
def bu(g:Cfg)(C:CallF)(I:Bool)(env:Env)(fr:Fr):Op->Option cT:=fun op=>match op with
 | .alloc T=>match kK g.P T with
  |some J=>some (.lp fr.length 0,fr++[.box false T J],[])
  |none=>none
 | .box T x=>match(bo (rd env x)).all cQ with
  |true=>some (.lp fr.length 0,fr++[.box false T (bo (rd env x))],[])
  |false=>none
 | .store t a x=>fW g.P fr t (rd env a) (rd env x)
 | .makeSlice t l c=>match I with
  |true=>pq g.P fr t (rd env l) (rd env c)
  |false=>ky g.P fr t (rd env l) (rd env c)
 | .makeMap _ none=>some (.lm fr.length,fr++[.map false [] []],[])
 | .insert t m k x=>nq g.P fr t (rd env m) (rd env k) (rd env x)
 | .mapUpdate t m k x=>nq g.P fr t (rd env m) (rd env k) (rd env x)
 | .buildSlice t G D=>match G,D.toList with
  |0,[]=>match iC g.P t with
   |some (_,sz,_)=>some (.ls fr.length,fr++[.row false false sz []],[])
   |none=>none
  |_,_=>none
 | .call ⟨.value c,v,_⟩=>jY g C I env fr c v.toList
 | .call ⟨.builtin .append,v,z⟩=>match v.toList,z.toList with
  |[s,x],[t,u]=>match Nat.beq t u with
   |true=>oI g.P fr t (rd env s) (rd env x)
   |false=>none
  |_,_=>none
 | .call ⟨.builtin .clear,v,z⟩=>match v.toList,z.toList with
  |[x],[t]=>lM g.P fr t (rd env x)
  |_,_=>none
 | .call ⟨.builtin .delete,v,z⟩=>match v.toList,z.toList with
  |[m,k],[t,_]=>tF g.P fr t (rd env m) (rd env k)
  |_,_=>none
 | .call ⟨.builtin .copy,v,z⟩=>match v.toList,z.toList with
  |[x,y],[t,_]=>qq g.P fr t (rd env x) (rd env y)
  |_,_=>none
 |_=>none
def pV(fr:Fr):Option SV->Option cT
 |some x=>some (x,fr,[])
 |none=>none
def iF:List Operand->List Nat
 |[]=>[]
 | .tmp t::r=>t::iF r
 |_::r=>iF r
def ol(env:Env):List Nat->List AV->Env
 |t::u,x::xs=>cB (ol env u xs) t (.t x)
 |_,_=>env
def tZ(P:Program)(env:Env)(fr:Fr)(op:Op):Option cT:=match op with
 | .buildSlice _ _ parts=>match bZ fr ((iF (parts.toList.map (·.2))).map fun t=>un (env t))with
  |none=>none
  |some xs=>pV (freeze fr (bg fr ((iF (parts.toList.map (·.2))).map fun t=>un (env t)))) (bt P (freeze fr (bg fr ((iF (parts.toList.map (·.2))).map fun t=>un (env t)))) (ol env (iF (parts.toList.map (·.2))) xs) op)
 |_=>none
def bJ(g:Cfg)(C:CallF)(env:Env)(fr:Fr)(op:Op):Option cT:=match fA op with
 |true=>bu g C false env fr op
 |false=>match bt g.P fr env op with
  |some x=>some (x,fr,[])
  |none=>tZ g.P env fr op
def jE:Op->Bool
 | .makeSlice ..=>true
 | .call ⟨.value _,_,_⟩=>true
 |_=>false
def eX(g:Cfg)(C:CallF)(env:Env)(fr:Fr)(op:Op):Option cT:=match jE op with
 |true=>bu g C true env fr op
 |false=>pV fr (bt g.P fr env op)
def step(g:Cfg)(C:CallF)(d:Option (List Nat))(i:Nat)(env:Env)(fr:Fr)(op:Op):Option cT:=match d with
 |none=>bJ g C env fr op
 |some effs=>match bi effs i with
  |true=>bJ g C env fr op
  |false=>eX g C env fr op
def cH(g:Cfg)(C:CallF)(d:Option (List Nat))(ops:Array Oper):Nat->List Oper->Env->Fr->Option (Env×Fr)
 |_,[],env,fr=>some (env,fr)
 |i,o::r,env,fr=>match o.guard with
  |none=>match step g C d i env fr o.op with
   |some (x,fr',ks)=>cH g C d ops (i+1) r (aD (cF ks env) o.dst x) fr'
   |none=>none
  |some (j,u)=>match db ops env j u with
   |none=>none
   |some true=>match step g C d i env fr o.op with
    |some (x,fr',ks)=>cH g C d ops (i+1) r (aD (cF ks env) o.dst (.aN x)) fr'
    |none=>none
   |some false=>cH g C d ops (i+1) r (aD env o.dst .no) fr
def pP(op:Op):List Nat:=op.operands.toList.filterMap fun|.tmp t=>some t|_=>none
def eI:SV->Bool
 | .t _=>true
 |_=>false
def b_(env:Env):Op->Option (List Nat)
 | .move _=>some []
 | .assign _=>some []
 | .fieldAddr ..=>some []
 | .nilCheck _=>some []
 | .unOp ..=>some []
 | .convert ..=>some []
 | .extract ..=>some []
 | .binOp _ _ x _ _=>match rd env x with
  | .ls _=>none
  |_=>some []
 | .index ..=>some []
 | .pick ..=>some []
 | .build ..=>some []
 | .makeFunc ..=>some []
 | .makeSlice ..=>some []
 | .buildSlice ..=>some []
 | .call ⟨.builtin .len,args,_⟩=>match(args.toList.map (rd env)).all eI with
  |true=>some []
  |false=>none
 | .call ⟨.value c,args,_⟩=>match c8 (rd env c)with
  |some (_,pa,qa)=>match(pa++args.toList.map (rd env)++qa).all eI with
   |true=>some []
   |false=>none
  |none=>none
 | .load _ y=>match rd env y with
  | .lp i _=>some [i]
  | .le i _ _ _=>some [i]
  | .lr ..=>none
  |_=>some []
 | .indexAddr _ x _=>match rd env x with
  | .ls i=>some [i]
  | .lv ..=>none
  | .lo ..=>none
  |_=>some []
 |_=>none
def eD(env:Env):Op->Option (List Nat)
 | .alloc _=>some []
 | .box ..=>some []
 | .makeSlice ..=>some []
 | .store _ a x=>match rd env a with
  | .lp i _=>some [i]
  | .le i _ _ _=>match(bo (rd env x)).all eI with
   |true=>some [i]
   |false=>none
  |_=>none
 | .call ⟨.builtin .copy,args,_⟩=>match args.toList with
  |[x,_]=>match rd env x with
   | .ls i=>some [i]
   | .lv i _ _ _=>some [i]
   |_=>none
  |_=>none
 | .call ⟨.value c,args,_⟩=>match c8 (rd env c)with
  |some (_,pa,qa)=>match(pa++args.toList.map (rd env)++qa).all eI with
   |true=>some []
   |false=>none
  |none=>none
 |_=>none
def qt:Option (List Nat)->Option (List Nat)->Bool
 |some w,some r=>w.all fun i=>!bi r i
 |_,_=>false
def ll(ops:Array Oper)(op:Op)(j m:Nat):Bool:=(List.range m).all fun q=>Nat.blt q j ||match ops[q]? with
 |some u=>match u.dst with
  |some d=>!bi (pP op) d
  |none=>true
 |none=>true
def qF(effs:List Nat)(ops:Array Oper)(env:Env)(m j:Nat):Bool:=match ops[j]?,ops[m]? with
 |some u,some om=>match bi effs j,bi effs m with
  |true,false=>((Region.before ops).getD m 0).testBit j ||(ll ops u.op j m&&qt (eD env u.op) (b_ env om.op))
  |false,true=>((Region.before ops).getD m 0).testBit j ||(ll ops u.op j m&&qt (eD env om.op) (b_ env u.op))
  |_,_=>true
 |_,_=>true
def o8(effs:List Nat)(ops:Array Oper)(env:Env)(m:Nat):Bool:=(List.range m).all (qF effs ops env m)
def ei(g:Cfg)(C:CallF)(effs:List Nat)(ops:Array Oper):Nat->List Oper->Env->Fr->Option (Env×Fr)
 |_,[],env,fr=>some (env,fr)
 |i,o::r,env,fr=>match o8 effs ops env i with
  |false=>none
  |true=>match o.guard with
   |none=>match step g C (some effs) i env fr o.op with
    |some (x,fr',[])=>ei g C effs ops (i+1) r (aD env o.dst x) fr'
    |_=>none
   |some (j,u)=>match db ops env j u with
    |none=>none
    |some true=>match step g C (some effs) i env fr o.op with
     |some (x,fr',[])=>ei g C effs ops (i+1) r (aD env o.dst (.aN x)) fr'
     |_=>none
    |some false=>ei g C effs ops (i+1) r (aD env o.dst .no) fr
def lS(l:List Nat):Nat:=match bi l 1000001 with
 |true=>2
 |false=>match bi l 1000000 with
  |true=>1
  |false=>match bi l 1000004 with
   |true=>5
   |false=>match bi l 1000002 with
   |true=>3
   |false=>match bi l 1000003 with
    |true=>4
    |false=>0
def ux:List Nat->Nat
 |[]=>0
 |k::r=>match Nat.ble 2000000 k with
  |true=>k - 2000000
  |false=>ux r
def nl(l:List Nat):List Nat:=l.filter fun k=>Nat.blt k 1000000
def th:Lb->Bool
 | .box _ _ cs=>cs.all eI
 |_=>false
def lT(u:Nat)(ds:List Nat)(e:Env)(r:Fr):Bool:=(r.drop u).all th&&ds.all fun d=>(e d).refs.all fun i=>Nat.blt i u
def tN(l:List Oper):List Nat:=l.filterMap (·.dst)
def lU(g:Cfg)(C:CallF)(effs:List Nat)(ops:Array Oper)(env:Env)(fr:Fr):Option (Env×Fr):=match effs with
 |[]=>none
 |N::_=>match ei g C effs ops 0 ops.toList env fr with
  |none=>none
  |some (e,r)=>match lT fr.length (tN (ops.toList.take N)) e r with
   |true=>some (e,r)
   |false=>none
def qV(ks:List Nat)(x:SV):Bool:=x.refs.all fun r=>!bi ks r
def pd(ks:List Nat)(b:Lb):Bool:=b.refs.all fun r=>!bi ks r
def mo(ops:Array Oper)(o:Oper):List Nat:=pP o.op++(o.dst.toList++o.after.toList.filterMap fun e=>match ops[e.on]? with
 |some u=>u.dst
 |none=>none)
def qU:Op->Bool
 | .call ⟨.builtin .append,_,_⟩=>true
 |_=>false
def nu(effs:List Nat)(ops:Array Oper)(m:Nat)(env:Env)(fr:Fr)(om:Oper)(ks:List Nat):Bool:=bi effs m&&(qU om.op&&((effs.all fun e=>Nat.ble e m ||Nat.ble ops.size e)&&(List.range ops.size).all fun i=>Nat.beq i m ||match Nat.blt i m with
 |false=>((Region.before ops).getD i 0).testBit m
 |true=>((Region.before ops).getD m 0).testBit i ||match ops[i]? with
  |some o=>!bi effs i&&(ll ops o.op i m&&((mo ops o).all (fun t=>qV ks (env t))&&match b_ env o.op with
   |some v=>v.all fun b=>!bi ks b&&match fr[b]? with
    |some u=>pd ks u
    |none=>true
   |none=>false))
  |none=>true))
def qY(fr:Fr)(ks:List Nat)(x:SV):Bool:=x.refs.all fun b=>bi ks b ||Nat.ble fr.length b
def lV(g:Cfg)(C:CallF)(m:Nat)(effs:List Nat)(ops:Array Oper)(env:Env)(fr:Fr):Option (Env×Fr):=match ei g C effs ops 0 (ops.toList.take m) env fr with
 |none=>none
 |some (e,r)=>match ops.toList.drop m with
  |[]=>none
  |o::l=>match o.guard with
   |some _=>none
   |none=>match bJ g C e r o.op with
    |none=>none
    |some (x,u,ks)=>match(nu effs ops m e r o ks&&qY r ks x)with
     |true=>ei g C effs ops (m+1) l (aD (cF ks e) o.dst x) (freeze u x.refs)
     |false=>none
def tT(P:Program)(env:Env)(fr:Fr)(op:Op):Option (SV×Fr):=match op with
 | .buildSlice t v u=>match(u.toList.all fun p=>(bo (rd env p.2)).all cQ)with
  |true=>match oK P t v (u.toList.map fun p=>(p.1,rd env p.2))with
   |some (c::y)=>some (.ls fr.length,fr++[.row false false c.length (c::y)])
   |_=>none
  |false=>none
 |_=>none
def oW(g:Cfg)(C:CallF)(k:Nat)(ops:Array Oper)(env:Env)(fr:Fr):Option (Env×Fr):=match cH g C none ops 0 (ops.toList.take k) env fr with
 |none=>none
 |some (e,r)=>match ops.toList.drop k with
  |[]=>none
  |o::l=>match o.guard with
   |some _=>none
   |none=>match tT g.P e r o.op with
    |none=>none
    |some (x,u)=>cH g C none ops (k+1) l (aD e o.dst x) u
def ju(g:Cfg)(f:Nat)(C:CallF)(id:Nat)(ops:Array Oper)(u:Bool)(env:Env)(fr:Fr):Option (Env×Fr):=match u with
 |false=>match g.eff f id with
  |[]=>cH g C none ops 0 ops.toList env fr
  |k::_=>oW g C k ops env fr
 |true=>match lS (g.eff f id)with
  |0=>cH g C (some (g.eff f id)) ops 0 ops.toList env fr
  |1=>ei g C (g.eff f id) ops 0 ops.toList env fr
  |4=>lU g C (nl (g.eff f id)) ops env fr
  |5=>lV g C (ux (g.eff f id)) (nl (g.eff f id)) ops env fr
  |_=>none
def dZ:List (Nat×SV)->Env
 |[]=>fun _=>.dead
 |(t,v)::r=>fun u=>match Nat.beq u t with
  |true=>v
  |false=>dZ r u
def ck:Code->Nat
 | .region i _ _=>i
 | .seq a _=>ck a
 | .block _ b=>ck b
 | .loop b=>ck b
 |_=>0
def rp(fr:Fr):SV->Option (Nat×TypeId)
 | .lp i 0=>match fr[i]? with
  |some (.box false T [.nil])=>some (i,T)
  |_=>none
 |_=>none
def rq(fr:Fr):List SV->Option (Nat×TypeId)
 |[]=>none
 |s::r=>match rp fr s with
  |some x=>some x
  |none=>rq fr r
def uR(fr:Fr):SV->Option (Nat×TypeId)
 | .fn _ _ cs=>rq fr cs
 |s=>rp fr s
def eM(u:List (Nat×Nat))(env:Env)(fr:Fr):Env×Fr:=match u with
 |[]=>(env,fr)
 |(t,sz)::r=>match Nat.beq sz 0 with
  |true=>match fJ fr deep (un (env t))with
   |some x=>eM r (cB env t (.t x)) (freeze fr (kG fr deep (un (env t))))
   |none=>eM r env fr
  |false=>match env t with
   | .nil=>eM r (cB env t (.ls fr.length)) (fr++[.row false false sz []])
   | .tc []=>eM r (cB env t (.ls fr.length)) (fr++[.row false false sz []])
   |s=>match uR fr s with
    |some (i,T)=>eM r env (fr.set i (.box false T [.ls fr.length])++[.row false false sz []])
    |none=>eM r env fr
def kV(fr:Fr)(h:Nat)(s:SV):SV:=match s.refs.any (Nat.ble h)with
 |false=>s.sub (iV h)
 |true=>match(kG fr deep s).all (Nat.ble h),fJ fr deep s with
  |true,some x=>.t x
  |_,_=>s.sub (iV h)
def il(l:List Nat)(h:Nat)(fr:Fr):Nat:=match bi l 1000000 with
 |true=>fr.length
 |false=>h
def DZ(l:List Nat)(fr:Fr):il l fr.length fr=fr.length:=by unfold il;split <;>rfl
def head(lv:Option (List Nat))(h:Nat)(env:Env)(fr:Fr):Env×Fr:=match lv with
 |none=>(env,fr)
 |some l=>(dZ (l.map fun t=>(t,kV fr (il l h fr) (un (env t)))),trim (il l h fr) fr)
def lh:List Nat->List AV->Env->Env
 |p::u,y::v,env=>lh u v (cB env p (.t y))
 |_,_,env=>env
def iZ(lv:Option (List Nat))(A B:Env->Fr->Option (Out×Env×Fr))(u:List Nat)(y:List AV)(env:Env)(fr:Fr):Option (Out×Env×Fr):=
 match Nat.beq y.length u.length with
 |false=>none
 |true=>match cJ fr (List.range fr.length)with
  |none=>none
  |some bs=>match A (lh u y fun t=>(env t).sub (aT (List.range fr.length))) (bs.map fun b=>b6 (b.sub (aT (List.range fr.length))))with
   |some (.normal,e,r)=>match B e r with
    |none=>none
    |some (o,_,r')=>match kindOk (List.range fr.length) r' fr with
     |false=>none
     |true=>match o with
      | .normal=>some (.normal,(head lv fr.length (cF (cA (List.range fr.length) r') env) (back (List.range fr.length) fr r')).1,(head lv fr.length (cF (cA (List.range fr.length) r') env) (back (List.range fr.length) fr r')).2)
      |o=>some (o,cF (cA (List.range fr.length) r') env,back (List.range fr.length) fr r')
   |_=>none
def iB(lv:Option (List Nat))(A B:Env->Fr->Option (Out×Env×Fr))(u:List Nat)(wh:Bool):List (List AV)->Env->Fr->Option (Out×Env×Fr)
 |[],env,fr=>match wh with
  |true=>some (.normal,env,fr)
  |false=>none
 |y::v,env,fr=>match iZ lv A B u y env fr with
  |some (.normal,e,r)=>iB lv A B u wh v e r
  |x=>x
def ba(g:Cfg)(f:Nat)(C:CallF)(Lp:LoopF):Code->Env->Fr->Option (Out×Env×Fr)
 | .skip,env,fr=>some (.normal,env,fr)
 | .region id ops u,env,fr=>match ju g f C id ops u env fr with
  |some (e,r)=>some (.normal,e,r)
  |none=>none
 | .seq a b,env,fr=>match ba g f C Lp a env fr with
  |some (.normal,e,r)=>ba g f C Lp b e r
  |x=>x
 | .cond c a b,env,fr=>match rd env c with
  | .t (.bool true)=>ba g f C Lp a env fr
  | .t (.bool false)=>ba g f C Lp b env fr
  |_=>none
 | .block id b,env,fr=>match ba g f C Lp b env fr with
  |some (.exit i,e,r)=>match Nat.beq i id with
   |true=>some (.normal,e,r)
   |false=>some (.exit i,e,r)
  |x=>x
 | .loop b,env,fr=>Lp f b (head (g.lv f (ck b)) (eM (g.own f (ck b)) env fr).2.length (eM (g.own f (ck b)) env fr).1 (eM (g.own f (ck b)) env fr).2).1 (head (g.lv f (ck b)) (eM (g.own f (ck b)) env fr).2.length (eM (g.own f (ck b)) env fr).1 (eM (g.own f (ck b)) env fr).2).2
 | .exit id,env,fr=>some (.exit id,env,fr)
 | .ret,env,fr=>some (.ret,env,fr)
 | .rangeFunc op D asg body,env,fr=>match c8 (rd env op)with
  |some (z,[],bs)=>match bZ fr bs with
   |none=>none
   |some y=>match g.seq z y with
    |none=>none
    |some (v,G)=>iB (g.lv f (ck body)) (ba g f C Lp asg) (ba g f C Lp body) D.toList G v env (freeze fr (bg fr bs))
  |_=>none
 |_,_,_=>none
mutual
def dp(fr:Fr):SV->SV
 | .ls i=>match fr[i]? with
  |some (.row true _ _ es)=>.t (.arr es)
  |_=>.ls i
 | .agg u=>match e7 (ja fr u)with
  |some xs=>.t (.agg xs)
  |none=>.agg (ja fr u)
 | .aL u=>.aL (ja fr u)
 | .fn f v u=>qG f v (ja fr u)
 | .aN s=>dp fr s
 |s=>s
def ja(fr:Fr):List SV->List SV
 |[]=>[]
 |c::u=>dp fr c::ja fr u
end
def yW(P:Program)(env:Env)(fr:Fr):Nat×Option Nat->Option SV
 |(t,none)=>some (env t)
 |(t,some T)=>eK P fr T (un (env t))
def pz(P:Program)(env:Env)(fr:Fr):List (Nat×Option Nat)->Option (List SV)
 |[]=>some []
 |r::u=>match yW P env fr r with
  |none=>none
  |some x=>match pz P env fr u with
   |none=>none
   |some xs=>some (x::xs)
def mj(P:Program)(env:Env)(fr:Fr)(u:List (Nat×Option Nat)):Option SV:=match pz P env fr u with
 |none=>none
 |some [x]=>some x
 |some xs=>some (.aL xs)
def inner(m:Nat)(fr:Fr):List Nat->List Nat
 |[]=>[]
 |i::r=>(match fr[i]? with
  |some (.box _ _ cs)=>(bg fr (cs.filter fun c=>c.refs.any fun k=>Nat.ble m k)).filter (Nat.ble m)
  |_=>[])++inner m fr r
def rJ(fr:Fr):List Nat->Bool
 |[]=>true
 |i::r=>match fr[i]? with
  |some b=>b.ro&&rJ fr r
  |none=>false
def ve(m:Nat)(fr:Fr)(c:SV):SV:=match c.refs.any fun k=>Nat.ble m k with
 |false=>c
 |true=>match fJ fr deep c,rJ fr (kG fr deep c)with
  |some x,true=>.t x
  |_,_=>c
def fT(m:Nat)(fr:Fr):Lb->Lb
 | .box v T u=>.box v T (u.map (ve m fr))
 |b=>b
def eO:Nat->Fr->Fr
 |_,[]=>[]
 |0,b::bs=>b6 b::eO 0 bs
 |n+1,b::bs=>b::eO n bs
def fin(m:Nat)(D:SV)(fr:Fr):Option (SV×Fr):=
 let z:=dp fr (un D)
 let u:=bR (List.range m) z.refs
 match u with
 |[]=>some (z,[])
 |_=>
  let fr1:=freeze fr (inner m fr u)
  match cJ fr1 u with
  |none=>none
  |some bs=>
   let v:=bs.map (fT m fr1)
   match iM u v with
   |false=>match cJ fr (close fr 4 u)with
    |none=>none
    |some y=>match iM (close fr 4 u) y with
     |false=>none
     |true=>some (z.sub (aT (close fr 4 u)),eO m (y.map (Lb.sub (aT (close fr 4 u)))))
   |true=>some (z.sub (aT u),eO m (v.map (Lb.sub (aT u))))
def eH(m:Nat)(o:Option SV)(fr:Fr):Option (SV×Fr):=match o with
 |some r=>fin m r fr
 |none=>none
def kJ(b:Bool)(m:Nat)(o:Option (SV×Fr)):Option (SV×Fr):=match b with
 |false=>o
 |true=>match o with
  |none=>none
  |some (r,u)=>match m with
   |0=>match fJ u deep r with
    |some x=>some (.t x,[])
    |none=>some (r,u)
   |_+1=>some (r,u)
def mf(xs:List SV):Env:=fun t=>match xs[t]? with|some x=>x|none=>.dead
def eu:List ResultVar->List (Nat×Option Nat)
 |[]=>[]
 | .tmp t::r=>(t,none)::eu r
 | .cell t T::r=>(t,some T)::eu r
mutual
def b9(g:Cfg):Nat->Nat->List SV->Fr->Option (SV×Fr)
 |0,_,_,_=>none
 |n+1,f,u,fr=>match g.ok f with
  |false=>match fr,e7 u with
   |[],some xs=>g.ext f xs
   |_,_=>g.exh f u fr
  |true=>match g.P.funcs[f]? with
   |none=>none
   |some fn=>match fn.body with
    |some c=>match Nat.ble u.length fn.ntmps with
     |false=>none
     |true=>match ba g f (b9 g n) (cN g n) c (mf u) fr with
      |some (.normal,e,r)=>kJ (g.tre f) fr.length (eH fr.length (mj g.P e r (eu fn.results.toList)) r)
      |some (.ret,e,r)=>kJ (g.tre f) fr.length (eH fr.length (mj g.P e r (eu fn.results.toList)) r)
      |_=>none
    |none=>none
def cN(g:Cfg):Nat->Nat->Code->Env->Fr->Option (Out×Env×Fr)
 |0,_,_,_,_=>none
 |n+1,f,b,env,fr=>match ba g f (b9 g n) (cN g n) b env fr with
  |some (.normal,e,r)=>cN g n f b (head (g.lv f (ck b)) fr.length e r).1 (head (g.lv f (ck b)) fr.length e r).2
  |x=>x
end
mutual
theorem SV.r8:∀x:SV,SV.sub some x=x
 | .t x=>by rw[SV.sub]
 | .nil=>by rw[SV.sub]
 | .tc v=>by rw[SV.sub]
 | .nn v=>by rw[SV.sub]
 | .lp i j=>by rw[SV.sub]
 | .ls i=>by rw[SV.sub]
 | .lv i sz a n=>by rw[SV.sub]
 | .le i sz k j=>by rw[SV.sub]
 | .lm i=>by rw[SV.sub]
 | .lo i p=>by rw[SV.sub]
 | .lr i p k=>by rw[SV.sub]
 | .agg u=>by rw[SV.sub,SV.jQ u]
 | .aL u=>by rw[SV.sub,SV.jQ u]
 | .fn f y u=>by rw[SV.sub,SV.jQ u]
 | .aN s=>by rw[SV.sub,SV.r8 s]
 | .no=>by rw[SV.sub]
 | .dead=>by rw[SV.sub]
theorem SV.jQ:∀cs:List SV,SV.ca some cs=cs
 |[]=>by rw[SV.ca]
 |c::cs=>by rw[SV.ca,SV.r8 c,SV.jQ cs]
end
def j8{l:List Nat}{i:Nat}:bi l i=true↔i∈l:=by
 unfold bi;rw[List.any_eq_true];constructor
 ·rintro⟨j,u,h⟩;rw[Nat.beq_eq]at h;rw[h];exact u
 ·intro h;exact⟨i,h,by simp⟩
def dJ{l:List Nat}{i:Nat}:bi l i=false↔i∉l:=by
 rw[<- Bool.not_eq_true,j8]
def uD{ks:List Nat}{i j:Nat}(h:cM ks i=some j):j=i/\i∉ks:=by
 unfold cM at h;split at h
 ·cases h
 ·rename_i u;cases h;exact⟨rfl,dJ.1 u⟩
def yh{h i j:Nat}(hh:iV h i=some j):j=i/\i <h:=by
 unfold iV at hh;split at hh
 ·rename_i u;cases hh;exact⟨rfl,by simpa[Nat.blt_eq]using u⟩
 ·cases hh
theorem xv(l:List Nat):∀(fr:Fr) (k i:Nat),(kX l k fr)[i]?=(fr[i]?).map (kY (bi l (k+i)))
 |[],k,i=>by simp[kX]
 |b::r,k,0=>by simp[kX]
 |b::r,k,i+1=>by
  rw[kX,List.getElem?_cons_succ,List.getElem?_cons_succ,xv l r (k+1) i];rw[show k+1+i=k+(i+1) by omega]
def lZ(l:List Nat)(fr:Fr)(i:Nat):(freeze fr l)[i]?=(fr[i]?).map (kY (bi l i)):=by
 unfold freeze;split
 ·cases fr[i]? <;>rfl
 ·rw[xv,Nat.zero_add]
def DT{fr:Fr}{l:List Nat}(h:o_ fr l=true):freeze fr l=fr:=by
 apply List.ext_getElem?;intro i;rw[lZ]
 cases u:fr[i]? with
 |none=>rfl
 |some b=>
  show some (kY (bi l i) b)=some b
  cases v:bi l i with
  |false=>rfl
  |true=>
   have h1:=List.all_eq_true.1 h i (j8.1 v);rw[u]at h1;have h2:b.ro=true:=h1;show some (pK b)=some b
   cases b <;>(simp only[Lb.ro]at h2;subst h2;rfl)
def nj(l:List Nat)(fr:Fr):(freeze fr l).length=fr.length:=by
 have u:∀(fr:Fr) (k:Nat),(kX l k fr).length=fr.length:=fun fr=>by
  induction fr with
  |nil=>intro k;rfl
  |cons b r v=>intro k;rw[kX];simp[v]
 unfold freeze;split
 ·rfl
 ·exact u fr 0
def qZ(ks:List Nat)(fr:Fr)(i:Nat):(dw ks fr)[i]?=(fr[i]?).map (Lb.sub (cM ks)):=by
 unfold dw;split
 ·have:cM []=some:=rfl;rw[this]
  have:Lb.sub some=id:=by
   funext b;cases b <;>simp[Lb.sub,SV.jQ]
  rw[this];simp
 ·rw[List.getElem?_map]
def k8(ks:List Nat)(fr:Fr):(dw ks fr).length=fr.length:=by
 unfold dw;split
 ·rfl
 ·simp
def Lb.r8(b:Lb):Lb.sub some b=b:=by cases b <;>simp[Lb.sub,SV.jQ]
def Lb.lu(σ:Nat->Option Nat)(b:Lb):(b.sub σ).ro=b.ro:=by cases b <;>rfl
def Lb.r9(σ:Nat->Option Nat)(b:Lb):(b.sub σ).tch=b.tch:=by cases b <;>rfl
def fM(σ:Nat->Option Nat):Lb->Lb->Prop
 | .box v T I,.box u G y=>(v=true->u=true)/\G=T/\y=SV.ca σ I
 | .row v _ sz es,.row u _ sz' es'=>(v=true->u=true)/\sz'=sz/\es'=es
 | .map v ks J,.map u z D=>(v=true->u=true)/\z=ks/\D=SV.ca σ J
 | .own v x,.own u O=>(v=true->u=true)/\O=x
 |_,_=>False
theorem fM.ro{σ:Nat->Option Nat}{b u:Lb}(h:fM σ b u)(hr:u.ro=false):b.ro=false:=by
 cases b <;>cases u <;>first|exact h.elim|skip
 all_goals
  rw[<- Bool.not_eq_true];intro h1;have:=h.1 h1;exact absurd (this.symm.trans hr) (by decide)
def kR(σ:Nat->Option Nat)(b:Lb):fM σ b (b.sub σ):=by cases b <;>first|exact⟨id,rfl,rfl⟩|exact⟨id,rfl⟩
def wx(b:Lb):fM some b b:=by
 cases b with
 |box=>exact⟨id,rfl,(SV.jQ _).symm⟩
 |row=>exact⟨id,rfl,rfl⟩
 |map=>exact⟨id,rfl,(SV.jQ _).symm⟩
 |own=>exact⟨id,rfl⟩
def BQ(b:Lb):fM some b (pK b):=by
 cases b with
 |box=>exact⟨fun _=>rfl,rfl,(SV.jQ _).symm⟩
 |row=>exact⟨fun _=>rfl,rfl,rfl⟩
 |map=>exact⟨fun _=>rfl,rfl,(SV.jQ _).symm⟩
 |own=>exact⟨fun _=>rfl,rfl⟩
def BO(b:Lb)(q:Bool):fM some b (kY q b):=by
 cases q
 ·exact wx b
 ·exact BQ b
def Hh(b:Lb):(pK b).ro=true:=by cases b <;>rfl
def Hi(b:Lb):(pK b).tch=b.tch:=by cases b <;>rfl
def DU(b:Lb)(q:Bool):(kY q b).tch=b.tch:=by
 cases q
 ·rfl
 ·exact Hi b
def fO(n:Nat)(L:Ls)(π:Nat->Nat):Ls:=fun j=>if j <n then L (π j)else none
section
variable {γ:Glob} {κ:Ctx} {fr:Fr} {L:Ls} {w:World}
def l9{A A':Nat->Prop}{L L':Ls}{w w':World}{σ:Nat->Option Nat}{i j:Nat}{b O:Lb}(hs:w.heap.size<=w'.heap.size)(Z:∀b,b <w.heap.size->A b->A' b/\w'.heap[b]?=w.heap[b]?)(hL:∀i j v,σ i=some j->L i=some v->L' j=some v)
  (D:∀v,L i=some v->L' j=some v)(z:∀v k,L i=some v->Bk v k->w'.heap[k]?=w.heap[k]?)(U:∀T sz v n us,L i=some v->b8 w T sz v n us->b8 w' T sz v n us)(hb:fM σ b O)(h:h_ A L w i b):h_ A' L' w' j O:=by
 cases b with
 |box ro T cs=>
  cases O with
  |box J T' ag=>
   obtain⟨_,rfl,rfl⟩:=hb;obtain⟨g,us,h1,h2,h3,h4⟩:=h;refine⟨g,us,D _ h1,(z _ g h1 (.one rfl)).trans h2,by rw[SV.oc];exact h3,fun k x u y V=>?_⟩;rw[SV.n_]at y
   cases I:cs[k]? with
   |none=>rw[I]at y;cases y
   |some c=>rw[I]at y;cases y;exact SR.sub σ hs Z hL (h4 k c u I V)
  |row=>exact hb.elim
  |map=>exact hb.elim
  |own=>exact hb.elim
 |row ro an sz es=>
  cases O with
  |box=>exact hb.elim
  |map=>exact hb.elim
  |own=>exact hb.elim
  |row J af am ak=>
   obtain⟨_,rfl,rfl⟩:=hb;obtain⟨T,v,us,h1,h2,ad,h3,h4⟩:=h;refine⟨T,v,us,D _ h1,U T _ v _ us h1 h2,ad,h3,fun k q cs x hk hq=>?_⟩;obtain⟨u,h5,h6⟩:=h4 k q cs x hk hq;exact⟨u,h5,VR.on hs Z h6⟩
 |map ro ks vs=>
  cases O with
  |box=>exact hb.elim
  |row=>exact hb.elim
  |own=>exact hb.elim
  |map J al ao=>
   obtain⟨_,rfl,rfl⟩:=hb;obtain⟨r,Q,G,h1,h2,h3,h4,h5,h6,h7⟩:=h;refine⟨r,Q,G,D _ h1,(z _ r h1 (.one rfl)).trans h2,h3,by rw[SV.oc];exact h4,fun k x u y V=>VR.on hs Z (h5 k x u y V),fun k x u y V=>?_,h7⟩;rw[SV.n_]at y
   cases I:vs[k]? with
   |none=>rw[I]at y;cases y
   |some c=>rw[I]at y;cases y;exact SR.sub σ hs Z hL (h6 k c u I V)
 |own ro x=>
  cases O with
  |box=>exact hb.elim
  |row=>exact hb.elim
  |map=>exact hb.elim
  |own J x'=>
   obtain⟨_,rfl⟩:=hb;obtain⟨v,t,h1,h2⟩:=h;exact⟨v,t,D _ h1,h2.same fun b hb=>z _ b h1 hb⟩
def ar.pC(y:ar γ κ fr L w)(fr':Fr)(π:Nat->Nat)(σ:Nat->Option Nat)(V:∀j k,j <fr'.length->k <fr'.length->π j=π k->j=k)(hσ:∀i j v,σ i=some j->L i=some v->j <fr'.length/\π j=i)
  (D:∀j lb',fr'[j]?=some lb'->∃z,fr[π j]?=some z/\fM σ z lb')(O:∀j v,κ.L j=some v->∃z lb',fr[j]?=some z/\fr'[j]?=some lb'/\π j=j/\(lb'.tch=false->z.tch=false)):
  ar γ κ fr' (fO fr'.length L π) w/\(∀b,MA κ.M fr L b->MA κ.M fr' (fO fr'.length L π) b)/\∀i j v,σ i=some j->L i=some v->fO fr'.length L π j=some v:=by
 have u:∀j v,fO fr'.length L π j=some v->j <fr'.length/\L (π j)=some v:=fun j v h=>by
  unfold fO at h;split at h
  ·rename_i G;exact⟨G,h⟩
  ·cases h
 have Q:∀i j v,σ i=some j->L i=some v->fO fr'.length L π j=some v:=fun i j v h1 h2=>by
  obtain⟨G,hp⟩:=hσ i j v h1 h2;unfold fO;rw[if_pos G,hp];exact h2
 have U:∀b,MA κ.M fr L b->MA κ.M fr' (fO fr'.length L π) b:=fun b Z=>⟨Z.1,fun⟨j,v,lb',h1,h2,h3,h4⟩=>by
  obtain⟨G,h1⟩:=u j v h1;obtain⟨z,I,J⟩:=D j lb' h3;exact Z.2 ⟨π j,v,z,h1,h2,I,J.ro h4⟩⟩
 refine⟨⟨y.bN,y.gn,y.gx,y.fresh,y.os,y.tape,y.output,y.size,y.kept,fun j v h=>(u j v h).1,fun j v b lb' h1 h2 h3=>?_,fun j k v v' b h1 h2 h3 h4=>?_,fun j v h=>?_,fun j lb' h=>?_⟩,U,Q⟩
 ·obtain⟨G,h1⟩:=u j v h1;obtain⟨z,I,J⟩:=D j lb' h3;obtain⟨a1,a2,a0,a3⟩:=y.new (π j) v b z h1 h2 I;exact⟨a1,a2,a0,fun hr=>a3 (J.ro hr)⟩
 ·obtain⟨G,h1⟩:=u j v h1;obtain⟨hk,h2⟩:=u k v' h2;exact V j k G hk (y.bW _ _ v v' b h1 h2 h3 h4)
 ·obtain⟨z,lb',h1,h2,h3,h4⟩:=O j v h;refine⟨lb',h2,fun ht=>?_⟩;obtain⟨ad,I,J⟩:=y.hand j v h;rw[h1]at I;cases I;unfold fO;rw[if_pos (aC h2),h3];exact J (h4 ht)
 ·obtain⟨z,I,J⟩:=D j lb' h;have G:=aC h;refine l9 (i:=π j) (Nat.le_refl _) (fun b _ Z=>⟨U b Z,rfl⟩) Q (fun v hv=>?_) (fun _ _ _ _=>rfl) (fun _ _ _ _ _ _ h=>h) J (y.blk (π j) z I);unfold fO;rw[if_pos G];exact hv
end
end Go.Proofs.YtgbfedgghjcdcaaGreatDoor
