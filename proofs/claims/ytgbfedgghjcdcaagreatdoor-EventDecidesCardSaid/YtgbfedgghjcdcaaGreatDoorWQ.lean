/- Law 52: the arguments' shapes. No condition. -/
import Derived.Test.YtgbfedgghjcdcaaGreatDoorWA
import Derived.Test.YtgbfedgghjcdcaaGreatDoorTD
import Derived.Test.YtgbfedgghjcdcaaGreatDoorShelf
import Derived.Test.YtgbfedgghjcdcaaGreatDoorTW
set_option linter.all false
namespace Go.Proofs.YtgbfedgghjcdcaaGreatDoor
open Go.RowKit
set_option maxRecDepth 100000
theorem q_{α β:Type}{f:α->β}{R:α->Prop}:∀{es:List β},(∀c∈es,∃a,c=f a/\R a)->∃l:List α,es=l.map f/\∀a∈l,R a
 |[],_=>⟨[],rfl,fun a h=>by cases h⟩
 |c::es,h=>by
  obtain⟨a,rfl,v⟩:=h c List.mem_cons_self;obtain⟨l,rfl,z⟩:=q_ fun c y=>h c (List.mem_cons_of_mem _ y);refine⟨a::l,rfl,fun b u=>?_⟩;rcases List.mem_cons.1 u with rfl|u
  ·exact v
  ·exact z b u
def bY{m:Nat}{xs:List AV}(h:aP Tryz.prog (m+1) 3 xs):∃n,xs=[.int .i64 n]:=by
 simp only[aP,Tryz.underlying3]at h;obtain⟨n,h,_⟩:=h;exact⟨n,h⟩
def Hm{m:Nat}{xs:List AV}(h:aP Tryz.prog (m+1) 4 xs):∃n,xs=[.bool n]:=by
 simp only[aP,Tryz.underlying4]at h;exact h
def pL{m:Nat}{xs:List AV}(h:aP Tryz.prog (m+2) 22 xs):∃l:List Int,xs=[aF l]/\l.length<=17592186044416:=by
 rw[aP]at h;simp only[Tryz.underlying22]at h;obtain⟨z,rfl,y,v⟩:=h
 obtain⟨l,rfl,_⟩:=q_ (f:=fun n=>[AV.int .i64 n]) (R:=fun _=>True) fun c u=>by
  obtain⟨n,rfl⟩:=bY (v c u);exact⟨n,rfl,trivial⟩
 exact⟨l,rfl,by simpa using y⟩
def HC{m:Nat}{xs:List AV}(h:aP Tryz.prog (m+2) 32 xs):∃a b c:Int,xs=[.int .i64 a,.int .i64 b,.int .i64 c]:=by
 rw[aP]at h;simp only[Tryz.underlying32,eh]at h;obtain⟨v,_,rfl,u,y,_,rfl,h1,z,_,rfl,h2,rfl⟩:=h;obtain⟨a,rfl⟩:=bY u;obtain⟨b,rfl⟩:=bY h1;obtain⟨c,rfl⟩:=bY h2;exact⟨a,b,c,rfl⟩
def Hy{m:Nat}{xs:List AV}(h:aP Tryz.prog (m+3) 34 xs):∃a b c d:Int,xs=[.int .i64 a,.int .i64 b,.int .i64 c,.int .i64 d]:=by
 rw[aP]at h;simp only[Tryz.underlying34,eh]at h;obtain⟨v,_,rfl,u,y,_,rfl,h1,rfl⟩:=h;obtain⟨a,b,c,rfl⟩:=HC u;obtain⟨d,rfl⟩:=bY h1;exact⟨a,b,c,d,rfl⟩
def Hs{m:Nat}{xs:List AV}(h:aP Tryz.prog (m+4) 36 xs):∃e:Ev,xs=dh e/\e.past.length<=17592186044416:=by
 rw[aP]at h;simp only[Tryz.underlying36,eh]at h;obtain⟨O,_,rfl,u,Q,_,rfl,h1,U,_,rfl,h2,V,_,rfl,h3,Z,_,rfl,h4,y5,_,rfl,v,y6,_,rfl,y,y7,_,rfl,z,y8,_,rfl,D,y9,_,rfl,G,rfl⟩:=h;obtain⟨r,rfl⟩:=bY u;obtain⟨n,rfl⟩:=bY h1;obtain⟨t,rfl⟩:=bY h2;obtain⟨past,rfl,I⟩:=pL h3;obtain⟨k,rfl⟩:=bY h4;obtain⟨a,rfl⟩:=bY v;obtain⟨gk,gi,ge,ga,rfl⟩:=Hy y;obtain⟨J,rfl⟩:=bY z;obtain⟨pl,rfl⟩:=bY D;obtain⟨se,rfl⟩:=bY G;exact⟨⟨r,n,t,past,k,a,gk,gi,ge,ga,J,pl,se⟩,rfl,I⟩
def iK(w :World):Prop :=Lib.TabIs Tryz.prog w "internal/strconv.uint64pow10" .u64 Lib.pow10Tab
def uu :Tryz.prog.globalNamed "internal/strconv.uint64pow10" =some 3 :=by kernel_rfl
def Ih{w w':World}(h:iK w)(he:w'.heap[3]?=w.heap[3]?):iK w':=by
 unfold iK Lib.TabIs World.var? at h⊢;rw[uu]at h⊢;simp only[Option.bind_some]at h⊢;rw[he];exact h
def Ii{w:World}(h:iK w):3 <w.heap.size:=by
 unfold iK Lib.TabIs World.var? at h;rw[uu]at h;simp only[Option.bind_some]at h;rcases Nat.lt_or_ge 3 w.heap.size with h1|h1
 ·exact h1
 ·rw[Array.getElem?_eq_none h1]at h;cases h
def BE(w:World)(k:Nat)(os:Array Obj):Below w.heap.size w (Go.Sort.grow (w.drewN k) os):=
 ⟨rfl,rfl,rfl,by simp[Go.Sort.grow],fun i u=>by show(w.heap++os)[i]?=_;rw[Array.getElem?_append_left u]⟩
theorem Au:∀{es:List (List AV)} {l:List ByteArray},pN es=some l->es=l.map fun s=>[.str s]
 |[],l,h=>by unfold pN at h;cases h;rfl
 |c::es,l,h=>by
  unfold pN at h;split at h
  ·rename_i e;cases e
  ·rename_i s r e;cases e;split at h
   ·rename_i v u;cases h;rw[Au u];rfl
   ·cases h
  ·cases h
def I7{M:Nat->Prop}{w:World}{k:IntKind}{n:Int}{v:Value}(h:VR M w (.int k n) v):v=.int k n:=by cases h;rfl
def pU{M:Nat->Prop}{w:World}{s:ByteArray}{v:Value}(h:VR M w (.str s) v):v=.string s:=by cases h;rfl
def Jc{γ:Glob}(hG:∀w,γ.G w->iK w)(f:Nat)(xs:List AV)(r:SV)(fr':Fr)(h:qB f xs=some (r,fr')):eS Tryz.prog f/\∀(κ:Ctx) (w:World) (us:Array Value),ar γ κ [] κ.L w->κ.W=w->us.size=xs.length->(∀(j:Nat) (x:AV) (u:Value),xs[j]?=some x->us[j]?=some u->VR (MA κ.M [] κ.L) w x u)->
  Calls Tryz.prog f us w fun e w'=>∃v L',e=.returned v/\ar γ κ fr' L' w'/\SR (MA κ.M fr' L') L' w' r v:=by
 unfold qB at h;split at h
 ·rename_i n hf;have hf:f=68:=by simpa using hf
  subst hf;split at h
  ·rename_i D;have D:=of_decide_eq_true D;cases h;refine⟨⟨_,Tryz.func68,by kernel_rfl,by kernel_rfl⟩,fun κ w us Z hκ hs hv=>?_⟩;have hT:iK w:=hG _ Z.bN
   have e:us=#[.int .i64 n]:=by
    have hs:us.size=1:=hs;have J:=hv 0 _ us[0] rfl (by rw[Array.getElem?_eq_getElem (by omega)]);have:=I7 J;apply Array.ext
    ·simp[hs]
    ·intro i h1 h2;have:i=0:=by simp at h2;omega
     subst this;simpa using ‹us[0]=_›
   subst e;refine(Tryz.strconv_Itoa n (by omega) (by omega) w hT).mono fun e w' ⟨O,k,os,hw⟩=>?_;have af:Below w.heap.size w w':=by rw[hw];exact BE w k os
   exact⟨_,κ.L,O,Z.later af,.t _ _ (.str _)⟩
  ·cases h
 ·rename_i V z hf;split at h
  ·rename_i l I hl;have I:f=70:=by simpa using I
   subst I;split at h
   ·rename_i D;have D:=of_decide_eq_true D;cases h;refine⟨⟨_,Tryz.func70,by kernel_rfl,by kernel_rfl⟩,fun κ w us Z hκ hs hv=>?_⟩;have y:=Au hl
    obtain⟨v0,am⟩:∃v0,us=#[v0,.string z]/\VR (MA κ.M [] κ.L) w (.arr V) v0:=by
     have hs:us.size=2:=hs;have J:=hv 0 _ us[0] rfl (by rw[Array.getElem?_eq_getElem (by omega)]);have h1:=pU (hv 1 _ us[1] rfl (by rw[Array.getElem?_eq_getElem (by omega)]));refine⟨us[0],?_,J⟩;apply Array.ext
     ·simp[hs]
     ·intro i h2 h3;have:i=0\/i=1:=by simp at h3;omega
      rcases this with rfl|rfl
      ·rfl
      ·simpa using h1
    obtain⟨rfl,J⟩:=am;have fin:∀(e:Ending) (w':World),e=.returned (.string ⟨(Lib.join (l.map (·.data.toList)) z.data.toList).toArray⟩)/\Below w.heap.size w w'->∃v L',e=.returned v/\ar γ κ [] L' w'/\SR (MA κ.M [] L') L' w' (.t (.str ⟨(Lib.join (l.map (·.data.toList)) z.data.toList).toArray⟩)) v:=fun e w' ⟨O,D⟩=>⟨_,κ.L,O,Z.later D,.t _ _ (.str _)⟩
    cases J with
    |bj A c=>
     have:l=[]:=by cases l with|nil=>rfl|cons a l=>simp at y
     subst this;exact(Tryz.strings_Join_none A c z w).mono fun e w' ⟨O,hw⟩=>fin e w' ⟨by rw[O];rfl,by rw[hw];exact Below.refl _ _⟩
    |arr b o c sz V us ak ao an ad hM al hc hr=>
     have U:sz=1:=by
      cases l with
      |nil=>exact absurd y ak
      |cons a l=>have:=al 0 [.str a] (by rw[y];rfl);simpa using this.symm
     subst U;have Q:V.length=l.length:=by rw[y];simp
     have hj:=Tryz.strings_Join b o c l z w (fun j x hx=>by
      have ag:j <V.length:=by rw[Q];exact aC hx
      have h1:=hc j 0 ag (by omega);have h2:=hr j 0 [.str x] (.str x) (by rw[y,List.getElem?_map,hx];rfl) rfl;rw[pU h2]at h1;simpa using h1) ad (by omega) (by omega) D
     rw[<- Q]at hj;exact hj.mono fun e w' h=>fin e w' h
   ·cases h
  ·cases h
 ·cases h
end Go.Proofs.YtgbfedgghjcdcaaGreatDoor
