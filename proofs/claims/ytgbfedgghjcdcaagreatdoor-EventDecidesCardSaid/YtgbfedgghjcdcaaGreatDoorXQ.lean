/- Law 52: the library's readers of texts as contracts. No condition. -/
import Derived.Test.YtgbfedgghjcdcaaGreatDoorWQ
import Derived.Test.YtgbfedgghjcdcaaGreatDoorXA
import Derived.Test.YtgbfedgghjcdcaaGreatDoorWCL
import Derived.Test.YtgbfedgghjcdcaaGreatDoorWCI
import Derived.Test.YtgbfedgghjcdcaaGreatDoorWCW
set_option linter.all false
namespace Go.Proofs.YtgbfedgghjcdcaaGreatDoor
open Go.RowKit
set_option maxRecDepth 100000
def p_(w:World):Prop:=(∃u,w.cell? ⟨1,0,none⟩=some u/\(u=.nilIface\/∃y v,u=.iface y v))/\(∃u,w.cell? ⟨2,0,none⟩=some u/\(u=.nilIface\/∃y v,u=.iface y v))/\∃m,w.cell? ⟨0,0,none⟩=some (.int .i64 m)
def nV:Nat:=max (max 1 2) (max 0 3)+1
def ti{w w':World}{g:Nat}{v:Value}(h:w.cell? ⟨g,0,none⟩=some v)(he:w'.heap[g]?=w.heap[g]?):w'.cell? ⟨g,0,none⟩=some v:=by
 rw[World.cell?_of_block (w:=w) he];exact h
def j7:Glob where
 G:=fun w=>iK w/\p_ w
 n:=nV
 stays:=fun w w' h u=>by
  obtain⟨I,⟨z,h1,v⟩,⟨D,h2,y⟩,m,h3⟩:=h;exact⟨Ih I (u _ (by decide)),⟨z,ti h1 (u _ (by decide)),v⟩,⟨D,ti h2 (u _ (by decide)),y⟩,m,ti h3 (u _ (by decide))⟩
def sD{M:Nat->Prop}{w:World}{us:Array Value}{s p:ByteArray}(hs:us.size=2)(hv:∀(j:Nat) (x:AV) (u:Value),[AV.str s,AV.str p][j]?=some x->us[j]?=some u->VR M w x u):us=#[.string s,.string p]:=by
 have v:=pU (hv 0 _ us[0] rfl (by rw[Array.getElem?_eq_getElem (by omega)]));have h1:=pU (hv 1 _ us[1] rfl (by rw[Array.getElem?_eq_getElem (by omega)]));apply Array.ext
 ·simp[hs]
 ·intro i h2 h3;have:i=0\/i=1:=by simp at h3;omega
  rcases this with rfl|rfl
  ·simpa using v
  ·simpa using h1
def FN{M:Nat->Prop}{w:World}{us:Array Value}{s:ByteArray}(hs:us.size=1)(hv:∀(j:Nat) (x:AV) (u:Value),[AV.str s][j]?=some x->us[j]?=some u->VR M w x u):us=#[.string s]:=by
 have v:=pU (hv 0 _ us[0] rfl (by rw[Array.getElem?_eq_getElem (by omega)]));apply Array.ext
 ·simp[hs]
 ·intro i h2 h3;have:i=0:=by simp at h3;omega
  subst this;simpa using v
def rW{A:Nat->Prop}{L:Ls}{w:World}{x y:SV}{u v:Value}(h1:SR A L w x u)(h2:SR A L w y v):SR A L w (.aL [x,y]) (.tuple #[u,v]):=by
 refine .aL _ _ rfl fun j s z hs D=>?_
 match j with
 |0=>simp at hs D;subst hs D;exact h1
 |1=>simp at hs D;subst hs D;exact h2
 |j+2=>simp at hs
def HZ{A:Nat->Prop}{L:Ls}{w:World}{x y z:SV}{u v t:Value}(h1:SR A L w x u)(h2:SR A L w y v)(h3:SR A L w z t):SR A L w (.aL [x,y,z]) (.tuple #[u,v,t]):=by
 refine .aL _ _ rfl fun j s q hs D=>?_
 match j with
 |0=>simp at hs D;subst hs D;exact h1
 |1=>simp at hs D;subst hs D;exact h2
 |2=>simp at hs D;subst hs D;exact h3
 |j+3=>simp at hs
def Bz(s:ByteArray)(hs:s.size<=1048576)(h:∀v,Lib.atoiAll s.data.toList≠.ok v)(w:World)(hv:p_ w):
  Calls Tryz.prog 108 #[.string s] w fun e w'=>∃Q O,e=.returned (.tuple #[.int .i64 (mN s.data.toList),.iface Q O])/\Below w.heap.size w w':=by
 obtain⟨⟨I,h1,y⟩,⟨J,h2,z⟩,m,h3⟩:=hv
 cases u:Lib.atoiAll s.data.toList with
 |ok v=>exact absurd u (h v)
 |range=>
  have e:mN s.data.toList=Lib.atoiSat s.data.toList:=by unfold mN;rw[u]
  rw[e];exact(Go.Proofs.Any.strconv_Atoi_range Tryz.laysC172 s (by omega) u J w h2 z).mono fun e w' ⟨N,G,_,_,D⟩=>⟨_,_,G,D⟩
 |_=>
  have e:mN s.data.toList=0:=by unfold mN;rw[u]
  rw[e];exact(Go.Proofs.Any.strconv_Atoi_syntax Tryz.laysC172 s (by omega) u I w h1 y).mono fun e w' ⟨N,G,_,_,D⟩=>⟨_,_,G,D⟩
def Jd(f:Nat)(xs:List AV)(r:SV)(fr':Fr)(h:oZ f xs=some (r,fr')):eS Tryz.prog f/\∀(κ:Ctx) (w:World) (us:Array Value),ar j7 κ [] κ.L w->κ.W=w->us.size=xs.length->(∀(j:Nat) (x:AV) (u:Value),xs[j]?=some x->us[j]?=some u->VR (MA κ.M [] κ.L) w x u)->
  Calls Tryz.prog f us w fun e w'=>∃v L',e=.returned v/\ar j7 κ fr' L' w'/\SR (MA κ.M fr' L') L' w' r v:=by
 unfold oZ at h;split at h
 ·rename_i s p;split at h
  ·rename_i z;have z:f=106:=by simpa using z
   subst z;cases h;refine⟨⟨_,Tryz.func106,by kernel_rfl,by kernel_rfl⟩,fun κ w us G hκ hs U=>?_⟩;obtain rfl:=sD hs U;exact(Tryz.strings_CutPrefix s p w).mono fun e w' ⟨J,O⟩=>⟨_,κ.L,J,by rw[O];exact G,rW (.t _ _ (.str _)) (.t _ _ (.bool _))⟩
  ·split at h
   ·rename_i z;rw[Bool.and_eq_true]at z;obtain⟨z,D⟩:=z;have z:f=107:=by simpa using z
    subst z;cases h;refine⟨⟨_,Tryz.func107,by kernel_rfl,by kernel_rfl⟩,fun κ w us G hκ hs U=>?_⟩;obtain rfl:=sD hs U;exact(Tryz.strings_CutSuffix s p w (of_decide_eq_true D)).mono fun e w' ⟨J,O⟩=>⟨_,κ.L,J,by rw[O];exact G,rW (.t _ _ (.str _)) (.t _ _ (.bool _))⟩
   ·split at h
    ·rename_i z;rw[Bool.and_eq_true,Bool.and_eq_true]at z;obtain⟨z,hp,D⟩:=z;have z:f=63:=by simpa using z
     have hp:p=⟨#[32]⟩:=of_decide_eq_true hp;have D:=of_decide_eq_true D;subst z hp;cases h;refine⟨⟨_,Tryz.func63,by kernel_rfl,by kernel_rfl⟩,fun κ w us G hκ hs U=>?_⟩;obtain rfl:=sD hs U;obtain⟨_,_,_,m,hm⟩:=G.bN;have V:(Lib.splitB ⟨#[32]⟩ 0 (Lib.countB s ⟨#[32]⟩) s).length=Lib.countB s ⟨#[32]⟩+1:=Lib.splitB_all _ (by decide) 0 _ s rfl;refine(Go.Proofs.Any.strings_Split {Tryz.laysM146 with} Tryz.laysM146.i9 s ⟨#[32]⟩ m w (by omega) hm (by decide)).mono fun e w' ⟨J,O⟩=>?_;have hb:Below w.heap.size w w':=by rw[O];exact(Below.refl _ _).alloc (Nat.le_refl _) _
     refine⟨_,κ.L,J,G.later hb,.t _ _ ?_⟩;have ao:=Lib.countB_le ⟨#[32]⟩ (by decide) _ s (Nat.le_refl _);obtain⟨W,hW⟩:∃W,Lib.splitB ⟨#[32]⟩ 0 (Lib.countB s ⟨#[32]⟩) s=W:=⟨_,rfl⟩;rw[hW]at V O⊢;have Q:(W.map fun w=>[AV.str w]).length=Lib.countB s ⟨#[32]⟩+1:=by rw[List.length_map,V]
     rw[<- Q];have af:=RC.lit w (W.map Value.string).toArray 9;have an:w'=w.alloc (.cells (W.map Value.string).toArray 9):=O;rw[<- an]at af;obtain⟨b,o,ak,ag,Z⟩:=af (by simp;omega);cases ak;refine VR.arr _ _ _ 1 _ (fun k _=>(W.map Value.string).getD k undef) (by intro h0;rw[h0]at Q;simp at Q) (by rw[Q];omega) (Nat.le_refl _) ag G.yD (fun k cs I=>?_) (fun k j I hj=>?_) (fun k j cs x I hj=>?_)
     ·rw[List.getElem?_map]at I
      cases hx:W[k]? with
      |none=>rw[hx]at I;cases I
      |some y=>rw[hx]at I;cases I;rfl
     ·rw[List.length_map]at I;have ad:j=0:=by omega
      subst ad;have:=Z k ((W.map Value.string).getD k undef) (by rw[List.getD_eq_getElem?_getD];simp[I]);simpa using this
     ·rw[List.getElem?_map]at I
      cases hx:W[k]? with
      |none=>rw[hx]at I;cases I
      |some y=>
       rw[hx]at I;cases I;have ad:j=0:=by have:=aC hj;simp at this;omega
       subst ad;cases hj;rw[List.getD_eq_getElem?_getD,List.getElem?_map,hx];exact .str y
    ·split at h
     ·rename_i z;rw[Bool.and_eq_true]at z;obtain⟨z,D⟩:=z;have z:f=60:=by simpa using z
      have D:=of_decide_eq_true D;subst z;cases h;refine⟨⟨_,Tryz.func60,by kernel_rfl,by kernel_rfl⟩,fun κ w us G hκ hs U=>?_⟩;obtain rfl:=sD hs U;obtain⟨_,_,_,m,hm⟩:=G.bN;exact(Tryz.strings_Cut s p m w (by omega) hm).mono fun e w' ⟨J,n,O⟩=>⟨_,κ.L,J,by rw[O];exact G.later (below_drewN (Below.refl _ _) n),HZ (.t _ _ (.str _)) (.t _ _ (.str _)) (.t _ _ (.bool _))⟩
     ·cases h
 ·rename_i s;split at h
  ·rename_i z;rw[Bool.and_eq_true]at z;obtain⟨z,D⟩:=z;have z:f=108:=by simpa using z
   have D:=of_decide_eq_true D;subst z;refine⟨⟨_,Tryz.func108,by kernel_rfl,by kernel_rfl⟩,fun κ w us G hκ hs U=>?_⟩;obtain rfl:=FN hs U;split at h
   ·rename_i v am;cases h;refine(Tryz.strconv_Atoi_ok s (by omega) v am w).mono fun e w' ⟨J,O⟩=>?_
    have hb:Below w.heap.size w w':=by
     rcases O with rfl|⟨t,rfl⟩
     ·exact Below.refl _ _
     ·exact Lib.bytesWorld_below _ _ _
    exact⟨_,κ.L,J,G.later hb,rW (.t _ _ (.int _ _)) (.t _ _ (.lit _ rfl))⟩
   ·rename_i al;cases h;refine(Bz s D (fun v h=>al v h) w G.bN.2).mono fun e w' ⟨te,pe,J,hb⟩=>?_;exact⟨_,κ.L,J,G.later hb,rW (.t _ _ (.int _ _)) (.t _ _ (.gI _ _))⟩
  ·cases h
 ·rename_i es;split at h
  ·rename_i z;have z:f=27:=by simpa using z
   subst z;exact I_ j7 h
  ·unfold wR at h;split at h
   ·rename_i z;have z:f=82:=by simpa using z
    subst z;exact Ja j7 h
   ·split at h
    ·rename_i z;have z:f=119:=by simpa using z
     subst z;exact Jb j7 h
    ·cases h
 ·cases h
def HY:wj Tryz.prog 132:=⟨⟨_,Tryz.func132,by kernel_rfl,rfl⟩,fun u v cap y w h1 h2 h3=>Tryz.slices_Sort_int u v cap y w h1 h2 h3,fun p cap w=>Tryz.slices_Sort_int_none p cap w⟩
def I9:Wf ap j7 where
 exh:=fun f v fr r fr' h=>by
  have h:ud f v fr=some (r,fr'):=h;unfold ud at h;split at h
  ·rename_i u;have u:f=132:=by simpa using u
   subst u;exact H0 HY h
  ·cases h
 seq:=fun G xs D O h J y=>by
  exact He G xs D O h J y
 mixed:=by kernel_rfl
 nh:=fun f u=>by
  have y:((List.range 239).all fun f=>!rB f ||ot ap f)=true:=by kernel_rfl
  have u:rB f=true:=u
  have z:f <239:=by
   have h:=u;unfold rB at h;split at h
   ·cases h
   ·simpa using h
  have:=List.all_eq_true.1 y f (List.mem_range.2 z);rw[u]at this;simpa using this
 ext:=fun f xs r fr' h=>by
  have h:oY f xs=some (r,fr'):=h;unfold oY at h;split at h
  ·rename_i q I;cases h;exact Jc (γ:=j7) (fun _ h=>h.1) f xs r fr' I
  ·exact Jd f xs r fr' h
end Go.Proofs.YtgbfedgghjcdcaaGreatDoor
